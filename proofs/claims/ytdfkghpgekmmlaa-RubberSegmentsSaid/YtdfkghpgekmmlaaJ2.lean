/- Texts F14, Q3, L15, Q4, F13, F15, Q5, Q6, F16, Y2b, GSegs of one proof, one behind the other. -/
import Derived.Test.YtdfkghpgekmmlaaJ1
import Derived.Test.YtdfkghpgekmmlaaM0
import Derived.Test.YtdfkghpgekmmlaaM3
import Derived.IntWalk
import Derived.Shelf.SlicesQ.IndexFunc
import Derived.Test.YtdfkghpgekmmlaaL13
import Derived.Test.YtdfkghpgekmmlaaL12
/- rubber: steps' closure (printed by my walk.py) -/
namespace Go.Proofs.Ytdfkghpgekmmlaa
open Go.RowKit
set_option linter.unusedVariables false
set_option linter.unusedSimpArgs false
attribute [local go_sem] vN bT bF rS vSg vPc vW vM vL vT2 vT3 vP vI execOp Act.eval evC bigF vB hi_zero lo_zero Try.underlying36 Try.underlying39 Try.underlying59

set_option maxRecDepth 100000 in
set_option maxHeartbeats 8000000 in
theorem step1_any (l : List Sg) (day off : Int) (i : Nat) (hL : LOk l day off) (h1 : i < l.length) : Ret 44 #[vPc ((sgi l i).d) ((sgi l i).b * 100000000000) (jn (sgi l i).f 0 0) ((sgi l i).r * 100000000000) (endS l day off i) (untS l day i)] (.bool (!stB l day off i)) := by
  have hs := hL.seg i h1; have hE := hL.end_bd h1; have q1 := hL.unt_day h1; have q2 := hL.unt_ge h1; have y0 := hL.y0; have y1 := hL.y1
  have c1 := cn_jn (d := untS l day i - 1) (s := 0) (a := 0) (by omega) (by omega) (by omega) (by omega) (by omega) (by omega)
  have c2 := cn_jn (d := untS l day i) (s := 1) (a := 0) (by omega) (by omega) (by omega) (by omega) (by omega) (by omega)
  have hn1 := c1.near; have hn2 := c2.near; have b1 := fS_bd hs c1; have b2 := fS_bd hs c2; unfold Cn at c1 c2
  intro w0
  have hst := St.start w0 (Θ := fun _ => True) (fun _ _ => trivial)
  refine en_ Try.func44 hst 29 [(0, vPc ((sgi l i).d) ((sgi l i).b * 100000000000) (jn (sgi l i).f 0 0) ((sgi l i).r * 100000000000) (endS l day off i) (untS l day i))] (fun ac h => ?_)
  refine wp_seq ?_
  refine rg_ h [[0],[1]] [KE_ fun env => vP (pb env 0) 0, K_ bF] (fun E1 => [(1, vP (pb E1 0) 0), (2, bF)]) (W := [{ i := 0, T := 59, c0 := [vI ((sgi l i).d), vI (hi ((sgi l i).b * 100000000000)), .int .u64 (lo ((sgi l i).b * 100000000000)), vI (hi (jn (sgi l i).f 0 0)), .int .u64 (lo (jn (sgi l i).f 0 0)), vI (hi (dayA)), .int .u64 (lo (dayA)), vI (hi (dayA + (sgi l i).r * 100000000000)), .int .u64 (lo (dayA + (sgi l i).r * 100000000000)), vI (hi ((sgi l i).r * 100000000000)), .int .u64 (lo ((sgi l i).r * 100000000000)), vI (hi (endS l day off i)), .int .u64 (lo (endS l day off i)), vI (untS l day i)] }]) (M' := fun E1 => [((pb E1 0), 59, [vI ((sgi l i).d), vI (hi ((sgi l i).b * 100000000000)), .int .u64 (lo ((sgi l i).b * 100000000000)), vI (hi (jn (sgi l i).f 0 0)), .int .u64 (lo (jn (sgi l i).f 0 0)), vI (hi (dayA)), .int .u64 (lo (dayA)), vI (hi (dayA + (sgi l i).r * 100000000000)), .int .u64 (lo (dayA + (sgi l i).r * 100000000000)), vI (hi ((sgi l i).r * 100000000000)), .int .u64 (lo ((sgi l i).r * 100000000000)), vI (hi (endS l day off i)), .int .u64 (lo (endS l day off i)), vI (untS l day i)])]) (hs := c_ (bx0 0 (vPc ((sgi l i).d) ((sgi l i).b * 100000000000) (jn (sgi l i).f 0 0) ((sgi l i).r * 100000000000) (endS l day off i) (untS l day i))) <| c_ mv_ <| e_) (k := fun E1 ac wd h_1 => ?_)
  clear h
  refine then_n (wp_seq ?_)
  refine rg_ h_1 [[0],[1],[1,2],[1,2,3],[1,2,3,4],r_ 6,[6],r_ 8] [K_ (vPc ((sgi l i).d) ((sgi l i).b * 100000000000) (jn (sgi l i).f 0 0) ((sgi l i).r * 100000000000) (endS l day off i) (untS l day i)), K_ (vP (pb E1 0) 13), K_ (vI (untS l day i)), K_ (vI ((untS l day i) - 1)), K_ (vW (jn ((untS l day i) - 1) 0 0)), K_ (vW (fS (sgi l i) (jn ((untS l day i) - 1) 0 0))), KE_ fun env => vP (pb env 6) 0, none] (fun E2 => [(1, vP (pb E1 0) 0), (2, bF), (3, vP (pb E2 6) 0)]) (W := [{ i := 6, T := 39, c0 := [vI 0, .int .u64 0], s := some 7, c1 := fun _ => [vI (hi (fS (sgi l i) (jn ((untS l day i) - 1) 0 0))), .int .u64 (lo (fS (sgi l i) (jn ((untS l day i) - 1) 0 0)))] }]) (M' := fun E2 => [((pb E1 0), 59, [vI ((sgi l i).d), vI (hi ((sgi l i).b * 100000000000)), .int .u64 (lo ((sgi l i).b * 100000000000)), vI (hi (jn (sgi l i).f 0 0)), .int .u64 (lo (jn (sgi l i).f 0 0)), vI (hi (dayA)), .int .u64 (lo (dayA)), vI (hi (dayA + (sgi l i).r * 100000000000)), .int .u64 (lo (dayA + (sgi l i).r * 100000000000)), vI (hi ((sgi l i).r * 100000000000)), .int .u64 (lo ((sgi l i).r * 100000000000)), vI (hi (endS l day off i)), .int .u64 (lo (endS l day off i)), vI (untS l day i)]), ((pb E2 6), 39, [vI (hi (fS (sgi l i) (jn ((untS l day i) - 1) 0 0))), .int .u64 (lo (fS (sgi l i) (jn ((untS l day i) - 1) 0 0)))])]) (hs := c_ (ld_ 0 (hrd := by exact rd59 rfl rfl rfl rfl rfl rfl rfl rfl rfl rfl rfl rfl rfl rfl)) <| c_ (fa0 (vP (pb E1 0) 0)) <| c_ (ld_ 0 (hrd := by exact rd3 rfl)) <| c_ (bi0 (vI (untS l day i)) (vI 1)) <| c_ (cl_ Try.func19 (h := fun env => ⟨_, (begin_any ((untS l day i) - 1) (by omega) (by omega)), rfl⟩)) <| c_ (cl_ Try.func18 (h := fun env => ⟨_, (pat_any (sgi l i).d ((sgi l i).b * 100000000000) (jn (sgi l i).f 0 0) ((sgi l i).r * 100000000000) (endS l day off i) (untS l day i) (jn ((untS l day i) - 1) 0 0) hs.pc hn1), rfl⟩)) <| c_ (al_ 1) <| c_ (sw_ 1 6 (hst := by exact fun _ _ _ hc => st39 rfl rfl rfl hc)) <| e_) (k := fun E2 ac wd h_2 => ?_)
  clear h_1
  refine then_n (wp_seq ?_)
  refine rg_ h_2 [[0],[1],[1,2],[1,2,3],[1,2,3,4],r_ 6,[6],r_ 8] [K_ (vPc ((sgi l i).d) ((sgi l i).b * 100000000000) (jn (sgi l i).f 0 0) ((sgi l i).r * 100000000000) (endS l day off i) (untS l day i)), K_ (vP (pb E1 0) 13), K_ (vI (untS l day i)), K_ (vL (untS l day i) 1 0), K_ (vW (jn (untS l day i) 1 0)), K_ (vW (fS (sgi l i) (jn (untS l day i) 1 0))), KE_ fun env => vP (pb env 6) 0, none] (fun E3 => [(1, vP (pb E1 0) 0), (2, bF), (3, vP (pb E2 6) 0), (4, vP (pb E3 6) 0)]) (W := [{ i := 6, T := 39, c0 := [vI 0, .int .u64 0], s := some 7, c1 := fun _ => [vI (hi (fS (sgi l i) (jn (untS l day i) 1 0))), .int .u64 (lo (fS (sgi l i) (jn (untS l day i) 1 0)))] }]) (M' := fun E3 => [((pb E1 0), 59, [vI ((sgi l i).d), vI (hi ((sgi l i).b * 100000000000)), .int .u64 (lo ((sgi l i).b * 100000000000)), vI (hi (jn (sgi l i).f 0 0)), .int .u64 (lo (jn (sgi l i).f 0 0)), vI (hi (dayA)), .int .u64 (lo (dayA)), vI (hi (dayA + (sgi l i).r * 100000000000)), .int .u64 (lo (dayA + (sgi l i).r * 100000000000)), vI (hi ((sgi l i).r * 100000000000)), .int .u64 (lo ((sgi l i).r * 100000000000)), vI (hi (endS l day off i)), .int .u64 (lo (endS l day off i)), vI (untS l day i)]), ((pb E2 6), 39, [vI (hi (fS (sgi l i) (jn ((untS l day i) - 1) 0 0))), .int .u64 (lo (fS (sgi l i) (jn ((untS l day i) - 1) 0 0)))]), ((pb E3 6), 39, [vI (hi (fS (sgi l i) (jn (untS l day i) 1 0))), .int .u64 (lo (fS (sgi l i) (jn (untS l day i) 1 0)))])]) (hs := c_ (ld_ 0 (hrd := by exact rd59 rfl rfl rfl rfl rfl rfl rfl rfl rfl rfl rfl rfl rfl rfl)) <| c_ (fa0 (vP (pb E1 0) 0)) <| c_ (ld_ 0 (hrd := by exact rd3 rfl)) <| c_ (bd0 ([vI (untS l day i), vI 1])) <| c_ (cl_ Try.func20 (h := fun env => ⟨_, (rcount_any (untS l day i) 1 0 (by omega) (by omega) (by omega) (by omega) (by omega) (by omega)), rfl⟩)) <| c_ (cl_ Try.func18 (h := fun env => ⟨_, (pat_any (sgi l i).d ((sgi l i).b * 100000000000) (jn (sgi l i).f 0 0) ((sgi l i).r * 100000000000) (endS l day off i) (untS l day i) (jn (untS l day i) 1 0) hs.pc hn2), rfl⟩)) <| c_ (al_ 2) <| c_ (sw_ 2 6 (hst := by exact fun _ _ _ hc => st39 rfl rfl rfl hc)) <| e_) (k := fun E3 ac wd h_3 => ?_)
  clear h_2
  refine then_n (wp_seq ?_)
  by_cases hV : endS l day off i ≤ fS (sgi l i) (jn (untS l day i - 1) 0 0)
  refine rg_ h_3 [[0],[0,1],[2],r_ 4,r_ 5,r_ 6,r_ 7,r_ 8,[0,1,2,3,4,5,8],r_ 10,r_ 11,r_ 12,r_ 13] [K_ (vP (pb E1 0) 11), K_ (vW (endS l day off i)), K_ (vW (fS (sgi l i) (jn ((untS l day i) - 1) 0 0))), K_ (vI (cmpZ (endS l day off i) (fS (sgi l i) (jn ((untS l day i) - 1) 0 0)))), K_ bT, K_ bT, K_ undef, K_ undef, K_ undef, K_ undef, K_ undef, K_ bT, K_ bT] (fun E4 => [(2, bT)]) (hs := c_ (fa0 (vP (pb E1 0) 0)) <| c_ (ld_ 0 (hrd := by exact rd39 rfl rfl)) <| c_ (ld_ 1 (hrd := by exact rd39 rfl rfl)) <| c_ (cl_ Try.func31 (h := fun env => ⟨_, (wcmpZ (endS l day off i) (fS (sgi l i) (jn ((untS l day i) - 1) 0 0)) (by unfold InW; omega) (by unfold InW; omega)), rfl⟩)) <| c_ (bi0 (vI (cmpZ (endS l day off i) (fS (sgi l i) (jn ((untS l day i) - 1) 0 0)))) (vI 0) (h := by intro env w; (first | (simp [go_sem, cmpZ_le, cmpZ_lt, cmpZ_ge, cmpZ_gt, hV]; done) | (simp [go_sem, cmpZ_le, cmpZ_lt, cmpZ_ge, cmpZ_gt]; omega)))) <| c_ mv_ <| c_ off_ <| c_ off_ <| c_ off_ <| c_ off_ <| c_ off_ <| c_ (pk0 bT bT undef) <| c_ mv_ <| e_) (k := fun E4 ac wd h_4 => ?_)
  clear h_3
  refine then_n (wp_ret ?_)
  refine lvT Try.results44 h_4 ?_
  have hres : stB l day off i = false := by simp [stB]; omega
  exact ⟨by rw [hres]; rfl, h_4.st.below⟩
  by_cases hW : fS (sgi l i) (jn (untS l day i) 1 0) < endS l day off i
  refine rg_ h_3 [[0],[0,1],[2],r_ 4,r_ 5,r_ 6,r_ 7,r_ 8,[0,1,2,3,4,5,8],r_ 10,r_ 11,r_ 12,r_ 13] [K_ (vP (pb E1 0) 11), K_ (vW (endS l day off i)), K_ (vW (fS (sgi l i) (jn ((untS l day i) - 1) 0 0))), K_ (vI (cmpZ (endS l day off i) (fS (sgi l i) (jn ((untS l day i) - 1) 0 0)))), K_ bF, K_ bF, K_ (vP (pb E1 0) 11), K_ (vW (endS l day off i)), K_ (vW (fS (sgi l i) (jn (untS l day i) 1 0))), K_ (vI (cmpZ (endS l day off i) (fS (sgi l i) (jn (untS l day i) 1 0)))), K_ bT, K_ bT, K_ bT] (fun E4 => [(2, bT)]) (hs := c_ (fa0 (vP (pb E1 0) 0)) <| c_ (ld_ 0 (hrd := by exact rd39 rfl rfl)) <| c_ (ld_ 1 (hrd := by exact rd39 rfl rfl)) <| c_ (cl_ Try.func31 (h := fun env => ⟨_, (wcmpZ (endS l day off i) (fS (sgi l i) (jn ((untS l day i) - 1) 0 0)) (by unfold InW; omega) (by unfold InW; omega)), rfl⟩)) <| c_ (bi0 (vI (cmpZ (endS l day off i) (fS (sgi l i) (jn ((untS l day i) - 1) 0 0)))) (vI 0) (h := by intro env w; (first | (simp [go_sem, cmpZ_le, cmpZ_lt, cmpZ_ge, cmpZ_gt, hV]; done) | (simp [go_sem, cmpZ_le, cmpZ_lt, cmpZ_ge, cmpZ_gt]; omega)))) <| c_ mv_ <| c_ (fa0 (vP (pb E1 0) 0)) <| c_ (ld_ 0 (hrd := by exact rd39 rfl rfl)) <| c_ (ld_ 2 (hrd := by exact rd39 rfl rfl)) <| c_ (cl_ Try.func31 (h := fun env => ⟨_, (wcmpZ (endS l day off i) (fS (sgi l i) (jn (untS l day i) 1 0)) (by unfold InW; omega) (by unfold InW; omega)), rfl⟩)) <| c_ (bi0 (vI (cmpZ (endS l day off i) (fS (sgi l i) (jn (untS l day i) 1 0)))) (vI 0) (h := by intro env w; (first | (simp [go_sem, cmpZ_le, cmpZ_lt, cmpZ_ge, cmpZ_gt, hW]; done) | (simp [go_sem, cmpZ_le, cmpZ_lt, cmpZ_ge, cmpZ_gt]; omega)))) <| c_ (pk0 bF bT bT (h := by intro env w; (first | (simp [go_sem, cmpZ_le, cmpZ_lt, cmpZ_ge, cmpZ_gt, hW]; done) | (simp [go_sem, cmpZ_le, cmpZ_lt, cmpZ_ge, cmpZ_gt]; omega)))) <| c_ mv_ <| e_) (k := fun E4 ac wd h_4 => ?_)
  clear h_3
  refine then_n (wp_ret ?_)
  refine lvT Try.results44 h_4 ?_
  have hres : stB l day off i = false := by simp [stB]; omega
  exact ⟨by rw [hres]; rfl, h_4.st.below⟩
  refine rg_ h_3 [[0],[0,1],[2],r_ 4,r_ 5,r_ 6,r_ 7,r_ 8,[0,1,2,3,4,5,8],r_ 10,r_ 11,r_ 12,r_ 13] [K_ (vP (pb E1 0) 11), K_ (vW (endS l day off i)), K_ (vW (fS (sgi l i) (jn ((untS l day i) - 1) 0 0))), K_ (vI (cmpZ (endS l day off i) (fS (sgi l i) (jn ((untS l day i) - 1) 0 0)))), K_ bF, K_ bF, K_ (vP (pb E1 0) 11), K_ (vW (endS l day off i)), K_ (vW (fS (sgi l i) (jn (untS l day i) 1 0))), K_ (vI (cmpZ (endS l day off i) (fS (sgi l i) (jn (untS l day i) 1 0)))), K_ bF, K_ bF, K_ bF] (fun E4 => [(2, bF)]) (hs := c_ (fa0 (vP (pb E1 0) 0)) <| c_ (ld_ 0 (hrd := by exact rd39 rfl rfl)) <| c_ (ld_ 1 (hrd := by exact rd39 rfl rfl)) <| c_ (cl_ Try.func31 (h := fun env => ⟨_, (wcmpZ (endS l day off i) (fS (sgi l i) (jn ((untS l day i) - 1) 0 0)) (by unfold InW; omega) (by unfold InW; omega)), rfl⟩)) <| c_ (bi0 (vI (cmpZ (endS l day off i) (fS (sgi l i) (jn ((untS l day i) - 1) 0 0)))) (vI 0) (h := by intro env w; (first | (simp [go_sem, cmpZ_le, cmpZ_lt, cmpZ_ge, cmpZ_gt, hV]; done) | (simp [go_sem, cmpZ_le, cmpZ_lt, cmpZ_ge, cmpZ_gt]; omega)))) <| c_ mv_ <| c_ (fa0 (vP (pb E1 0) 0)) <| c_ (ld_ 0 (hrd := by exact rd39 rfl rfl)) <| c_ (ld_ 2 (hrd := by exact rd39 rfl rfl)) <| c_ (cl_ Try.func31 (h := fun env => ⟨_, (wcmpZ (endS l day off i) (fS (sgi l i) (jn (untS l day i) 1 0)) (by unfold InW; omega) (by unfold InW; omega)), rfl⟩)) <| c_ (bi0 (vI (cmpZ (endS l day off i) (fS (sgi l i) (jn (untS l day i) 1 0)))) (vI 0) (h := by intro env w; (first | (simp [go_sem, cmpZ_le, cmpZ_lt, cmpZ_ge, cmpZ_gt, hW]; done) | (simp [go_sem, cmpZ_le, cmpZ_lt, cmpZ_ge, cmpZ_gt]; omega)))) <| c_ (pk0 bF bT bF (h := by intro env w; (first | (simp [go_sem, cmpZ_le, cmpZ_lt, cmpZ_ge, cmpZ_gt, hW]; done) | (simp [go_sem, cmpZ_le, cmpZ_lt, cmpZ_ge, cmpZ_gt]; omega)))) <| c_ mv_ <| e_) (k := fun E4 ac wd h_4 => ?_)
  clear h_3
  refine then_n (wp_ret ?_)
  refine lvT Try.results44 h_4 ?_
  have hres : stB l day off i = true := by simp [stB]; omega
  exact ⟨by rw [hres]; rfl, h_4.st.below⟩
end Go.Proofs.Ytdfkghpgekmmlaa
/- slices.ContainsFunc at rubber's pieces, by the shelf's contract; Segments, published. Own work. -/
namespace Go.Proofs.Ytdfkghpgekmmlaa
open Go.RowKit
set_option linter.unusedVariables false
set_option linter.unusedSimpArgs false
def has_ren : Go.Shelf.Ren := ⟨fun | 6 => 67 | 8 => 43 | n => n, fun | 0 => 0 | 3 => 3 | 4 => 4 | 22 => 55 | 23 => 59 | 25 => 82 | n => n, fun n => n⟩
theorem has_lays : SlLaysH0.n8 Try.prog has_ren := { mixed := by kernel_rfl, f6 := ⟨Try.f67.name, by kernel_rfl, Try.func67.trans (congrArg some (by kernel_rfl))⟩, f8 := ⟨Try.f43.name, by kernel_rfl, Try.func43.trans (congrArg some (by kernel_rfl))⟩, t0 := Try.underlying0, a0 := Try.isAgg0, z0 := Try.sizeOf0, v0 := Try.zeroValue0, t3 := Try.underlying3, a3 := Try.isAgg3, z3 := Try.sizeOf3, v3 := Try.zeroValue3, t4 := Try.underlying4, a4 := Try.isAgg4, z4 := Try.sizeOf4, v4 := Try.zeroValue4, t22 := Try.underlying55, a22 := Try.isAgg55, z22 := Try.sizeOf55, v22 := Try.zeroValue55, t25 := Try.underlying82, a25 := Try.isAgg82, z25 := Try.sizeOf82, v25 := Try.zeroValue82 }
theorem call_step1 (args : Array Value) (w : World) : (callFunc 44 args).run Try.prog w = .ok (.enter 44 args) w := enters' Try.func44 (by kernel_rfl) rfl args w
theorem any_fin {n : Nat} (p : Nat → Bool) : ((List.finRange n).take n).any (fun x => !p x.1) = !(List.range n).all p := by
  have e : (List.finRange n).take n = List.finRange n := List.take_of_length_le (by simp)
  rw [e, Bool.eq_iff_iff]
  simp only [List.any_eq_true, Bool.not_eq_true', List.all_eq_false, List.mem_range]
  constructor
  · rintro ⟨x, _, h⟩; exact ⟨x.1, x.2, by simp [h]⟩
  · rintro ⟨x, hx, h⟩; exact ⟨⟨x, hx⟩, List.mem_finRange _, by simpa using h⟩
theorem contains_any (w0 : World) (g c : Nat) (l : List Sg) (day off : Int) (hP : PcT w0 (.slice (some ⟨g, 0, none⟩) l.length c) l day off) (hL : LOk l day off) :
    Calls Try.prog 43 #[.slice (some ⟨g, 0, none⟩) l.length c, .func (.func 44) #[] #[]] w0 fun e w' => e = .returned (.bool (!(List.range l.length).all (stB l day off))) ∧ Below w0.heap.size w0 w' := by
  have n0 := hL.n0
  have n1 := hL.n1
  haveI : Inhabited (Fin l.length) := ⟨⟨0, n0⟩⟩
  obtain ⟨A', c', e, h1, h2, h3⟩ := hP
  simp only [Value.slice.injEq, true_and] at e
  obtain ⟨rfl, rfl⟩ := e
  rcases h3 with h3 | ⟨b, o, cur, fz, hA, hb, hc⟩
  · omega
  simp only [Option.some.injEq, Addr.mk.injEq, and_true] at hA
  obtain ⟨rfl, rfl⟩ := hA
  have h := AnyQ.slices_ContainsFunc (α := Fin l.length) has_lays 14 (fun w => Try.isAgg59 w) (fun w => Try.sizeOf59 w) (fun x => pcL l day off x.1) (fun x => rfl) (fun x => !stB l day off x.1) 44 #[] call_step1 g 0 l.length c (List.finRange l.length) w0
    (fun W x hW => by
      have := step1_any l day off x.1 hL x.2 W
      exact this.mono (fun e w' ⟨h1, h2⟩ => ⟨h1, below_to hW h2⟩))
    (by simp) (by omega) (lt_of_some hb)
    (fun j hj i v hv => by
      have hjl : j < l.length := by simpa using hj
      have e1 : (List.finRange l.length)[j]! = ⟨j, hjl⟩ := by
        rw [List.getElem!_eq_getElem?_getD, List.getElem?_eq_getElem hj]; simp
      rw [e1] at hv
      have hi : i < 14 := (List.getElem?_eq_some_iff.1 hv).1
      have hx := hc (j * 14 + i) (by omega)
      have e2 : pcC l day off (j * 14 + i) = v := by
        rw [pcC_at l day off j i hi, List.getD_eq_getElem?_getD, hv]; rfl
      rw [e2] at hx
      rw [Nat.zero_add] at hx
      simp [World.cell?, hb, hx])
  rw [any_fin] at h
  exact h
end Go.Proofs.Ytdfkghpgekmmlaa
/- An append whose value is told as a slice. Own work. -/
namespace Go.Proofs.Ytdfkghpgekmmlaa
open Go.RowKit
set_option linter.unusedVariables false
set_option linter.unusedSimpArgs false
theorem OwnK.elsX {T : TypeId} {k : Nat} {w : World} {B : Nat} {v : Value} {n : Nat} {cs : List Value} (h : OwnK T k w B v n cs) : Els w v n k (fun i => (cs[i]?).getD undef) := by
  have h1 := h.1
  rcases h.2 with ⟨rfl, rfl⟩ | ⟨g, cap, cur, rfl, hg, hh, hnc, hcm, hcs, ht⟩
  · exact ⟨none, 0, rfl, Nat.le_refl _, .inl rfl⟩
  · refine ⟨_, cap, rfl, hnc, .inr ⟨g, 0, rfl, fun i hi => ?_⟩⟩
    obtain ⟨u, e⟩ : ∃ u, cs[i]? = some u := ⟨_, List.getElem?_eq_getElem (by omega)⟩
    show _ = some ((cs[i]?).getD undef)
    have e2 := e
    rw [e]
    rw [← ht, List.getElem?_take, if_pos hi] at e2
    simp only [World.cell?, hh, Nat.zero_add, Option.bind_some]
    simpa using e2
section
variable {R : Reg} {Q : Exit → Act → World → Prop} {i : Nat} {o : Oper}
/-- an append of one element of k cells -/
theorem s_appS (ho : R.ops[i]? = some o) (hf : free R i = true) (hg : o.guard = none) {s x : Operand} {TS T : TypeId} (hop : o.op = .call { callee := .builtin .append, args := #[s, x], argTypes := #[TS, TS] }) (hTS : Try.prog.underlying TS = some (.slice T)) {k by' : Nat} {z : Value} (hinfo : (Try.prog.info? T).map (fun i => (i.zero, i.size, i.bytes)) = some (some z, k, by')) (hzk : z.cells.size = k) (hk0 : 0 < k) (hby : by' ≤ 1000)
    {v : Value} {n : Nat} {ds : List Value} (hV : R.v? i = some fun env => .slice (sA (env i)) (n + 1) (sC (env i))) (hF : R.F = []) (hΨ : ∀ w, R.Ψ w) (hex : R.ex = none) (hΘ : ∀ w, R.Θ w → OwnK T k w R.w0.heap.size v n ds) (zs : List Value) (hzs : zs.length = k) (h1c : ∀ u ∈ zs, u.oneCell' = true) (hth : R.th = some (i, fun env w => OwnK T k w R.w0.heap.size (.slice (sA (env i)) (n + 1) (sC (env i))) (n + 1) (ds ++ zs))) (hlen : n ≤ 1000000)
    (j m : Nat) {ow : Own} (hm : R.O[m]? = some ow) (hal : ow.al = some j) (hst : ow.st = none) (hc : ow.c0 = zs) (hj : ((R.cl.getD i []).contains j && !(j == i)) = true)
    (hs : ∀ env, opAt R i env s = some v) (hx : ∀ {D env a w}, At R i D env a w → a.eval x = .slice (some ⟨pb env j, 0, none⟩) 1 1) : SR Try.prog Q R i :=
  s_th ho hf (fun {D env a w} hA K hK => by
    rw [if_pos (wanted_none hg _)]
    have hnD : D i = false := hA.i
    have ht0 : R.tht D env = R.Θ := by unfold Reg.tht; rw [hth]; simp [hnD]
    have hst0 := hA.j.st
    rw [ht0] at hst0
    have hT : ∀ w', Apart (R.mem D env) none w w' → OwnK T k w' R.w0.heap.size v n ds := fun w' hw => hΘ w' (hst0.the w' hw)
    obtain ⟨i0, hi, hz0, hz1, hz2⟩ := info_parts hinfo
    have hcell := hA.cells m hm (by rw [hal]; exact hj) (by rw [hst]; trivial)
    have hb : ow.blk env = pb env j := by unfold Own.blk; rw [hal]
    rw [hb, hc] at hcell
    obtain ⟨v', w', hr, h2, h3, _, h5⟩ := run_append_own_at (P := Try.prog) w R.w0.heap.size TS o.type T i0 z k by' hTS hi hz0 hz1 hz2 hzk hk0 v n ds (hT w (Apart.refl _ _ _)) ⟨pb env j, 0, none⟩ 1 1 zs (by rw [hzs, Nat.one_mul])
      (fun q u hq => by
        have h9 := own_cell hcell hq
        have e9 : ((⟨pb env j, 0, none⟩ : Addr).add q) = ⟨pb env j, q, none⟩ := by unfold Addr.add; split <;> simp_all
        rw [e9]; exact h9) h1c (by unfold maxLen; omega) (by
          have : (n + 1) * by' ≤ 1000001 * 1000 := Nat.mul_le_mul (by omega) hby
          omega) hst0.gr.size
    have hrun : (execOp a.eval o).run Try.prog w = .ok (.value v') w' := by
      have e1 := hA.e (hs env)
      have e2 := hx hA
      unfold execOp
      simp [hop, resolve, Deferred.ofValue, invoke, builtin, e1, e2, hr]
    unfold Oper.wp
    rw [hrun]
    have hown : OwnK T k w' R.w0.heap.size v' (n + 1) (ds ++ zs) := h2
    have hself := cl_self hA.ok ho
    have hform : v' = .slice (sA v') (n + 1) (sC v') := by
      obtain ⟨_, h9⟩ := hown
      rcases h9 with ⟨_, h9⟩ | ⟨g9, c9, cur9, rfl, _⟩
      · omega
      · rfl
    have key := hst0.rowedK (fun w'' => ⟨hΨ w'', fun j hj => ⟨fun V hV => ((hA.j.fact hj).1 V hV), fun p hp => (by rw [hF] at hp; cases hp)⟩⟩) hT h3 hown (by rcases h5 with h | h; exact .inl h; exact .inr (.inl h)) hex
    have e9 : restr (R.cl.getD i []) (upd env i v') i = v' := by unfold restr upd; rw [if_pos (List.contains_iff_mem.2 hself), if_pos rfl]
    refine hK v' w' ?_ (fun w'' _ => ⟨fun V' hV' => (by rw [hV] at hV'; obtain rfl := Option.some.inj hV'; simp only [e9]; exact hform), fun p hp => (by rw [hF] at hp; cases hp)⟩)
    have ht1 : R.tht (upB D i) (upd env i v') = fun w => OwnK T k w R.w0.heap.size v' (n + 1) (ds ++ zs) := by
      unfold Reg.tht
      rw [hth]
      simp only [upB_self, if_true]
      funext w''
      rw [e9, ← hform]
    rw [ht1]
    exact key)
end
end Go.Proofs.Ytdfkghpgekmmlaa
/- The cells of a Rubber that is being made. Own work. -/
namespace Go.Proofs.Ytdfkghpgekmmlaa
open Go.RowKit
set_option linter.unusedVariables false
set_option linter.unusedSimpArgs false
theorem pc_info : (Try.prog.info? 59).map (fun i => (i.zero, i.size, i.bytes)) = some (some (.agg #[vI 0, vI 0, .int .u64 0, vI 0, .int .u64 0, vI 0, .int .u64 0, vI 0, .int .u64 0, vI 0, .int .u64 0, vI 0, .int .u64 0, vI 0]), 14, 112) := by kernel_rfl
/-- a piece without its end -/
def rawP (l : List Sg) (i : Nat) : List Value :=
  [vI (sgi l i).d, vI (hi ((sgi l i).b * 100000000000)), .int .u64 (lo ((sgi l i).b * 100000000000)), vI (hi (jn (sgi l i).f 0 0)), .int .u64 (lo (jn (sgi l i).f 0 0)), vI (hi dayA), .int .u64 (lo dayA), vI (hi (dayA + (sgi l i).r * 100000000000)), .int .u64 (lo (dayA + (sgi l i).r * 100000000000)), vI (hi ((sgi l i).r * 100000000000)), .int .u64 (lo ((sgi l i).r * 100000000000)), vI (hi 0), .int .u64 (lo 0), vI 0]
def rawC (l : List Sg) (i : Nat) : Value := (rawP l (i / 14)).getD (i % 14) undef
theorem rawC_at (l : List Sg) (j q : Nat) (hq : q < 14) : rawC l (j * 14 + q) = (rawP l j).getD q undef := by
  unfold rawC; rw [show (j * 14 + q) / 14 = j by omega, show (j * 14 + q) % 14 = q by omega]
def rawL (l : List Sg) (i : Nat) : List Value := (List.range (i * 14)).map (rawC l)
theorem rawL_zero (l : List Sg) : rawL l 0 = [] := rfl
theorem rawL_succ (l : List Sg) (i : Nat) : rawL l (i + 1) = rawL l i ++ rawP l i := by
  unfold rawL
  rw [show (i + 1) * 14 = i * 14 + 14 by omega, List.range_add, List.map_append, List.map_map]
  congr 1
  apply List.ext_getElem (by rfl)
  intro q h1 h2
  have hq : q < 14 := by simpa using h1
  simp only [List.getElem_map, List.getElem_range, Function.comp_apply]
  rw [rawC_at l i q hq, List.getD_eq_getElem?_getD, List.getElem?_eq_getElem h2]
  rfl
/-- cell q, the first j pieces having their ends -/
def cellS (l : List Sg) (day off : Int) (j q : Nat) : Value := if q / 14 < j then pcC l day off q else rawC l q
def pcS (l : List Sg) (day off : Int) (j : Nat) : List Value := (List.range (l.length * 14)).map (cellS l day off j)
theorem pcS_len (l : List Sg) (day off : Int) (j : Nat) : (pcS l day off j).length = l.length * 14 := by simp [pcS]
theorem pcS_zero (l : List Sg) (day off : Int) : pcS l day off 0 = rawL l l.length := by
  unfold pcS rawL
  apply List.map_congr_left
  intro q _
  simp [cellS]
theorem cellS_get (l : List Sg) (day off : Int) (j : Nat) : ∀ i, i < l.length * 14 → (pcS l day off j)[i]? = some (cellS l day off j i) := by
  intro i hi
  simp [pcS, hi]
theorem cellS_raw (l : List Sg) (day off : Int) {j i : Nat} (h : j ≤ i) (q : Nat) (hq : q < 14) : cellS l day off j (i * 14 + q) = (rawP l i).getD q undef := by
  unfold cellS
  rw [if_neg (by omega), rawC_at l i q hq]
theorem cellS_all (l : List Sg) (day off : Int) : ∀ i, i < l.length * 14 → (pcS l day off l.length)[i]? = some (pcC l day off i) := by
  intro i hi
  rw [cellS_get l day off _ i hi]
  unfold cellS
  rw [if_pos (by omega)]
theorem set_map {m : Nat} (f : Nat → Value) (q : Nat) (v : Value) : ((List.range m).map f).set q v = (List.range m).map (fun i => if i = q then v else f i) := by
  apply List.ext_getElem (by simp)
  intro i h1 h2
  simp only [List.getElem_set, List.getElem_map, List.getElem_range]
  by_cases h : q = i
  · subst h; simp
  · rw [if_neg h, if_neg (Ne.symm h)]
theorem pcS_step (l : List Sg) (day off : Int) (j : Nat) : (((pcS l day off j).set (0 + (j * 14 + 13)) (vI (untS l day j))).set (0 + (j * 14 + 11)) (vI (hi (endS l day off j)))).set (0 + (j * 14 + 11) + 1) (.int .u64 (lo (endS l day off j))) = pcS l day off (j + 1) := by
  unfold pcS
  rw [set_map, set_map, set_map]
  apply List.map_congr_left
  intro i _
  by_cases hj : i / 14 = j
  · obtain ⟨q, hq, rfl⟩ : ∃ q, q < 14 ∧ i = j * 14 + q := ⟨i % 14, by omega, by omega⟩
    have e1 : cellS l day off (j + 1) (j * 14 + q) = (pcL l day off j).getD q undef := by
      unfold cellS; rw [if_pos (by omega), pcC_at l day off j q hq]
    rw [e1, cellS_raw l day off (Nat.le_refl j) q hq]
    match q, hq with
    | 0, _ | 1, _ | 2, _ | 3, _ | 4, _ | 5, _ | 6, _ | 7, _ | 8, _ | 9, _ | 10, _ => rw [if_neg (by omega), if_neg (by omega), if_neg (by omega)]; rfl
    | 11, _ => rw [if_neg (by omega), if_pos (by omega)]; rfl
    | 12, _ => rw [if_pos (by omega)]; rfl
    | 13, _ => rw [if_neg (by omega), if_neg (by omega), if_pos (by omega)]; rfl
  · rw [if_neg (by omega), if_neg (by omega), if_neg (by omega)]
    unfold cellS
    by_cases h : i / 14 < j
    · rw [if_pos h, if_pos (by omega)]
    · rw [if_neg h, if_neg (by omega)]
theorem OwnK.rowP {T : TypeId} {k : Nat} {w : World} {B : Nat} {v : Value} {n : Nat} {cs : List Value} {f : Nat → Value} (hf : ∀ i, i < n * k → cs[i]? = some (f i)) (hn : n ≤ 140737488351232) (h : OwnK T k w B v n cs) : RowT T w v n k f := h.rowT hn hf
theorem OwnK.some {T : TypeId} {k : Nat} {w : World} {B : Nat} {v : Value} {n : Nat} {cs : List Value} (h : OwnK T k w B v n cs) (hn : 0 < n) : ∃ g c, v = .slice (some ⟨g, 0, none⟩) n c ∧ B ≤ g := by
  obtain ⟨_, h2⟩ := h
  rcases h2 with ⟨_, h2⟩ | ⟨g, cap, cur, rfl, hB, _⟩
  · omega
  · exact ⟨g, cap, rfl, hB⟩
theorem take_of {ds cs : List Value} {m : Nat} (hl : ds.length = m) (h : ∀ (p : Nat) (u : Value), ds[p]? = some u → cs[p]? = some u) : cs.take m = ds := by
  apply List.ext_getElem?
  intro p
  rw [List.getElem?_take]
  by_cases hp : p < m
  · rw [if_pos hp]
    have := h p ds[p] (List.getElem?_eq_getElem (by omega))
    rw [this, List.getElem?_eq_getElem (by omega)]
  · rw [if_neg hp, List.getElem?_eq_none (by omega)]
theorem stK_int {g q n k : Nat} {T : TypeId} {ds : List Value} (hl : ds.length = n * k) (hq : q < n * k) (z : Int) : ∀ (cs : List Value) (w : World), (∀ (p : Nat) (u : Value), ds[p]? = some u → cs[p]? = some u) → w.heap[g]? = some (.cells cs.toArray T (0, 0)) →
    ∃ (cs' : List Value) (w' : World), (Instr.storeAt 3 (vP g q) (vI z)).run Try.prog w = .ok () w' ∧ Put w w' g (.cells cs'.toArray T (0, 0)) ∧ cs'.length = cs.length ∧ cs'.take (n * k) = ds.set q (vI z) := by
  intro cs w hp hh
  have ht := take_of hl hp
  have hu := hp q ds[q] (List.getElem?_eq_getElem (by omega))
  obtain ⟨w', hr, hput⟩ := st3 (b := g) (off := q) (T0 := T) (cs := cs) (n0 := z) hu rfl hh
  exact ⟨_, w', hr, hput, by simp, by rw [List.take_set, ht]⟩
theorem stK_wide {g q n k : Nat} {T : TypeId} {ds : List Value} (hl : ds.length = n * k) (hq : q + 1 < n * k) (z : Int) : ∀ (cs : List Value) (w : World), (∀ (p : Nat) (u : Value), ds[p]? = some u → cs[p]? = some u) → w.heap[g]? = some (.cells cs.toArray T (0, 0)) →
    ∃ (cs' : List Value) (w' : World), (Instr.storeAt 39 (vP g q) (vW z)).run Try.prog w = .ok () w' ∧ Put w w' g (.cells cs'.toArray T (0, 0)) ∧ cs'.length = cs.length ∧ cs'.take (n * k) = (ds.set q (vI (hi z))).set (q + 1) (.int .u64 (lo z)) := by
  intro cs w hp hh
  have ht := take_of hl hp
  have hu := hp q ds[q] (List.getElem?_eq_getElem (by omega))
  have hu2 := hp (q + 1) ds[q + 1] (List.getElem?_eq_getElem (by omega))
  obtain ⟨w', hr, hput⟩ := st39 (b := g) (off := q) (T0 := T) (cs := cs) (n0 := hi z) (n1 := lo z) hu hu2 rfl hh
  exact ⟨_, w', hr, hput, by simp, by rw [List.take_set, List.take_set, ht]⟩
/-- a Rubber in new memory -/
def IsRN (B : Nat) (w : World) (v : Value) (l : List Sg) (day off : Int) : Prop := ∃ b g c, v = vP b 0 ∧ RubA w b g c l day off ∧ B ≤ b ∧ B ≤ g
theorem IsRN.x {B : Nat} {w : World} {v : Value} {l : List Sg} {day off : Int} (h : IsRN B w v l day off) {ex : Option Nat} (hx : ∀ k, ex = some k → k < B) : IsR ex w v l day off := by
  obtain ⟨b, g, c, e, h1, h2, h3⟩ := h
  exact ⟨b, g, c, e, h1, fun h => by have := hx b h; omega, fun h => by have := hx g h; omega⟩
end Go.Proofs.Ytdfkghpgekmmlaa
/- rubber: sizes, First, Tai, Label (printed by my walk.py) -/
namespace Go.Proofs.Ytdfkghpgekmmlaa
open Go.RowKit
set_option linter.unusedVariables false
set_option linter.unusedSimpArgs false
attribute [local go_sem] vN bT bF rS vSg vPc vW vM vL vT2 vT3 vP vI execOp Act.eval evC bigF vB hi_zero lo_zero Try.underlying25 Try.underlying36 Try.underlying39 Try.underlying57 Try.underlying59

theorem RowU_le {w : World} {A : Option Addr} {n c k : Nat} {f : Nat → Value} (h : RowU w (.slice A n c) n k f) : n ≤ 9223372036854775807 := by obtain ⟨_, _, _, _, h, _⟩ := h; exact h

set_option maxRecDepth 100000 in
set_option maxHeartbeats 8000000 in
theorem sizes_any (w0 : World) (A0 : Option Addr) (c0 : Nat) (l : List Sg) (hl : SegU w0 (.slice A0 l.length c0) l) (day off : Int) (hd0 : -9223372036854775808 ≤ day) (hd1 : day < 9223372036854775808) : Calls Try.prog 16 #[.slice A0 l.length c0, vI day, vI off] w0 fun e w' => e = .returned (.bool (szL l day off)) ∧ Below w0.heap.size w0 w' := by
  have hle := RowU_le hl
  have hst := St.start w0 (Θ := fun _ => True) (fun _ _ => trivial)
  refine en_ Try.func16 hst 79 [(0, .slice A0 l.length c0), (1, vI day), (2, vI off)] (fun ac h => ?_)
  refine wp_seq ?_
  refine rg_ h [[0]] [K_ bF] (fun E1 => [(0, .slice A0 l.length c0), (1, vI day), (2, vI off), (6, bF)]) (hs := c_ mv_ <| e_) (k := fun E1 ac wd h_1 => ?_)
  clear h
  refine then_n (wp_seq (wp_seq ?_))
  cases hA : wthn (l.length : Int) 1 32
  refine rg_ h_1 [[0],[0,1],[0,1,2],r_ 4,r_ 5,r_ 6,r_ 7,r_ 8,r_ 9,r_ 10,r_ 11,r_ 12,r_ 13,r_ 14,r_ 15,r_ 16,[0,1,2,3,4,5,6,7,8,9,10,11,12,13,14,16],[0,1,2,3,4,5,6,7,8,9,10,11,12,13,14,16,17],[0,1,2,3,4,5,6,7,8,9,10,11,12,13,14,16,17,18],r_ 20,r_ 21,r_ 22,[0,1,2,3,4,5,6,7,8,9,10,11,12,13,14,22],r_ 24,r_ 25] [K_ (.slice A0 l.length c0), K_ (vN l.length), K_ bF, K_ bT, K_ bT, K_ undef, K_ undef, K_ undef, K_ bT, K_ bT, K_ undef, K_ undef, K_ undef, K_ bT, K_ bT, K_ undef, K_ undef, K_ undef, K_ undef, K_ undef, K_ undef, K_ undef, K_ undef, K_ undef, K_ bT] (fun E2 => [(0, .slice A0 l.length c0), (6, bF), (33, bT)]) (hs := c_ mv_ <| c_ (ln_ Try.underlying22 fun _ env _ wd hA => (hl.grown hA.j.st.gr).els) <| c_ (cl_ Try.func37 (h := fun env => ⟨_, ((rwithin_any (l.length : Int) 1 32).eq (congrArg Value.bool hA)), rfl⟩)) <| c_ (un0 bF) <| c_ mv_ <| c_ off_ <| c_ off_ <| c_ off_ <| c_ (pk0 bT bT undef) <| c_ mv_ <| c_ off_ <| c_ off_ <| c_ off_ <| c_ (pk0 bT bT undef) <| c_ mv_ <| c_ off_ <| c_ off_ <| c_ off_ <| c_ off_ <| c_ off_ <| c_ off_ <| c_ off_ <| c_ off_ <| c_ off_ <| c_ (pk0 bT bT undef) <| e_) (k := fun E2 ac wd h_2 => ?_)
  clear h_1
  refine then_n ?_
  refine cT_ h_2 ?_
  refine wp_seq ?_
  refine rg_ h_2 [[0]] [K_ bF] (fun E3 => [(0, .slice A0 l.length c0), (6, bF)]) (hs := c_ mv_ <| e_) (k := fun E3 ac wd h_3 => ?_)
  clear h_2
  refine then_n (wp_ret (then_ret ?_))
  refine lvT Try.results16 h_3 ?_
  have hres : szL l day off = false := by simp [szL, szH, hA]
  exact ⟨by rw [hres], h_3.st.below⟩
  cases hB : wthn day (-1048576) 1048576
  refine rg_ h_1 [[0],[0,1],[0,1,2],r_ 4,r_ 5,r_ 6,r_ 7,r_ 8,r_ 9,r_ 10,r_ 11,r_ 12,r_ 13,r_ 14,r_ 15,r_ 16,[0,1,2,3,4,5,6,7,8,9,10,11,12,13,14,16],[0,1,2,3,4,5,6,7,8,9,10,11,12,13,14,16,17],[0,1,2,3,4,5,6,7,8,9,10,11,12,13,14,16,17,18],r_ 20,r_ 21,r_ 22,[0,1,2,3,4,5,6,7,8,9,10,11,12,13,14,22],r_ 24,r_ 25] [K_ (.slice A0 l.length c0), K_ (vN l.length), K_ bT, K_ bF, K_ bF, K_ (vI day), K_ bF, K_ bT, K_ bT, K_ bT, K_ undef, K_ undef, K_ undef, K_ bT, K_ bT, K_ undef, K_ undef, K_ undef, K_ undef, K_ undef, K_ undef, K_ undef, K_ undef, K_ undef, K_ bT] (fun E2 => [(0, .slice A0 l.length c0), (6, bF), (33, bT)]) (hs := c_ mv_ <| c_ (ln_ Try.underlying22 fun _ env _ wd hA => (hl.grown hA.j.st.gr).els) <| c_ (cl_ Try.func37 (h := fun env => ⟨_, ((rwithin_any (l.length : Int) 1 32).eq (congrArg Value.bool hA)), rfl⟩)) <| c_ (un0 bT) <| c_ mv_ <| c_ (gm0 (vI day)) <| c_ (cl_ Try.func37 (h := fun env => ⟨_, ((rwithin_any day (-1048576) 1048576).eq (congrArg Value.bool hB)), rfl⟩)) <| c_ (un0 bF) <| c_ (pk0 bF bT bT) <| c_ mv_ <| c_ off_ <| c_ off_ <| c_ off_ <| c_ (pk0 bT bT undef) <| c_ mv_ <| c_ off_ <| c_ off_ <| c_ off_ <| c_ off_ <| c_ off_ <| c_ off_ <| c_ off_ <| c_ off_ <| c_ off_ <| c_ (pk0 bT bT undef) <| e_) (k := fun E2 ac wd h_2 => ?_)
  clear h_1
  refine then_n ?_
  refine cT_ h_2 ?_
  refine wp_seq ?_
  refine rg_ h_2 [[0]] [K_ bF] (fun E3 => [(0, .slice A0 l.length c0), (6, bF)]) (hs := c_ mv_ <| e_) (k := fun E3 ac wd h_3 => ?_)
  clear h_2
  refine then_n (wp_ret (then_ret ?_))
  refine lvT Try.results16 h_3 ?_
  have hres : szL l day off = false := by simp [szL, szH, hA, hB]
  exact ⟨by rw [hres], h_3.st.below⟩
  cases hC : wthn off 0 1000
  refine rg_ h_1 [[0],[0,1],[0,1,2],r_ 4,r_ 5,r_ 6,r_ 7,r_ 8,r_ 9,r_ 10,r_ 11,r_ 12,r_ 13,r_ 14,r_ 15,r_ 16,[0,1,2,3,4,5,6,7,8,9,10,11,12,13,14,16],[0,1,2,3,4,5,6,7,8,9,10,11,12,13,14,16,17],[0,1,2,3,4,5,6,7,8,9,10,11,12,13,14,16,17,18],r_ 20,r_ 21,r_ 22,[0,1,2,3,4,5,6,7,8,9,10,11,12,13,14,22],r_ 24,r_ 25] [K_ (.slice A0 l.length c0), K_ (vN l.length), K_ bT, K_ bF, K_ bF, K_ (vI day), K_ bT, K_ bF, K_ bF, K_ bF, K_ (vI off), K_ bF, K_ bT, K_ bT, K_ bT, K_ undef, K_ undef, K_ undef, K_ undef, K_ undef, K_ undef, K_ undef, K_ undef, K_ undef, K_ bT] (fun E2 => [(0, .slice A0 l.length c0), (6, bF), (33, bT)]) (hs := c_ mv_ <| c_ (ln_ Try.underlying22 fun _ env _ wd hA => (hl.grown hA.j.st.gr).els) <| c_ (cl_ Try.func37 (h := fun env => ⟨_, ((rwithin_any (l.length : Int) 1 32).eq (congrArg Value.bool hA)), rfl⟩)) <| c_ (un0 bT) <| c_ mv_ <| c_ (gm0 (vI day)) <| c_ (cl_ Try.func37 (h := fun env => ⟨_, ((rwithin_any day (-1048576) 1048576).eq (congrArg Value.bool hB)), rfl⟩)) <| c_ (un0 bT) <| c_ (pk0 bF bT bF) <| c_ mv_ <| c_ (gm0 (vI off)) <| c_ (cl_ Try.func37 (h := fun env => ⟨_, ((rwithin_any off 0 1000).eq (congrArg Value.bool hC)), rfl⟩)) <| c_ (un0 bF) <| c_ (pk0 bF bT bT) <| c_ mv_ <| c_ off_ <| c_ off_ <| c_ off_ <| c_ off_ <| c_ off_ <| c_ off_ <| c_ off_ <| c_ off_ <| c_ off_ <| c_ (pk0 bT bT undef) <| e_) (k := fun E2 ac wd h_2 => ?_)
  clear h_1
  refine then_n ?_
  refine cT_ h_2 ?_
  refine wp_seq ?_
  refine rg_ h_2 [[0]] [K_ bF] (fun E3 => [(0, .slice A0 l.length c0), (6, bF)]) (hs := c_ mv_ <| e_) (k := fun E3 ac wd h_3 => ?_)
  clear h_2
  refine then_n (wp_ret (then_ret ?_))
  refine lvT Try.results16 h_3 ?_
  have hres : szL l day off = false := by simp [szL, szH, hA, hB, hC]
  exact ⟨by rw [hres], h_3.st.below⟩
  have hn32 := wthn_iff.1 hA
  by_cases hD : day ≤ (sgi l (l.length - 1)).d
  refine rg_ h_1 [[0],[0,1],[0,1,2],r_ 4,r_ 5,r_ 6,r_ 7,r_ 8,r_ 9,r_ 10,r_ 11,r_ 12,r_ 13,r_ 14,r_ 15,r_ 16,[0,1,2,3,4,5,6,7,8,9,10,11,12,13,14,16],[0,1,2,3,4,5,6,7,8,9,10,11,12,13,14,16,17],[0,1,2,3,4,5,6,7,8,9,10,11,12,13,14,16,17,18],r_ 20,r_ 21,r_ 22,[0,1,2,3,4,5,6,7,8,9,10,11,12,13,14,22],r_ 24,r_ 25] [K_ (.slice A0 l.length c0), K_ (vN l.length), K_ bT, K_ bF, K_ bF, K_ (vI day), K_ bT, K_ bF, K_ bF, K_ bF, K_ (vI off), K_ bT, K_ bF, K_ bF, K_ bF, K_ (.slice A0 l.length c0), K_ (.slice A0 l.length c0), K_ (vN l.length), K_ (vI ((l.length : Int) - 1)), K_ (elt (.slice A0 l.length c0) ((l.length - 1) * 4)), K_ (elt (.slice A0 l.length c0) ((l.length - 1) * 4)), K_ (vI ((sgi l (l.length - 1)).d)), K_ (vI day), K_ bT, K_ bT] (fun E2 => [(0, .slice A0 l.length c0), (6, bF), (33, bT)]) (hs := c_ mv_ <| c_ (ln_ Try.underlying22 fun _ env _ wd hA => (hl.grown hA.j.st.gr).els) <| c_ (cl_ Try.func37 (h := fun env => ⟨_, ((rwithin_any (l.length : Int) 1 32).eq (congrArg Value.bool hA)), rfl⟩)) <| c_ (un0 bT) <| c_ mv_ <| c_ (gm0 (vI day)) <| c_ (cl_ Try.func37 (h := fun env => ⟨_, ((rwithin_any day (-1048576) 1048576).eq (congrArg Value.bool hB)), rfl⟩)) <| c_ (un0 bT) <| c_ (pk0 bF bT bF) <| c_ mv_ <| c_ (gm0 (vI off)) <| c_ (cl_ Try.func37 (h := fun env => ⟨_, ((rwithin_any off 0 1000).eq (congrArg Value.bool hC)), rfl⟩)) <| c_ (un0 bT) <| c_ (pk0 bF bT bF) <| c_ mv_ <| c_ (gm0 (.slice A0 l.length c0)) <| c_ (gm0 (.slice A0 l.length c0)) <| c_ (ln_ Try.underlying22 fun _ env _ wd hA => (hl.grown hA.j.st.gr).els) <| c_ (bi0 (vN l.length) (vI 1)) <| c_ (ia_ Try.underlying22 sz25 (l.length - 1) ((l.length - 1) * 4) ((l.length : Int) - 1) (fun _ env _ wd hA => (hl.grown hA.j.st.gr).els) (by omega) (by omega) rfl) <| c_ (s_fa rfl rfl rfl (fun hA => hA.gy rfl rfl rfl) ((l.length - 1) * 4) 0 ((l.length - 1) * 4) rfl (s := fun _ => .slice A0 l.length c0) rfl (fun _ => rfl) (fun {D env ac wd} hA => (hl.grown hA.j.st.gr).els) (by omega) (fun b q w => by simp [go_sem, Try.underlying25])) <| c_ (le_ ((l.length - 1) * 4) (fun _ env _ wd hA => (hl.grown hA.j.st.gr).els) (by omega) (le3 (by exact sgC_0 l (l.length - 1)))) <| c_ (gm0 (vI day)) <| c_ (bi0 (vI ((sgi l (l.length - 1)).d)) (vI day)) <| c_ (pk0 bF bT bT) <| e_) (k := fun E2 ac wd h_2 => ?_)
  clear h_1
  refine then_n ?_
  refine cT_ h_2 ?_
  refine wp_seq ?_
  refine rg_ h_2 [[0]] [K_ bF] (fun E3 => [(0, .slice A0 l.length c0), (6, bF)]) (hs := c_ mv_ <| e_) (k := fun E3 ac wd h_3 => ?_)
  clear h_2
  refine then_n (wp_ret (then_ret ?_))
  refine lvT Try.results16 h_3 ?_
  have hres : szL l day off = false := by rw [szL, ← szR_szA (day := day) (by omega), decide_eq_false (by omega)]; simp
  exact ⟨by rw [hres], h_3.st.below⟩
  refine rg_ h_1 [[0],[0,1],[0,1,2],r_ 4,r_ 5,r_ 6,r_ 7,r_ 8,r_ 9,r_ 10,r_ 11,r_ 12,r_ 13,r_ 14,r_ 15,r_ 16,[0,1,2,3,4,5,6,7,8,9,10,11,12,13,14,16],[0,1,2,3,4,5,6,7,8,9,10,11,12,13,14,16,17],[0,1,2,3,4,5,6,7,8,9,10,11,12,13,14,16,17,18],r_ 20,r_ 21,r_ 22,[0,1,2,3,4,5,6,7,8,9,10,11,12,13,14,22],r_ 24,r_ 25] [K_ (.slice A0 l.length c0), K_ (vN l.length), K_ bT, K_ bF, K_ bF, K_ (vI day), K_ bT, K_ bF, K_ bF, K_ bF, K_ (vI off), K_ bT, K_ bF, K_ bF, K_ bF, K_ (.slice A0 l.length c0), K_ (.slice A0 l.length c0), K_ (vN l.length), K_ (vI ((l.length : Int) - 1)), K_ (elt (.slice A0 l.length c0) ((l.length - 1) * 4)), K_ (elt (.slice A0 l.length c0) ((l.length - 1) * 4)), K_ (vI ((sgi l (l.length - 1)).d)), K_ (vI day), K_ bF, K_ bF] (fun E2 => [(0, .slice A0 l.length c0), (6, bF), (33, bF)]) (hs := c_ mv_ <| c_ (ln_ Try.underlying22 fun _ env _ wd hA => (hl.grown hA.j.st.gr).els) <| c_ (cl_ Try.func37 (h := fun env => ⟨_, ((rwithin_any (l.length : Int) 1 32).eq (congrArg Value.bool hA)), rfl⟩)) <| c_ (un0 bT) <| c_ mv_ <| c_ (gm0 (vI day)) <| c_ (cl_ Try.func37 (h := fun env => ⟨_, ((rwithin_any day (-1048576) 1048576).eq (congrArg Value.bool hB)), rfl⟩)) <| c_ (un0 bT) <| c_ (pk0 bF bT bF) <| c_ mv_ <| c_ (gm0 (vI off)) <| c_ (cl_ Try.func37 (h := fun env => ⟨_, ((rwithin_any off 0 1000).eq (congrArg Value.bool hC)), rfl⟩)) <| c_ (un0 bT) <| c_ (pk0 bF bT bF) <| c_ mv_ <| c_ (gm0 (.slice A0 l.length c0)) <| c_ (gm0 (.slice A0 l.length c0)) <| c_ (ln_ Try.underlying22 fun _ env _ wd hA => (hl.grown hA.j.st.gr).els) <| c_ (bi0 (vN l.length) (vI 1)) <| c_ (ia_ Try.underlying22 sz25 (l.length - 1) ((l.length - 1) * 4) ((l.length : Int) - 1) (fun _ env _ wd hA => (hl.grown hA.j.st.gr).els) (by omega) (by omega) rfl) <| c_ (s_fa rfl rfl rfl (fun hA => hA.gy rfl rfl rfl) ((l.length - 1) * 4) 0 ((l.length - 1) * 4) rfl (s := fun _ => .slice A0 l.length c0) rfl (fun _ => rfl) (fun {D env ac wd} hA => (hl.grown hA.j.st.gr).els) (by omega) (fun b q w => by simp [go_sem, Try.underlying25])) <| c_ (le_ ((l.length - 1) * 4) (fun _ env _ wd hA => (hl.grown hA.j.st.gr).els) (by omega) (le3 (by exact sgC_0 l (l.length - 1)))) <| c_ (gm0 (vI day)) <| c_ (bi0 (vI ((sgi l (l.length - 1)).d)) (vI day)) <| c_ (pk0 bF bT bF) <| e_) (k := fun E2 ac wd h_2 => ?_)
  clear h_1
  refine then_n ?_
  refine cF_ h_2 ?_
  refine wp_skip (then_n (wp_seq (wp_seq ?_)))
  refine rg_ h_2 [[0],[0,1],[2]] [K_ (.slice A0 l.length c0), K_ (vN l.length), K_ (vI 0)] (fun E3 => [(0, .slice A0 l.length c0), (6, bF), (34, .slice A0 l.length c0), (35, vN l.length), (36, vI 0)]) (hs := c_ mv_ <| c_ (ln_ Try.underlying22 fun _ env _ wd hA => (hl.grown hA.j.st.gr).els) <| c_ mv_ <| e_) (k := fun E3 ac wd h_3 => ?_)
  clear h_2
  refine then_n (wp_block ?_)
  refine wp_loop (fun ac wd => ∃ i : Nat, (i ≤ l.length ∧ ∀ j, j < i → szR l j = true) ∧ Cur 79 w0 none none (fun _ => True) (fun _ => True) [(0, .slice A0 l.length c0), (34, .slice A0 l.length c0), (35, vN l.length), (36, vN i)] [] ac wd) (fun ac _ => ((l.length : Int) - sI ac 36).toNat) ⟨0, ⟨by omega, fun j hj => by omega⟩, (h_3.re rfl).th (fun _ h => h)⟩ ?_
  rintro ac wd ⟨i, ⟨hi1, hi2⟩, h_4⟩
  clear h_3
  have hmu : sI ac 36 = ((i : Nat) : Int) := sI_eq (h_4.g (t := 36) rfl)
  refine wp_seq ?_
  by_cases h1 : i < l.length
  refine rg_ h_4 [[0]] [K_ bT] (fun E5 => [(0, .slice A0 l.length c0), (34, .slice A0 l.length c0), (35, vN l.length), (36, vN i), (37, bT)]) (hs := c_ (bi0 (vN i) (vN l.length)) <| e_) (k := fun E5 ac wd h_5 => ?_)
  clear h_4
  refine then_n (wp_seq ?_)
  refine cT_ h_5 ?_
  refine wp_skip (then_n (wp_seq (wp_block (wp_seq ?_))))
  refine rg_ h_5 [[0],[1],[1,2],[3],r_ 5,r_ 6] [K_ (vN i), K_ (elt (.slice A0 l.length c0) (i * 4)), K_ (vSg (sgi l i)), KE_ fun env => vP (pb env 3) 0, K_ (vN i), none] (fun E6 => [(0, .slice A0 l.length c0), (7, vN i), (8, vP (pb E6 3) 0), (34, .slice A0 l.length c0), (35, vN l.length), (36, vN i), (37, bT), (38, vN i), (39, elt (.slice A0 l.length c0) (i * 4)), (40, vSg (sgi l i))]) (W := [{ i := 3, T := 25, c0 := [vI 0, vI 0, vI 0, vI 0], s := some 5, c1 := fun _ => [vI ((sgi l i).d), vI ((sgi l i).b), vI ((sgi l i).f), vI ((sgi l i).r)] }]) (M' := fun E6 => [((pb E6 3), 25, [vI ((sgi l i).d), vI ((sgi l i).b), vI ((sgi l i).f), vI ((sgi l i).r)])]) (hs := c_ mv_ <| c_ (ia_ Try.underlying22 sz25 i (i * 4) ((i : Nat) : Int) (fun _ env _ wd hA => (hl.grown hA.j.st.gr).els) (rfl) (by omega) rfl) <| c_ (le_ (i * 4) (fun _ env _ wd hA => (hl.grown hA.j.st.gr).els) (by omega) (le25 (by exact sgC_0 l i) (by exact sgC_1 l i) (by exact sgC_2 l i) (by exact sgC_3 l i))) <| c_ (al_ 0) <| c_ mv_ <| c_ (sw_ 0 3 (hst := by exact fun _ _ _ hc => st25 rfl rfl rfl rfl rfl hc)) <| e_) (k := fun E6 ac wd h_6 => ?_)
  clear h_5
  refine then_n (wp_seq ?_)
  cases gD : wthn (sgi l i).d (-1048576) 1048576
  refine rg_ h_6 [[0],[0,1],[0,1,2],r_ 4,r_ 5,r_ 6,r_ 7,r_ 8,r_ 9,r_ 10,r_ 11,r_ 12,r_ 13,r_ 14,r_ 15,r_ 16,r_ 17,r_ 18,r_ 19,r_ 20,r_ 21,r_ 22,r_ 23,r_ 24,r_ 25,r_ 26,r_ 27,[0,1,2,3,4,5,6,7,8,9,10,11,12,13,14,15,16,17,18,19,20,21,22,23,24,25,27],[0,1,2,3,4,5,6,7,8,9,10,11,12,13,14,15,16,17,18,19,20,21,22,23,24,25,27,28],r_ 30,r_ 31,r_ 32,[0,1,2,3,4,5,6,7,8,9,10,11,12,13,14,15,16,17,18,19,20,21,22,23,24,25,32],[0,1,2,3,4,5,6,7,8,9,10,11,12,13,14,15,16,17,18,19,20,21,22,23,24,25,32,33],r_ 35,r_ 36,r_ 37] [K_ (vP (pb E6 3) 0), K_ (vI ((sgi l i).d)), K_ bF, K_ bT, K_ bT, K_ undef, K_ undef, K_ undef, K_ undef, K_ bT, K_ bT, K_ undef, K_ undef, K_ undef, K_ undef, K_ bT, K_ bT, K_ undef, K_ undef, K_ undef, K_ undef, K_ bT, K_ bT, K_ undef, K_ undef, K_ undef, K_ undef, K_ undef, K_ undef, K_ undef, K_ undef, K_ undef, K_ undef, K_ undef, K_ undef, K_ undef, K_ bT] (fun E7 => [(0, .slice A0 l.length c0), (7, vN i), (8, vP (pb E6 3) 0), (34, .slice A0 l.length c0), (35, vN l.length), (36, vN i), (37, bT), (38, vN i), (39, elt (.slice A0 l.length c0) (i * 4)), (40, vSg (sgi l i)), (41, vP (pb E6 3) 0), (42, vI ((sgi l i).d)), (43, bF), (44, bT), (45, bT), (46, undef), (47, undef), (48, undef), (49, undef), (50, bT), (51, bT), (52, undef), (53, undef), (54, undef), (55, undef), (56, bT), (57, bT), (58, undef), (59, undef), (60, undef), (61, undef), (62, bT), (63, bT), (64, undef), (65, undef), (66, undef), (67, undef), (68, undef), (69, undef), (70, undef), (71, undef), (72, undef), (73, undef), (74, undef), (75, undef), (76, undef), (77, bT)]) (hs := c_ (fa0 (vP (pb E6 3) 0)) <| c_ (ld_ 0 (hrd := by exact rd3 rfl)) <| c_ (cl_ Try.func37 (h := fun env => ⟨_, ((rwithin_any (sgi l i).d (-1048576) 1048576).eq (congrArg Value.bool gD)), rfl⟩)) <| c_ (un0 bF) <| c_ mv_ <| c_ off_ <| c_ off_ <| c_ off_ <| c_ off_ <| c_ (pk0 bT bT undef) <| c_ mv_ <| c_ off_ <| c_ off_ <| c_ off_ <| c_ off_ <| c_ (pk0 bT bT undef) <| c_ mv_ <| c_ off_ <| c_ off_ <| c_ off_ <| c_ off_ <| c_ (pk0 bT bT undef) <| c_ mv_ <| c_ off_ <| c_ off_ <| c_ off_ <| c_ off_ <| c_ off_ <| c_ off_ <| c_ off_ <| c_ off_ <| c_ off_ <| c_ off_ <| c_ off_ <| c_ off_ <| c_ off_ <| c_ (pk0 bT bT undef) <| e_) (k := fun E7 ac wd h_7 => ?_)
  clear h_6
  refine then_n ?_
  refine cT_ h_7 ?_
  refine wp_seq ?_
  refine rg_ h_7 [[0]] [K_ bF] (fun E8 => [(0, .slice A0 l.length c0), (6, bF), (7, vN i), (8, vP (pb E6 3) 0), (34, .slice A0 l.length c0), (35, vN l.length), (36, vN i), (37, bT), (38, vN i), (39, elt (.slice A0 l.length c0) (i * 4)), (40, vSg (sgi l i)), (41, vP (pb E6 3) 0), (42, vI ((sgi l i).d)), (43, bF), (44, bT), (45, bT), (46, undef), (47, undef), (48, undef), (49, undef), (50, bT), (51, bT), (52, undef), (53, undef), (54, undef), (55, undef), (56, bT), (57, bT), (58, undef), (59, undef), (60, undef), (61, undef), (62, bT), (63, bT), (64, undef), (65, undef), (66, undef), (67, undef), (68, undef), (69, undef), (70, undef), (71, undef), (72, undef), (73, undef), (74, undef), (75, undef), (76, undef), (77, bT)]) (hs := c_ mv_ <| e_) (k := fun E8 ac wd h_8 => ?_)
  clear h_7
  refine then_n (wp_ret (blk_ret (then_ret (then_ret (blk_ret (then_ret ?_))))))
  refine lvT Try.results16 h_8 ?_
  have hres : szL l day off = false := by (have hq : szR l i = false := (by simp [szR, szS, gD])); rw [szL, ← szR_szA (day := day) (by omega), all_no h1 hq]; simp
  exact ⟨by rw [hres], h_8.st.below⟩
  cases gB : wthn (sgi l i).b (-1000000000) 1000000000
  refine rg_ h_6 [[0],[0,1],[0,1,2],r_ 4,r_ 5,r_ 6,r_ 7,r_ 8,r_ 9,r_ 10,r_ 11,r_ 12,r_ 13,r_ 14,r_ 15,r_ 16,r_ 17,r_ 18,r_ 19,r_ 20,r_ 21,r_ 22,r_ 23,r_ 24,r_ 25,r_ 26,r_ 27,[0,1,2,3,4,5,6,7,8,9,10,11,12,13,14,15,16,17,18,19,20,21,22,23,24,25,27],[0,1,2,3,4,5,6,7,8,9,10,11,12,13,14,15,16,17,18,19,20,21,22,23,24,25,27,28],r_ 30,r_ 31,r_ 32,[0,1,2,3,4,5,6,7,8,9,10,11,12,13,14,15,16,17,18,19,20,21,22,23,24,25,32],[0,1,2,3,4,5,6,7,8,9,10,11,12,13,14,15,16,17,18,19,20,21,22,23,24,25,32,33],r_ 35,r_ 36,r_ 37] [K_ (vP (pb E6 3) 0), K_ (vI ((sgi l i).d)), K_ bT, K_ bF, K_ bF, K_ (vP (pb E6 3) 1), K_ (vI ((sgi l i).b)), K_ bF, K_ bT, K_ bT, K_ bT, K_ undef, K_ undef, K_ undef, K_ undef, K_ bT, K_ bT, K_ undef, K_ undef, K_ undef, K_ undef, K_ bT, K_ bT, K_ undef, K_ undef, K_ undef, K_ undef, K_ undef, K_ undef, K_ undef, K_ undef, K_ undef, K_ undef, K_ undef, K_ undef, K_ undef, K_ bT] (fun E7 => [(0, .slice A0 l.length c0), (7, vN i), (8, vP (pb E6 3) 0), (34, .slice A0 l.length c0), (35, vN l.length), (36, vN i), (37, bT), (38, vN i), (39, elt (.slice A0 l.length c0) (i * 4)), (40, vSg (sgi l i)), (41, vP (pb E6 3) 0), (42, vI ((sgi l i).d)), (43, bT), (44, bF), (45, bF), (46, vP (pb E6 3) 1), (47, vI ((sgi l i).b)), (48, bF), (49, bT), (50, bT), (51, bT), (52, undef), (53, undef), (54, undef), (55, undef), (56, bT), (57, bT), (58, undef), (59, undef), (60, undef), (61, undef), (62, bT), (63, bT), (64, undef), (65, undef), (66, undef), (67, undef), (68, undef), (69, undef), (70, undef), (71, undef), (72, undef), (73, undef), (74, undef), (75, undef), (76, undef), (77, bT)]) (hs := c_ (fa0 (vP (pb E6 3) 0)) <| c_ (ld_ 0 (hrd := by exact rd3 rfl)) <| c_ (cl_ Try.func37 (h := fun env => ⟨_, ((rwithin_any (sgi l i).d (-1048576) 1048576).eq (congrArg Value.bool gD)), rfl⟩)) <| c_ (un0 bT) <| c_ mv_ <| c_ (fa0 (vP (pb E6 3) 0)) <| c_ (ld_ 0 (hrd := by exact rd3 rfl)) <| c_ (cl_ Try.func37 (h := fun env => ⟨_, ((rwithin_any (sgi l i).b (-1000000000) 1000000000).eq (congrArg Value.bool gB)), rfl⟩)) <| c_ (un0 bF) <| c_ (pk0 bF bT bT) <| c_ mv_ <| c_ off_ <| c_ off_ <| c_ off_ <| c_ off_ <| c_ (pk0 bT bT undef) <| c_ mv_ <| c_ off_ <| c_ off_ <| c_ off_ <| c_ off_ <| c_ (pk0 bT bT undef) <| c_ mv_ <| c_ off_ <| c_ off_ <| c_ off_ <| c_ off_ <| c_ off_ <| c_ off_ <| c_ off_ <| c_ off_ <| c_ off_ <| c_ off_ <| c_ off_ <| c_ off_ <| c_ off_ <| c_ (pk0 bT bT undef) <| e_) (k := fun E7 ac wd h_7 => ?_)
  clear h_6
  refine then_n ?_
  refine cT_ h_7 ?_
  refine wp_seq ?_
  refine rg_ h_7 [[0]] [K_ bF] (fun E8 => [(0, .slice A0 l.length c0), (6, bF), (7, vN i), (8, vP (pb E6 3) 0), (34, .slice A0 l.length c0), (35, vN l.length), (36, vN i), (37, bT), (38, vN i), (39, elt (.slice A0 l.length c0) (i * 4)), (40, vSg (sgi l i)), (41, vP (pb E6 3) 0), (42, vI ((sgi l i).d)), (43, bT), (44, bF), (45, bF), (46, vP (pb E6 3) 1), (47, vI ((sgi l i).b)), (48, bF), (49, bT), (50, bT), (51, bT), (52, undef), (53, undef), (54, undef), (55, undef), (56, bT), (57, bT), (58, undef), (59, undef), (60, undef), (61, undef), (62, bT), (63, bT), (64, undef), (65, undef), (66, undef), (67, undef), (68, undef), (69, undef), (70, undef), (71, undef), (72, undef), (73, undef), (74, undef), (75, undef), (76, undef), (77, bT)]) (hs := c_ mv_ <| e_) (k := fun E8 ac wd h_8 => ?_)
  clear h_7
  refine then_n (wp_ret (blk_ret (then_ret (then_ret (blk_ret (then_ret ?_))))))
  refine lvT Try.results16 h_8 ?_
  have hres : szL l day off = false := by (have hq : szR l i = false := (by simp [szR, szS, gD, gB])); rw [szL, ← szR_szA (day := day) (by omega), all_no h1 hq]; simp
  exact ⟨by rw [hres], h_8.st.below⟩
  cases gF : wthn (sgi l i).f (-1048576) 1048576
  refine rg_ h_6 [[0],[0,1],[0,1,2],r_ 4,r_ 5,r_ 6,r_ 7,r_ 8,r_ 9,r_ 10,r_ 11,r_ 12,r_ 13,r_ 14,r_ 15,r_ 16,r_ 17,r_ 18,r_ 19,r_ 20,r_ 21,r_ 22,r_ 23,r_ 24,r_ 25,r_ 26,r_ 27,[0,1,2,3,4,5,6,7,8,9,10,11,12,13,14,15,16,17,18,19,20,21,22,23,24,25,27],[0,1,2,3,4,5,6,7,8,9,10,11,12,13,14,15,16,17,18,19,20,21,22,23,24,25,27,28],r_ 30,r_ 31,r_ 32,[0,1,2,3,4,5,6,7,8,9,10,11,12,13,14,15,16,17,18,19,20,21,22,23,24,25,32],[0,1,2,3,4,5,6,7,8,9,10,11,12,13,14,15,16,17,18,19,20,21,22,23,24,25,32,33],r_ 35,r_ 36,r_ 37] [K_ (vP (pb E6 3) 0), K_ (vI ((sgi l i).d)), K_ bT, K_ bF, K_ bF, K_ (vP (pb E6 3) 1), K_ (vI ((sgi l i).b)), K_ bT, K_ bF, K_ bF, K_ bF, K_ (vP (pb E6 3) 2), K_ (vI ((sgi l i).f)), K_ bF, K_ bT, K_ bT, K_ bT, K_ undef, K_ undef, K_ undef, K_ undef, K_ bT, K_ bT, K_ undef, K_ undef, K_ undef, K_ undef, K_ undef, K_ undef, K_ undef, K_ undef, K_ undef, K_ undef, K_ undef, K_ undef, K_ undef, K_ bT] (fun E7 => [(0, .slice A0 l.length c0), (7, vN i), (8, vP (pb E6 3) 0), (34, .slice A0 l.length c0), (35, vN l.length), (36, vN i), (37, bT), (38, vN i), (39, elt (.slice A0 l.length c0) (i * 4)), (40, vSg (sgi l i)), (41, vP (pb E6 3) 0), (42, vI ((sgi l i).d)), (43, bT), (44, bF), (45, bF), (46, vP (pb E6 3) 1), (47, vI ((sgi l i).b)), (48, bT), (49, bF), (50, bF), (51, bF), (52, vP (pb E6 3) 2), (53, vI ((sgi l i).f)), (54, bF), (55, bT), (56, bT), (57, bT), (58, undef), (59, undef), (60, undef), (61, undef), (62, bT), (63, bT), (64, undef), (65, undef), (66, undef), (67, undef), (68, undef), (69, undef), (70, undef), (71, undef), (72, undef), (73, undef), (74, undef), (75, undef), (76, undef), (77, bT)]) (hs := c_ (fa0 (vP (pb E6 3) 0)) <| c_ (ld_ 0 (hrd := by exact rd3 rfl)) <| c_ (cl_ Try.func37 (h := fun env => ⟨_, ((rwithin_any (sgi l i).d (-1048576) 1048576).eq (congrArg Value.bool gD)), rfl⟩)) <| c_ (un0 bT) <| c_ mv_ <| c_ (fa0 (vP (pb E6 3) 0)) <| c_ (ld_ 0 (hrd := by exact rd3 rfl)) <| c_ (cl_ Try.func37 (h := fun env => ⟨_, ((rwithin_any (sgi l i).b (-1000000000) 1000000000).eq (congrArg Value.bool gB)), rfl⟩)) <| c_ (un0 bT) <| c_ (pk0 bF bT bF) <| c_ mv_ <| c_ (fa0 (vP (pb E6 3) 0)) <| c_ (ld_ 0 (hrd := by exact rd3 rfl)) <| c_ (cl_ Try.func37 (h := fun env => ⟨_, ((rwithin_any (sgi l i).f (-1048576) 1048576).eq (congrArg Value.bool gF)), rfl⟩)) <| c_ (un0 bF) <| c_ (pk0 bF bT bT) <| c_ mv_ <| c_ off_ <| c_ off_ <| c_ off_ <| c_ off_ <| c_ (pk0 bT bT undef) <| c_ mv_ <| c_ off_ <| c_ off_ <| c_ off_ <| c_ off_ <| c_ off_ <| c_ off_ <| c_ off_ <| c_ off_ <| c_ off_ <| c_ off_ <| c_ off_ <| c_ off_ <| c_ off_ <| c_ (pk0 bT bT undef) <| e_) (k := fun E7 ac wd h_7 => ?_)
  clear h_6
  refine then_n ?_
  refine cT_ h_7 ?_
  refine wp_seq ?_
  refine rg_ h_7 [[0]] [K_ bF] (fun E8 => [(0, .slice A0 l.length c0), (6, bF), (7, vN i), (8, vP (pb E6 3) 0), (34, .slice A0 l.length c0), (35, vN l.length), (36, vN i), (37, bT), (38, vN i), (39, elt (.slice A0 l.length c0) (i * 4)), (40, vSg (sgi l i)), (41, vP (pb E6 3) 0), (42, vI ((sgi l i).d)), (43, bT), (44, bF), (45, bF), (46, vP (pb E6 3) 1), (47, vI ((sgi l i).b)), (48, bT), (49, bF), (50, bF), (51, bF), (52, vP (pb E6 3) 2), (53, vI ((sgi l i).f)), (54, bF), (55, bT), (56, bT), (57, bT), (58, undef), (59, undef), (60, undef), (61, undef), (62, bT), (63, bT), (64, undef), (65, undef), (66, undef), (67, undef), (68, undef), (69, undef), (70, undef), (71, undef), (72, undef), (73, undef), (74, undef), (75, undef), (76, undef), (77, bT)]) (hs := c_ mv_ <| e_) (k := fun E8 ac wd h_8 => ?_)
  clear h_7
  refine then_n (wp_ret (blk_ret (then_ret (then_ret (blk_ret (then_ret ?_))))))
  refine lvT Try.results16 h_8 ?_
  have hres : szL l day off = false := by (have hq : szR l i = false := (by simp [szR, szS, gD, gB, gF])); rw [szL, ← szR_szA (day := day) (by omega), all_no h1 hq]; simp
  exact ⟨by rw [hres], h_8.st.below⟩
  cases gR : wthn (sgi l i).r 0 1000000
  refine rg_ h_6 [[0],[0,1],[0,1,2],r_ 4,r_ 5,r_ 6,r_ 7,r_ 8,r_ 9,r_ 10,r_ 11,r_ 12,r_ 13,r_ 14,r_ 15,r_ 16,r_ 17,r_ 18,r_ 19,r_ 20,r_ 21,r_ 22,r_ 23,r_ 24,r_ 25,r_ 26,r_ 27,[0,1,2,3,4,5,6,7,8,9,10,11,12,13,14,15,16,17,18,19,20,21,22,23,24,25,27],[0,1,2,3,4,5,6,7,8,9,10,11,12,13,14,15,16,17,18,19,20,21,22,23,24,25,27,28],r_ 30,r_ 31,r_ 32,[0,1,2,3,4,5,6,7,8,9,10,11,12,13,14,15,16,17,18,19,20,21,22,23,24,25,32],[0,1,2,3,4,5,6,7,8,9,10,11,12,13,14,15,16,17,18,19,20,21,22,23,24,25,32,33],r_ 35,r_ 36,r_ 37] [K_ (vP (pb E6 3) 0), K_ (vI ((sgi l i).d)), K_ bT, K_ bF, K_ bF, K_ (vP (pb E6 3) 1), K_ (vI ((sgi l i).b)), K_ bT, K_ bF, K_ bF, K_ bF, K_ (vP (pb E6 3) 2), K_ (vI ((sgi l i).f)), K_ bT, K_ bF, K_ bF, K_ bF, K_ (vP (pb E6 3) 3), K_ (vI ((sgi l i).r)), K_ bF, K_ bT, K_ bT, K_ bT, K_ undef, K_ undef, K_ undef, K_ undef, K_ undef, K_ undef, K_ undef, K_ undef, K_ undef, K_ undef, K_ undef, K_ undef, K_ undef, K_ bT] (fun E7 => [(0, .slice A0 l.length c0), (7, vN i), (8, vP (pb E6 3) 0), (34, .slice A0 l.length c0), (35, vN l.length), (36, vN i), (37, bT), (38, vN i), (39, elt (.slice A0 l.length c0) (i * 4)), (40, vSg (sgi l i)), (41, vP (pb E6 3) 0), (42, vI ((sgi l i).d)), (43, bT), (44, bF), (45, bF), (46, vP (pb E6 3) 1), (47, vI ((sgi l i).b)), (48, bT), (49, bF), (50, bF), (51, bF), (52, vP (pb E6 3) 2), (53, vI ((sgi l i).f)), (54, bT), (55, bF), (56, bF), (57, bF), (58, vP (pb E6 3) 3), (59, vI ((sgi l i).r)), (60, bF), (61, bT), (62, bT), (63, bT), (64, undef), (65, undef), (66, undef), (67, undef), (68, undef), (69, undef), (70, undef), (71, undef), (72, undef), (73, undef), (74, undef), (75, undef), (76, undef), (77, bT)]) (hs := c_ (fa0 (vP (pb E6 3) 0)) <| c_ (ld_ 0 (hrd := by exact rd3 rfl)) <| c_ (cl_ Try.func37 (h := fun env => ⟨_, ((rwithin_any (sgi l i).d (-1048576) 1048576).eq (congrArg Value.bool gD)), rfl⟩)) <| c_ (un0 bT) <| c_ mv_ <| c_ (fa0 (vP (pb E6 3) 0)) <| c_ (ld_ 0 (hrd := by exact rd3 rfl)) <| c_ (cl_ Try.func37 (h := fun env => ⟨_, ((rwithin_any (sgi l i).b (-1000000000) 1000000000).eq (congrArg Value.bool gB)), rfl⟩)) <| c_ (un0 bT) <| c_ (pk0 bF bT bF) <| c_ mv_ <| c_ (fa0 (vP (pb E6 3) 0)) <| c_ (ld_ 0 (hrd := by exact rd3 rfl)) <| c_ (cl_ Try.func37 (h := fun env => ⟨_, ((rwithin_any (sgi l i).f (-1048576) 1048576).eq (congrArg Value.bool gF)), rfl⟩)) <| c_ (un0 bT) <| c_ (pk0 bF bT bF) <| c_ mv_ <| c_ (fa0 (vP (pb E6 3) 0)) <| c_ (ld_ 0 (hrd := by exact rd3 rfl)) <| c_ (cl_ Try.func37 (h := fun env => ⟨_, ((rwithin_any (sgi l i).r 0 1000000).eq (congrArg Value.bool gR)), rfl⟩)) <| c_ (un0 bF) <| c_ (pk0 bF bT bT) <| c_ mv_ <| c_ off_ <| c_ off_ <| c_ off_ <| c_ off_ <| c_ off_ <| c_ off_ <| c_ off_ <| c_ off_ <| c_ off_ <| c_ off_ <| c_ off_ <| c_ off_ <| c_ off_ <| c_ (pk0 bT bT undef) <| e_) (k := fun E7 ac wd h_7 => ?_)
  clear h_6
  refine then_n ?_
  refine cT_ h_7 ?_
  refine wp_seq ?_
  refine rg_ h_7 [[0]] [K_ bF] (fun E8 => [(0, .slice A0 l.length c0), (6, bF), (7, vN i), (8, vP (pb E6 3) 0), (34, .slice A0 l.length c0), (35, vN l.length), (36, vN i), (37, bT), (38, vN i), (39, elt (.slice A0 l.length c0) (i * 4)), (40, vSg (sgi l i)), (41, vP (pb E6 3) 0), (42, vI ((sgi l i).d)), (43, bT), (44, bF), (45, bF), (46, vP (pb E6 3) 1), (47, vI ((sgi l i).b)), (48, bT), (49, bF), (50, bF), (51, bF), (52, vP (pb E6 3) 2), (53, vI ((sgi l i).f)), (54, bT), (55, bF), (56, bF), (57, bF), (58, vP (pb E6 3) 3), (59, vI ((sgi l i).r)), (60, bF), (61, bT), (62, bT), (63, bT), (64, undef), (65, undef), (66, undef), (67, undef), (68, undef), (69, undef), (70, undef), (71, undef), (72, undef), (73, undef), (74, undef), (75, undef), (76, undef), (77, bT)]) (hs := c_ mv_ <| e_) (k := fun E8 ac wd h_8 => ?_)
  clear h_7
  refine then_n (wp_ret (blk_ret (then_ret (then_ret (blk_ret (then_ret ?_))))))
  refine lvT Try.results16 h_8 ?_
  have hres : szL l day off = false := by (have hq : szR l i = false := (by simp [szR, szS, gD, gB, gF, gR])); rw [szL, ← szR_szA (day := day) (by omega), all_no h1 hq]; simp
  exact ⟨by rw [hres], h_8.st.below⟩
  by_cases g0 : i = 0
  refine rg_ h_6 [[0],[0,1],[0,1,2],r_ 4,r_ 5,r_ 6,r_ 7,r_ 8,r_ 9,r_ 10,r_ 11,r_ 12,r_ 13,r_ 14,r_ 15,r_ 16,r_ 17,r_ 18,r_ 19,r_ 20,r_ 21,r_ 22,r_ 23,r_ 24,r_ 25,r_ 26,r_ 27,[0,1,2,3,4,5,6,7,8,9,10,11,12,13,14,15,16,17,18,19,20,21,22,23,24,25,27],[0,1,2,3,4,5,6,7,8,9,10,11,12,13,14,15,16,17,18,19,20,21,22,23,24,25,27,28],r_ 30,r_ 31,r_ 32,[0,1,2,3,4,5,6,7,8,9,10,11,12,13,14,15,16,17,18,19,20,21,22,23,24,25,32],[0,1,2,3,4,5,6,7,8,9,10,11,12,13,14,15,16,17,18,19,20,21,22,23,24,25,32,33],r_ 35,r_ 36,r_ 37] [K_ (vP (pb E6 3) 0), K_ (vI ((sgi l i).d)), K_ bT, K_ bF, K_ bF, K_ (vP (pb E6 3) 1), K_ (vI ((sgi l i).b)), K_ bT, K_ bF, K_ bF, K_ bF, K_ (vP (pb E6 3) 2), K_ (vI ((sgi l i).f)), K_ bT, K_ bF, K_ bF, K_ bF, K_ (vP (pb E6 3) 3), K_ (vI ((sgi l i).r)), K_ bT, K_ bF, K_ bF, K_ bF, K_ (vN i), K_ bF, K_ bF, K_ undef, K_ undef, K_ undef, K_ undef, K_ undef, K_ undef, K_ undef, K_ undef, K_ undef, K_ bF, K_ bF] (fun E7 => [(0, .slice A0 l.length c0), (7, vN i), (8, vP (pb E6 3) 0), (34, .slice A0 l.length c0), (35, vN l.length), (36, vN i), (37, bT), (38, vN i), (39, elt (.slice A0 l.length c0) (i * 4)), (40, vSg (sgi l i)), (41, vP (pb E6 3) 0), (42, vI ((sgi l i).d)), (43, bT), (44, bF), (45, bF), (46, vP (pb E6 3) 1), (47, vI ((sgi l i).b)), (48, bT), (49, bF), (50, bF), (51, bF), (52, vP (pb E6 3) 2), (53, vI ((sgi l i).f)), (54, bT), (55, bF), (56, bF), (57, bF), (58, vP (pb E6 3) 3), (59, vI ((sgi l i).r)), (60, bT), (61, bF), (62, bF), (63, bF), (64, vN i), (65, bF), (66, bF), (67, undef), (68, undef), (69, undef), (70, undef), (71, undef), (72, undef), (73, undef), (74, undef), (75, undef), (76, bF), (77, bF)]) (hs := c_ (fa0 (vP (pb E6 3) 0)) <| c_ (ld_ 0 (hrd := by exact rd3 rfl)) <| c_ (cl_ Try.func37 (h := fun env => ⟨_, ((rwithin_any (sgi l i).d (-1048576) 1048576).eq (congrArg Value.bool gD)), rfl⟩)) <| c_ (un0 bT) <| c_ mv_ <| c_ (fa0 (vP (pb E6 3) 0)) <| c_ (ld_ 0 (hrd := by exact rd3 rfl)) <| c_ (cl_ Try.func37 (h := fun env => ⟨_, ((rwithin_any (sgi l i).b (-1000000000) 1000000000).eq (congrArg Value.bool gB)), rfl⟩)) <| c_ (un0 bT) <| c_ (pk0 bF bT bF) <| c_ mv_ <| c_ (fa0 (vP (pb E6 3) 0)) <| c_ (ld_ 0 (hrd := by exact rd3 rfl)) <| c_ (cl_ Try.func37 (h := fun env => ⟨_, ((rwithin_any (sgi l i).f (-1048576) 1048576).eq (congrArg Value.bool gF)), rfl⟩)) <| c_ (un0 bT) <| c_ (pk0 bF bT bF) <| c_ mv_ <| c_ (fa0 (vP (pb E6 3) 0)) <| c_ (ld_ 0 (hrd := by exact rd3 rfl)) <| c_ (cl_ Try.func37 (h := fun env => ⟨_, ((rwithin_any (sgi l i).r 0 1000000).eq (congrArg Value.bool gR)), rfl⟩)) <| c_ (un0 bT) <| c_ (pk0 bF bT bF) <| c_ mv_ <| c_ (gm0 (vN i)) <| c_ (bi0 (vN i) (vI 0)) <| c_ (gm0 bF) <| c_ off_ <| c_ off_ <| c_ off_ <| c_ off_ <| c_ off_ <| c_ off_ <| c_ off_ <| c_ off_ <| c_ off_ <| c_ (pk0 bF undef bF) <| c_ (pk0 bF bT bF) <| e_) (k := fun E7 ac wd h_7 => ?_)
  clear h_6
  refine then_n ?_
  refine cF_ h_7 ?_
  refine wp_skip (blk_n (then_n ?_))
  refine rg_ h_7 [[0],[0,1]] [K_ (vI (((i : Nat) : Int) + 1)), K_ (vI (((i : Nat) : Int) + 1))] (fun E8 => [(0, .slice A0 l.length c0), (7, vN i), (8, vP (pb E6 3) 0), (34, .slice A0 l.length c0), (35, vN l.length), (36, vI (((i : Nat) : Int) + 1)), (37, bT), (38, vN i), (39, elt (.slice A0 l.length c0) (i * 4)), (40, vSg (sgi l i)), (41, vP (pb E6 3) 0), (42, vI ((sgi l i).d)), (43, bT), (44, bF), (45, bF), (46, vP (pb E6 3) 1), (47, vI ((sgi l i).b)), (48, bT), (49, bF), (50, bF), (51, bF), (52, vP (pb E6 3) 2), (53, vI ((sgi l i).f)), (54, bT), (55, bF), (56, bF), (57, bF), (58, vP (pb E6 3) 3), (59, vI ((sgi l i).r)), (60, bT), (61, bF), (62, bF), (63, bF), (64, vN i), (65, bF), (66, bF), (67, undef), (68, undef), (69, undef), (70, undef), (71, undef), (72, undef), (73, undef), (74, undef), (75, undef), (76, bF), (77, bF), (78, vI (((i : Nat) : Int) + 1))]) (hs := c_ (bi0 (vN i) (vI 1)) <| c_ mv_ <| e_) (k := fun E8 ac wd h_8 => ?_)
  clear h_7
  refine then_n ?_
  have hS : szS (sgi l i) = true := by simp [szS, gD, gB, gF, gR]
  have hb : (Nat.beq i 0 || decide ((sgi l (i - 1)).d < (sgi l i).d)) = true := by rw [g0]; rfl
  have hq : szR l i = true := by unfold szR; rw [hS, hb]; rfl
  exact ⟨⟨i + 1, ⟨by omega, steps_snoc (p := fun j => szR l j = true) hi2 hq⟩, (h_8.take (M1 := []) rfl).re rfl⟩, by rw [sI_eq (h_8.g (t := 36) rfl), hmu]; omega⟩
  by_cases gP : (sgi l i).d ≤ (sgi l (i - 1)).d
  refine rg_ h_6 [[0],[0,1],[0,1,2],r_ 4,r_ 5,r_ 6,r_ 7,r_ 8,r_ 9,r_ 10,r_ 11,r_ 12,r_ 13,r_ 14,r_ 15,r_ 16,r_ 17,r_ 18,r_ 19,r_ 20,r_ 21,r_ 22,r_ 23,r_ 24,r_ 25,r_ 26,r_ 27,[0,1,2,3,4,5,6,7,8,9,10,11,12,13,14,15,16,17,18,19,20,21,22,23,24,25,27],[0,1,2,3,4,5,6,7,8,9,10,11,12,13,14,15,16,17,18,19,20,21,22,23,24,25,27,28],r_ 30,r_ 31,r_ 32,[0,1,2,3,4,5,6,7,8,9,10,11,12,13,14,15,16,17,18,19,20,21,22,23,24,25,32],[0,1,2,3,4,5,6,7,8,9,10,11,12,13,14,15,16,17,18,19,20,21,22,23,24,25,32,33],r_ 35,r_ 36,r_ 37] [K_ (vP (pb E6 3) 0), K_ (vI ((sgi l i).d)), K_ bT, K_ bF, K_ bF, K_ (vP (pb E6 3) 1), K_ (vI ((sgi l i).b)), K_ bT, K_ bF, K_ bF, K_ bF, K_ (vP (pb E6 3) 2), K_ (vI ((sgi l i).f)), K_ bT, K_ bF, K_ bF, K_ bF, K_ (vP (pb E6 3) 3), K_ (vI ((sgi l i).r)), K_ bT, K_ bF, K_ bF, K_ bF, K_ (vN i), K_ bT, K_ bT, K_ (.slice A0 l.length c0), K_ (vN i), K_ (vI (((i : Nat) : Int) - 1)), K_ (elt (.slice A0 l.length c0) ((i - 1) * 4)), K_ (elt (.slice A0 l.length c0) ((i - 1) * 4)), K_ (vI ((sgi l (i - 1)).d)), K_ (vP (pb E6 3) 0), K_ (vI ((sgi l i).d)), K_ bT, K_ bT, K_ bT] (fun E7 => [(0, .slice A0 l.length c0), (7, vN i), (8, vP (pb E6 3) 0), (34, .slice A0 l.length c0), (35, vN l.length), (36, vN i), (37, bT), (38, vN i), (39, elt (.slice A0 l.length c0) (i * 4)), (40, vSg (sgi l i)), (41, vP (pb E6 3) 0), (42, vI ((sgi l i).d)), (43, bT), (44, bF), (45, bF), (46, vP (pb E6 3) 1), (47, vI ((sgi l i).b)), (48, bT), (49, bF), (50, bF), (51, bF), (52, vP (pb E6 3) 2), (53, vI ((sgi l i).f)), (54, bT), (55, bF), (56, bF), (57, bF), (58, vP (pb E6 3) 3), (59, vI ((sgi l i).r)), (60, bT), (61, bF), (62, bF), (63, bF), (64, vN i), (65, bT), (66, bT), (67, .slice A0 l.length c0), (68, vN i), (69, vI (((i : Nat) : Int) - 1)), (70, elt (.slice A0 l.length c0) ((i - 1) * 4)), (71, elt (.slice A0 l.length c0) ((i - 1) * 4)), (72, vI ((sgi l (i - 1)).d)), (73, vP (pb E6 3) 0), (74, vI ((sgi l i).d)), (75, bT), (76, bT), (77, bT)]) (hs := c_ (fa0 (vP (pb E6 3) 0)) <| c_ (ld_ 0 (hrd := by exact rd3 rfl)) <| c_ (cl_ Try.func37 (h := fun env => ⟨_, ((rwithin_any (sgi l i).d (-1048576) 1048576).eq (congrArg Value.bool gD)), rfl⟩)) <| c_ (un0 bT) <| c_ mv_ <| c_ (fa0 (vP (pb E6 3) 0)) <| c_ (ld_ 0 (hrd := by exact rd3 rfl)) <| c_ (cl_ Try.func37 (h := fun env => ⟨_, ((rwithin_any (sgi l i).b (-1000000000) 1000000000).eq (congrArg Value.bool gB)), rfl⟩)) <| c_ (un0 bT) <| c_ (pk0 bF bT bF) <| c_ mv_ <| c_ (fa0 (vP (pb E6 3) 0)) <| c_ (ld_ 0 (hrd := by exact rd3 rfl)) <| c_ (cl_ Try.func37 (h := fun env => ⟨_, ((rwithin_any (sgi l i).f (-1048576) 1048576).eq (congrArg Value.bool gF)), rfl⟩)) <| c_ (un0 bT) <| c_ (pk0 bF bT bF) <| c_ mv_ <| c_ (fa0 (vP (pb E6 3) 0)) <| c_ (ld_ 0 (hrd := by exact rd3 rfl)) <| c_ (cl_ Try.func37 (h := fun env => ⟨_, ((rwithin_any (sgi l i).r 0 1000000).eq (congrArg Value.bool gR)), rfl⟩)) <| c_ (un0 bT) <| c_ (pk0 bF bT bF) <| c_ mv_ <| c_ (gm0 (vN i)) <| c_ (bi0 (vN i) (vI 0)) <| c_ (gm0 bT) <| c_ (gm0 (.slice A0 l.length c0)) <| c_ (gm0 (vN i)) <| c_ (bi0 (vN i) (vI 1)) <| c_ (ia_ Try.underlying22 sz25 (i - 1) ((i - 1) * 4) (((i : Nat) : Int) - 1) (fun _ env _ wd hA => (hl.grown hA.j.st.gr).els) (by omega) (by omega) rfl) <| c_ (s_fa rfl rfl rfl (fun hA => hA.gy rfl rfl rfl) ((i - 1) * 4) 0 ((i - 1) * 4) rfl (s := fun _ => .slice A0 l.length c0) rfl (fun _ => rfl) (fun {D env ac wd} hA => (hl.grown hA.j.st.gr).els) (by omega) (fun b q w => by simp [go_sem, Try.underlying25])) <| c_ (le_ ((i - 1) * 4) (fun _ env _ wd hA => (hl.grown hA.j.st.gr).els) (by omega) (le3 (by exact sgC_0 l (i - 1)))) <| c_ (fa0 (vP (pb E6 3) 0)) <| c_ (ld_ 0 (hrd := by exact rd3 rfl)) <| c_ (bi0 (vI ((sgi l (i - 1)).d)) (vI ((sgi l i).d)) (h := by intro env w; simp [go_sem, gP])) <| c_ (pk0 bT bT bF (h := by intro env w; simp [go_sem, gP])) <| c_ (pk0 bF bT bT (h := by intro env w; simp [go_sem, gP])) <| e_) (k := fun E7 ac wd h_7 => ?_)
  clear h_6
  refine then_n ?_
  refine cT_ h_7 ?_
  refine wp_seq ?_
  refine rg_ h_7 [[0]] [K_ bF] (fun E8 => [(0, .slice A0 l.length c0), (6, bF), (7, vN i), (8, vP (pb E6 3) 0), (34, .slice A0 l.length c0), (35, vN l.length), (36, vN i), (37, bT), (38, vN i), (39, elt (.slice A0 l.length c0) (i * 4)), (40, vSg (sgi l i)), (41, vP (pb E6 3) 0), (42, vI ((sgi l i).d)), (43, bT), (44, bF), (45, bF), (46, vP (pb E6 3) 1), (47, vI ((sgi l i).b)), (48, bT), (49, bF), (50, bF), (51, bF), (52, vP (pb E6 3) 2), (53, vI ((sgi l i).f)), (54, bT), (55, bF), (56, bF), (57, bF), (58, vP (pb E6 3) 3), (59, vI ((sgi l i).r)), (60, bT), (61, bF), (62, bF), (63, bF), (64, vN i), (65, bT), (66, bT), (67, .slice A0 l.length c0), (68, vN i), (69, vI (((i : Nat) : Int) - 1)), (70, elt (.slice A0 l.length c0) ((i - 1) * 4)), (71, elt (.slice A0 l.length c0) ((i - 1) * 4)), (72, vI ((sgi l (i - 1)).d)), (73, vP (pb E6 3) 0), (74, vI ((sgi l i).d)), (75, bT), (76, bT), (77, bT)]) (hs := c_ mv_ <| e_) (k := fun E8 ac wd h_8 => ?_)
  clear h_7
  refine then_n (wp_ret (blk_ret (then_ret (then_ret (blk_ret (then_ret ?_))))))
  refine lvT Try.results16 h_8 ?_
  have hres : szL l day off = false := by (have hS : szS (sgi l i) = true := (by simp [szS, gD, gB, gF, gR])); (have hb : Nat.beq i 0 = false := (by cases h : Nat.beq i 0 with | false => rfl | true => exact absurd (Nat.eq_of_beq_eq_true h) g0)); (have hq : szR l i = false := (by unfold szR; rw [hS, hb, decide_eq_false (by omega)]; rfl)); rw [szL, ← szR_szA (day := day) (by omega), all_no h1 hq]; simp
  exact ⟨by rw [hres], h_8.st.below⟩
  refine rg_ h_6 [[0],[0,1],[0,1,2],r_ 4,r_ 5,r_ 6,r_ 7,r_ 8,r_ 9,r_ 10,r_ 11,r_ 12,r_ 13,r_ 14,r_ 15,r_ 16,r_ 17,r_ 18,r_ 19,r_ 20,r_ 21,r_ 22,r_ 23,r_ 24,r_ 25,r_ 26,r_ 27,[0,1,2,3,4,5,6,7,8,9,10,11,12,13,14,15,16,17,18,19,20,21,22,23,24,25,27],[0,1,2,3,4,5,6,7,8,9,10,11,12,13,14,15,16,17,18,19,20,21,22,23,24,25,27,28],r_ 30,r_ 31,r_ 32,[0,1,2,3,4,5,6,7,8,9,10,11,12,13,14,15,16,17,18,19,20,21,22,23,24,25,32],[0,1,2,3,4,5,6,7,8,9,10,11,12,13,14,15,16,17,18,19,20,21,22,23,24,25,32,33],r_ 35,r_ 36,r_ 37] [K_ (vP (pb E6 3) 0), K_ (vI ((sgi l i).d)), K_ bT, K_ bF, K_ bF, K_ (vP (pb E6 3) 1), K_ (vI ((sgi l i).b)), K_ bT, K_ bF, K_ bF, K_ bF, K_ (vP (pb E6 3) 2), K_ (vI ((sgi l i).f)), K_ bT, K_ bF, K_ bF, K_ bF, K_ (vP (pb E6 3) 3), K_ (vI ((sgi l i).r)), K_ bT, K_ bF, K_ bF, K_ bF, K_ (vN i), K_ bT, K_ bT, K_ (.slice A0 l.length c0), K_ (vN i), K_ (vI (((i : Nat) : Int) - 1)), K_ (elt (.slice A0 l.length c0) ((i - 1) * 4)), K_ (elt (.slice A0 l.length c0) ((i - 1) * 4)), K_ (vI ((sgi l (i - 1)).d)), K_ (vP (pb E6 3) 0), K_ (vI ((sgi l i).d)), K_ bF, K_ bF, K_ bF] (fun E7 => [(0, .slice A0 l.length c0), (7, vN i), (8, vP (pb E6 3) 0), (34, .slice A0 l.length c0), (35, vN l.length), (36, vN i), (37, bT), (38, vN i), (39, elt (.slice A0 l.length c0) (i * 4)), (40, vSg (sgi l i)), (41, vP (pb E6 3) 0), (42, vI ((sgi l i).d)), (43, bT), (44, bF), (45, bF), (46, vP (pb E6 3) 1), (47, vI ((sgi l i).b)), (48, bT), (49, bF), (50, bF), (51, bF), (52, vP (pb E6 3) 2), (53, vI ((sgi l i).f)), (54, bT), (55, bF), (56, bF), (57, bF), (58, vP (pb E6 3) 3), (59, vI ((sgi l i).r)), (60, bT), (61, bF), (62, bF), (63, bF), (64, vN i), (65, bT), (66, bT), (67, .slice A0 l.length c0), (68, vN i), (69, vI (((i : Nat) : Int) - 1)), (70, elt (.slice A0 l.length c0) ((i - 1) * 4)), (71, elt (.slice A0 l.length c0) ((i - 1) * 4)), (72, vI ((sgi l (i - 1)).d)), (73, vP (pb E6 3) 0), (74, vI ((sgi l i).d)), (75, bF), (76, bF), (77, bF)]) (hs := c_ (fa0 (vP (pb E6 3) 0)) <| c_ (ld_ 0 (hrd := by exact rd3 rfl)) <| c_ (cl_ Try.func37 (h := fun env => ⟨_, ((rwithin_any (sgi l i).d (-1048576) 1048576).eq (congrArg Value.bool gD)), rfl⟩)) <| c_ (un0 bT) <| c_ mv_ <| c_ (fa0 (vP (pb E6 3) 0)) <| c_ (ld_ 0 (hrd := by exact rd3 rfl)) <| c_ (cl_ Try.func37 (h := fun env => ⟨_, ((rwithin_any (sgi l i).b (-1000000000) 1000000000).eq (congrArg Value.bool gB)), rfl⟩)) <| c_ (un0 bT) <| c_ (pk0 bF bT bF) <| c_ mv_ <| c_ (fa0 (vP (pb E6 3) 0)) <| c_ (ld_ 0 (hrd := by exact rd3 rfl)) <| c_ (cl_ Try.func37 (h := fun env => ⟨_, ((rwithin_any (sgi l i).f (-1048576) 1048576).eq (congrArg Value.bool gF)), rfl⟩)) <| c_ (un0 bT) <| c_ (pk0 bF bT bF) <| c_ mv_ <| c_ (fa0 (vP (pb E6 3) 0)) <| c_ (ld_ 0 (hrd := by exact rd3 rfl)) <| c_ (cl_ Try.func37 (h := fun env => ⟨_, ((rwithin_any (sgi l i).r 0 1000000).eq (congrArg Value.bool gR)), rfl⟩)) <| c_ (un0 bT) <| c_ (pk0 bF bT bF) <| c_ mv_ <| c_ (gm0 (vN i)) <| c_ (bi0 (vN i) (vI 0)) <| c_ (gm0 bT) <| c_ (gm0 (.slice A0 l.length c0)) <| c_ (gm0 (vN i)) <| c_ (bi0 (vN i) (vI 1)) <| c_ (ia_ Try.underlying22 sz25 (i - 1) ((i - 1) * 4) (((i : Nat) : Int) - 1) (fun _ env _ wd hA => (hl.grown hA.j.st.gr).els) (by omega) (by omega) rfl) <| c_ (s_fa rfl rfl rfl (fun hA => hA.gy rfl rfl rfl) ((i - 1) * 4) 0 ((i - 1) * 4) rfl (s := fun _ => .slice A0 l.length c0) rfl (fun _ => rfl) (fun {D env ac wd} hA => (hl.grown hA.j.st.gr).els) (by omega) (fun b q w => by simp [go_sem, Try.underlying25])) <| c_ (le_ ((i - 1) * 4) (fun _ env _ wd hA => (hl.grown hA.j.st.gr).els) (by omega) (le3 (by exact sgC_0 l (i - 1)))) <| c_ (fa0 (vP (pb E6 3) 0)) <| c_ (ld_ 0 (hrd := by exact rd3 rfl)) <| c_ (bi0 (vI ((sgi l (i - 1)).d)) (vI ((sgi l i).d)) (h := by intro env w; simp [go_sem, gP])) <| c_ (pk0 bT bF bF (h := by intro env w; simp [go_sem, gP])) <| c_ (pk0 bF bT bF (h := by intro env w; simp [go_sem, gP])) <| e_) (k := fun E7 ac wd h_7 => ?_)
  clear h_6
  refine then_n ?_
  refine cF_ h_7 ?_
  refine wp_skip (blk_n (then_n ?_))
  refine rg_ h_7 [[0],[0,1]] [K_ (vI (((i : Nat) : Int) + 1)), K_ (vI (((i : Nat) : Int) + 1))] (fun E8 => [(0, .slice A0 l.length c0), (7, vN i), (8, vP (pb E6 3) 0), (34, .slice A0 l.length c0), (35, vN l.length), (36, vI (((i : Nat) : Int) + 1)), (37, bT), (38, vN i), (39, elt (.slice A0 l.length c0) (i * 4)), (40, vSg (sgi l i)), (41, vP (pb E6 3) 0), (42, vI ((sgi l i).d)), (43, bT), (44, bF), (45, bF), (46, vP (pb E6 3) 1), (47, vI ((sgi l i).b)), (48, bT), (49, bF), (50, bF), (51, bF), (52, vP (pb E6 3) 2), (53, vI ((sgi l i).f)), (54, bT), (55, bF), (56, bF), (57, bF), (58, vP (pb E6 3) 3), (59, vI ((sgi l i).r)), (60, bT), (61, bF), (62, bF), (63, bF), (64, vN i), (65, bT), (66, bT), (67, .slice A0 l.length c0), (68, vN i), (69, vI (((i : Nat) : Int) - 1)), (70, elt (.slice A0 l.length c0) ((i - 1) * 4)), (71, elt (.slice A0 l.length c0) ((i - 1) * 4)), (72, vI ((sgi l (i - 1)).d)), (73, vP (pb E6 3) 0), (74, vI ((sgi l i).d)), (75, bF), (76, bF), (77, bF), (78, vI (((i : Nat) : Int) + 1))]) (hs := c_ (bi0 (vN i) (vI 1)) <| c_ mv_ <| e_) (k := fun E8 ac wd h_8 => ?_)
  clear h_7
  refine then_n ?_
  have hS : szS (sgi l i) = true := by simp [szS, gD, gB, gF, gR]
  have hb : (Nat.beq i 0 || decide ((sgi l (i - 1)).d < (sgi l i).d)) = true := by rw [decide_eq_true (by omega)]; simp
  have hq : szR l i = true := by unfold szR; rw [hS, hb]; rfl
  exact ⟨⟨i + 1, ⟨by omega, steps_snoc (p := fun j => szR l j = true) hi2 hq⟩, (h_8.take (M1 := []) rfl).re rfl⟩, by rw [sI_eq (h_8.g (t := 36) rfl), hmu]; omega⟩
  obtain rfl : i = l.length := by omega
  refine rg_ h_4 [[0]] [K_ bF] (fun E5 => [(0, .slice A0 l.length c0), (34, .slice A0 l.length c0), (35, vN l.length), (36, vN l.length), (37, bF)]) (hs := c_ (bi0 (vN l.length) (vN l.length)) <| e_) (k := fun E5 ac wd h_5 => ?_)
  clear h_4
  refine then_n (wp_seq ?_)
  refine cF_ h_5 ?_
  refine wp_exit (then_e (then_e (blk_x (then_n (wp_seq ?_)))))
  refine rg_ h_5 [[0]] [K_ bT] (fun E6 => [(6, bT)]) (hs := c_ mv_ <| e_) (k := fun E6 ac wd h_6 => ?_)
  clear h_5
  refine then_n (wp_ret ?_)
  refine lvT Try.results16 h_6 ?_
  have hres : szL l day off = true := by rw [szL, ← szR_szA (day := day) (by omega), all_yes hi2, decide_eq_true (by omega)]; simp [szH, hA, hB, hC]
  exact ⟨by rw [hres], h_6.st.below⟩
set_option maxRecDepth 100000 in
set_option maxHeartbeats 8000000 in
theorem rFirst_any (w0 : World) (b g c : Nat) (l : List Sg) (day off : Int) (hR : RubA w0 b g c l day off) (n0 : 0 < l.length) : Calls Try.prog 15 #[vP b 0] w0 fun e w' => e = .returned (vI ((sgi l 0).d)) ∧ Below w0.heap.size w0 w' := by
  have hst := St.start w0 (Θ := fun _ => True) (fun _ _ => trivial)
  refine en_ Try.func15 hst 12 [(0, vP b 0)] (fun ac h => ?_)
  refine wp_seq ?_
  refine rg_ h [[0]] [K_ (vI 0)] (fun E1 => [(0, vP b 0), (2, vI 0)]) (hs := c_ mv_ <| e_) (k := fun E1 ac wd h_1 => ?_)
  clear h
  refine then_n (wp_seq (wp_seq ?_))
  refine rg_ h_1 [[0],[0,1]] [K_ (vP b 0), K_ bF] (fun E2 => [(0, vP b 0), (2, vI 0), (4, bF)]) (hs := c_ mv_ <| c_ (bi0 (vP b 0) (.pointer none)) <| e_) (k := fun E2 ac wd h_2 => ?_)
  clear h_1
  refine then_n ?_
  refine cF_ h_2 ?_
  refine wp_skip (then_n (wp_seq ?_))
  refine rg_ h_2 (tri 8) [K_ (vP b 0), K_ (vP b 0), K_ (vP b 0), K_ (.slice ((some ⟨g, 0, none⟩)) l.length c), K_ (elt (.slice ((some ⟨g, 0, none⟩)) l.length c) (0 * 14)), K_ (elt (.slice ((some ⟨g, 0, none⟩)) l.length c) (0 * 14)), K_ (vI ((sgi l 0).d)), K_ (vI ((sgi l 0).d))] (fun E3 => [(2, vI ((sgi l 0).d))]) (hs := c_ mv_ <| c_ (nc0 (vP b 0)) <| c_ (fa0 (vP b 0)) <| c_ (by refine s_v rfl rfl rfl rfl (fun {D env ac wd} hA => ?_); have e7 : ac.tmps[7]? = some (vP b 0) := hA.g rfl; have hc := (hR.grown hA.j.st.gr).cell; simp [go_sem, e7, hc]) <| c_ (ia_ Try.underlying55 sz59 0 (0 * 14) 0 (fun _ env _ wd hA => (hR.grown hA.j.st.gr).els) (rfl) (by omega) rfl) <| c_ (s_fa rfl rfl rfl (fun _ => wanted_none rfl _) (0 * 14) 0 (0 * 14) rfl (s := fun _ => .slice ((some ⟨g, 0, none⟩)) l.length c) rfl (fun _ => rfl) (fun {D env ac wd} hA => (hR.grown hA.j.st.gr).els) (by omega) (fun b q w => by simp [go_sem, Try.underlying59])) <| c_ (le_ (0 * 14) (fun _ env _ wd hA => (hR.grown hA.j.st.gr).els) (by omega) (le3 (by exact pcC_at l day off 0 0 (by omega)))) <| c_ mv_ <| e_) (k := fun E3 ac wd h_3 => ?_)
  clear h_2
  refine then_n (wp_ret ?_)
  refine lvT Try.results15 h_3 ?_
  exact ⟨rfl, h_3.st.below⟩
set_option maxRecDepth 100000 in
set_option maxHeartbeats 8000000 in
theorem tai_any (w0 : World) (b g c : Nat) (l : List Sg) (day off : Int) (hR : RubA w0 b g c l day off) (hL : LOk l day off) (d s a : Int) (hd0 : -9223372036854775808 ≤ d) (hd1 : d < 9223372036854775808) : Calls Try.prog 10 #[vP b 0, vL d s a] w0 fun e w' => e = .returned (vT2 (vW (taiV l day off d s a)) (vI (taiE l day off d s a))) ∧ Below w0.heap.size w0 w' := by
  have n0 := hL.n0; have n1 := hL.n1; have y0 := hL.y0; have y1 := hL.y1; have o0 := hL.o0; have o1 := hL.o1
  have hst := St.start w0 (Θ := fun _ => True) (fun _ _ => trivial)
  refine en_ Try.func10 hst 65 [(0, vP b 0), (1, vL d s a)] (fun ac h => ?_)
  refine wp_seq ?_
  refine rg_ h [[0],[1],[2]] [KE_ fun env => vP (pb env 0) 0, KE_ fun env => vP (pb env 1) 0, K_ (vI 0)] (fun E1 => [(0, vP b 0), (3, vP (pb E1 0) 0), (4, vP (pb E1 1) 0), (5, vI 0)]) (W := [{ i := 0, T := 36, c0 := [vI d, vI s, vI a] }, { i := 1, T := 39, c0 := [vI 0, .int .u64 0] }]) (M' := fun E1 => [((pb E1 0), 36, [vI d, vI s, vI a]), ((pb E1 1), 39, [vI 0, .int .u64 0])]) (hs := c_ (bx0 0 (vL d s a)) <| c_ (al_ 1) <| c_ mv_ <| e_) (k := fun E1 ac wd h_1 => ?_)
  clear h
  refine then_n (wp_scope_straight (wp_seq (wp_block (wp_seq ?_))))
  refine rg_ h_1 (tri 3) [K_ (vP b 0), K_ bF, K_ bF] (fun E2 => [(0, vP b 0), (3, vP (pb E1 0) 0), (4, vP (pb E1 1) 0), (5, vI 0), (9, bF)]) (hs := c_ mv_ <| c_ (bi0 (vP b 0) (.pointer none)) <| c_ mv_ <| e_) (k := fun E2 ac wd h_2 => ?_)
  clear h_1
  refine then_n ?_
  refine cF_ h_2 ?_
  refine wp_seq ?_
  cases hfb : formB s a
  refine rg_ h_2 (tri 4) [K_ (vL d s a), K_ bF, K_ bT, K_ bT] (fun E3 => [(0, vP b 0), (3, vP (pb E1 0) 0), (4, vP (pb E1 1) 0), (5, vI 0), (13, bT)]) (hs := c_ (ld_ 0 (hrd := by exact rd36 rfl rfl rfl)) <| c_ (cl_ Try.func30 (h := fun env => ⟨_, ((rform_any d s a).eq (congrArg Value.bool hfb)), rfl⟩)) <| c_ (un0 bF) <| c_ mv_ <| e_) (k := fun E3 ac wd h_3 => ?_)
  clear h_2
  refine then_n ?_
  refine cT_ h_3 ?_
  refine wp_seq ?_
  refine rg_ h_3 (tri 3) [K_ (.agg #[vI 0, .int .u64 0]), none, K_ (vI 1)] (fun E4 => [(0, vP b 0), (3, vP (pb E1 0) 0), (4, vP (pb E1 1) 0), (5, vI 1)]) (S := [⟨1, 1, fun _ => [vI 0, .int .u64 0]⟩]) (M' := fun E4 => [((pb E1 0), 36, [vI d, vI s, vI a]), ((pb E1 1), 39, [vI 0, .int .u64 0])]) (hs := c_ (bd0 ([])) <| c_ (se_ 1 (hst := by exact fun _ _ _ hc => st39 rfl rfl rfl hc)) <| c_ mv_ <| e_) (k := fun E4 ac wd h_4 => ?_)
  clear h_3
  refine then_n (wp_ret (blk_ret (then_ret (sc_r ?_))))
  refine lvCT (v := .agg #[vI 0, .int .u64 0]) Try.results10 h_4 1 (rd39 rfl rfl) ?_
  have hE2 : taiE l day off d s a = 1 := by unfold taiE; rw [if_pos hfb]
  have hV2 : taiV l day off d s a = 0 := by unfold taiV; rw [if_neg (by rw [hE2]; omega)]
  exact ⟨by first | (rw [hE2, hV2]; done) | (rw [hE2, hV2]; rfl), h_4.st.below⟩
  have hfb2 := hfb; simp only [formB, Bool.and_eq_true, wthn_iff] at hfb2; obtain ⟨⟨b0, b1⟩, b2, b3⟩ := hfb2
  refine rg_ h_2 (tri 4) [K_ (vL d s a), K_ bT, K_ bF, K_ bF] (fun E3 => [(0, vP b 0), (3, vP (pb E1 0) 0), (4, vP (pb E1 1) 0), (5, vI 0), (13, bF)]) (hs := c_ (ld_ 0 (hrd := by exact rd36 rfl rfl rfl)) <| c_ (cl_ Try.func30 (h := fun env => ⟨_, ((rform_any d s a).eq (congrArg Value.bool hfb)), rfl⟩)) <| c_ (un0 bT) <| c_ mv_ <| e_) (k := fun E3 ac wd h_3 => ?_)
  clear h_2
  refine then_n ?_
  refine cF_ h_3 ?_
  refine wp_seq ?_
  by_cases g1 : d < (sgi l 0).d
  refine rg_ h_3 [[0],[0,1],[2],[2,3],r_ 5,r_ 6] [K_ (vP (pb E1 0) 0), K_ (vI d), K_ (vP b 0), K_ (vI ((sgi l 0).d)), K_ bT, K_ bT] (fun E4 => [(0, vP b 0), (3, vP (pb E1 0) 0), (4, vP (pb E1 1) 0), (5, vI 0), (18, bT)]) (hs := c_ (fa0 (vP (pb E1 0) 0)) <| c_ (ld_ 0 (hrd := by exact rd3 rfl)) <| c_ mv_ <| c_ (cw_ Try.func15 (h := fun _ env _ wd hA => ⟨_, rFirst_any wd b g c l day off (hR.grown hA.j.st.gr) n0, rfl⟩)) <| c_ (bi0 (vI d) (vI ((sgi l 0).d)) (h := by intro env w; simp [go_sem, g1])) <| c_ mv_ <| e_) (k := fun E4 ac wd h_4 => ?_)
  clear h_3
  refine then_n ?_
  refine cT_ h_4 ?_
  refine wp_seq ?_
  refine rg_ h_4 (tri 3) [K_ (.agg #[vI 0, .int .u64 0]), none, K_ (vI 8)] (fun E5 => [(0, vP b 0), (3, vP (pb E1 0) 0), (4, vP (pb E1 1) 0), (5, vI 8)]) (S := [⟨1, 1, fun _ => [vI 0, .int .u64 0]⟩]) (M' := fun E5 => [((pb E1 0), 36, [vI d, vI s, vI a]), ((pb E1 1), 39, [vI 0, .int .u64 0])]) (hs := c_ (bd0 ([])) <| c_ (se_ 1 (hst := by exact fun _ _ _ hc => st39 rfl rfl rfl hc)) <| c_ mv_ <| e_) (k := fun E5 ac wd h_5 => ?_)
  clear h_4
  refine then_n (wp_ret (blk_ret (then_ret (sc_r ?_))))
  refine lvCT (v := .agg #[vI 0, .int .u64 0]) Try.results10 h_5 1 (rd39 rfl rfl) ?_
  have hE2 : taiE l day off d s a = 8 := by unfold taiE; rw [if_neg (by rw [hfb]; simp), if_pos g1]
  have hV2 : taiV l day off d s a = 0 := by unfold taiV; rw [if_neg (by rw [hE2]; omega)]
  exact ⟨by first | (rw [hE2, hV2]; done) | (rw [hE2, hV2]; rfl), h_5.st.below⟩
  refine rg_ h_3 [[0],[0,1],[2],[2,3],r_ 5,r_ 6] [K_ (vP (pb E1 0) 0), K_ (vI d), K_ (vP b 0), K_ (vI ((sgi l 0).d)), K_ bF, K_ bF] (fun E4 => [(0, vP b 0), (3, vP (pb E1 0) 0), (4, vP (pb E1 1) 0), (5, vI 0), (18, bF)]) (hs := c_ (fa0 (vP (pb E1 0) 0)) <| c_ (ld_ 0 (hrd := by exact rd3 rfl)) <| c_ mv_ <| c_ (cw_ Try.func15 (h := fun _ env _ wd hA => ⟨_, rFirst_any wd b g c l day off (hR.grown hA.j.st.gr) n0, rfl⟩)) <| c_ (bi0 (vI d) (vI ((sgi l 0).d)) (h := by intro env w; simp [go_sem, g1])) <| c_ mv_ <| e_) (k := fun E4 ac wd h_4 => ?_)
  clear h_3
  refine then_n ?_
  refine cF_ h_4 ?_
  refine wp_skip (blk_n (then_n (wp_seq (wp_label (then_n (wp_seq (wp_seq ?_)))))))
  refine rg_ h_4 [[0],[0,1],[0,1,2],r_ 4,r_ 5,[5]] [K_ (vP b 0), K_ (vP b 0), K_ (vP b 0), K_ (.slice ((some ⟨g, 0, none⟩)) l.length c), K_ (vN l.length), K_ (vI 0)] (fun E5 => [(3, vP (pb E1 0) 0), (4, vP (pb E1 1) 0), (5, vI 0), (28, .slice ((some ⟨g, 0, none⟩)) l.length c), (29, vN l.length), (30, vI 0)]) (hs := c_ mv_ <| c_ (nc0 (vP b 0)) <| c_ (fa0 (vP b 0)) <| c_ (by refine s_v rfl rfl rfl rfl (fun {D env ac wd} hA => ?_); have e27 : ac.tmps[27]? = some (vP b 0) := hA.g rfl; have hc := (hR.grown hA.j.st.gr).cell; simp [go_sem, e27, hc]) <| c_ (ln_ Try.underlying55 fun _ env _ wd hA => (hR.grown hA.j.st.gr).els) <| c_ mv_ <| e_) (k := fun E5 ac wd h_5 => ?_)
  clear h_4
  refine then_n (wp_block ?_)
  refine wp_loop (fun ac wd => ∃ i : Nat, (i ≤ l.length ∧ ∀ j, j < i → untS l day j ≤ d) ∧ Cur 65 w0 none none (fun _ => True) (fun _ => True) [(3, vP (pb E1 0) 0), (4, vP (pb E1 1) 0), (28, .slice ((some ⟨g, 0, none⟩)) l.length c), (29, vN l.length), (30, vN i)] [((pb E1 0), 36, [vI d, vI s, vI a]), ((pb E1 1), 39, [vI 0, .int .u64 0])] ac wd) (fun ac _ => ((l.length : Int) - sI ac 30).toNat) ⟨0, ⟨by omega, fun j hj => by omega⟩, (h_5.re rfl).th (fun _ h => h)⟩ ?_
  rintro ac wd ⟨i, ⟨hi1, hi2⟩, h_6⟩
  clear h_5
  have hmu : sI ac 30 = ((i : Nat) : Int) := sI_eq (h_6.g (t := 30) rfl)
  refine wp_seq ?_
  by_cases h1 : i < l.length
  have hs := hL.seg i h1; have hE := hL.end_bd h1; have q1 := hL.unt_day h1; have q2 := hL.unt_ge h1; have f0 := (hL.seg 0 n0).d0
  refine rg_ h_6 [[0]] [K_ bT] (fun E7 => [(3, vP (pb E1 0) 0), (4, vP (pb E1 1) 0), (28, .slice ((some ⟨g, 0, none⟩)) l.length c), (29, vN l.length), (30, vN i), (31, bT)]) (hs := c_ (bi0 (vN i) (vN l.length)) <| e_) (k := fun E7 ac wd h_7 => ?_)
  clear h_6
  refine then_n (wp_seq ?_)
  refine cT_ h_7 ?_
  refine wp_skip (then_n (wp_seq (wp_block (wp_seq ?_))))
  refine rg_ h_7 [[0],[0,1],[2],r_ 4] [K_ (elt (.slice ((some ⟨g, 0, none⟩)) l.length c) (i * 14)), K_ (vPc ((sgi l i).d) ((sgi l i).b * 100000000000) (jn (sgi l i).f 0 0) ((sgi l i).r * 100000000000) (endS l day off i) (untS l day i)), KE_ fun env => vP (pb env 2) 0, none] (fun E8 => [(3, vP (pb E1 0) 0), (4, vP (pb E1 1) 0), (7, vP (pb E8 2) 0), (28, .slice ((some ⟨g, 0, none⟩)) l.length c), (29, vN l.length), (30, vN i), (31, bT), (32, elt (.slice ((some ⟨g, 0, none⟩)) l.length c) (i * 14)), (33, vPc ((sgi l i).d) ((sgi l i).b * 100000000000) (jn (sgi l i).f 0 0) ((sgi l i).r * 100000000000) (endS l day off i) (untS l day i))]) (W := [{ i := 2, T := 59, c0 := [vI 0, vI 0, .int .u64 0, vI 0, .int .u64 0, vI 0, .int .u64 0, vI 0, .int .u64 0, vI 0, .int .u64 0, vI 0, .int .u64 0, vI 0], s := some 3, c1 := fun _ => [vI ((sgi l i).d), vI (hi ((sgi l i).b * 100000000000)), .int .u64 (lo ((sgi l i).b * 100000000000)), vI (hi (jn (sgi l i).f 0 0)), .int .u64 (lo (jn (sgi l i).f 0 0)), vI (hi (dayA)), .int .u64 (lo (dayA)), vI (hi (dayA + (sgi l i).r * 100000000000)), .int .u64 (lo (dayA + (sgi l i).r * 100000000000)), vI (hi ((sgi l i).r * 100000000000)), .int .u64 (lo ((sgi l i).r * 100000000000)), vI (hi (endS l day off i)), .int .u64 (lo (endS l day off i)), vI (untS l day i)] }]) (M' := fun E8 => [((pb E1 0), 36, [vI d, vI s, vI a]), ((pb E1 1), 39, [vI 0, .int .u64 0]), ((pb E8 2), 59, [vI ((sgi l i).d), vI (hi ((sgi l i).b * 100000000000)), .int .u64 (lo ((sgi l i).b * 100000000000)), vI (hi (jn (sgi l i).f 0 0)), .int .u64 (lo (jn (sgi l i).f 0 0)), vI (hi (dayA)), .int .u64 (lo (dayA)), vI (hi (dayA + (sgi l i).r * 100000000000)), .int .u64 (lo (dayA + (sgi l i).r * 100000000000)), vI (hi ((sgi l i).r * 100000000000)), .int .u64 (lo ((sgi l i).r * 100000000000)), vI (hi (endS l day off i)), .int .u64 (lo (endS l day off i)), vI (untS l day i)])]) (hs := c_ (ia_ Try.underlying55 sz59 i (i * 14) ((i : Nat) : Int) (fun _ env _ wd hA => (hR.grown hA.j.st.gr).els) (rfl) (by omega) rfl) <| c_ (le_ (i * 14) (fun _ env _ wd hA => (hR.grown hA.j.st.gr).els) (by omega) (le59 (by exact pcC_at l day off i 0 (by omega)) (by exact pcC_at l day off i 1 (by omega)) (by exact pcC_at l day off i 2 (by omega)) (by exact pcC_at l day off i 3 (by omega)) (by exact pcC_at l day off i 4 (by omega)) (by exact pcC_at l day off i 5 (by omega)) (by exact pcC_at l day off i 6 (by omega)) (by exact pcC_at l day off i 7 (by omega)) (by exact pcC_at l day off i 8 (by omega)) (by exact pcC_at l day off i 9 (by omega)) (by exact pcC_at l day off i 10 (by omega)) (by exact pcC_at l day off i 11 (by omega)) (by exact pcC_at l day off i 12 (by omega)) (by exact pcC_at l day off i 13 (by omega)))) <| c_ (al_ 2) <| c_ (sw_ 2 2 (hst := by exact fun _ _ _ hc => st59 rfl rfl rfl rfl rfl rfl rfl rfl rfl rfl rfl rfl rfl rfl rfl hc)) <| e_) (k := fun E8 ac wd h_8 => ?_)
  clear h_7
  refine then_n (wp_seq (wp_seq ?_))
  by_cases hc : untS l day i ≤ d
  refine rg_ h_8 [[0],[0,1],[2],[2,3],r_ 5] [K_ (vP (pb E1 0) 0), K_ (vI d), K_ (vP (pb E8 2) 13), K_ (vI (untS l day i)), K_ bT] (fun E9 => [(3, vP (pb E1 0) 0), (4, vP (pb E1 1) 0), (7, vP (pb E8 2) 0), (28, .slice ((some ⟨g, 0, none⟩)) l.length c), (29, vN l.length), (30, vN i), (31, bT), (32, elt (.slice ((some ⟨g, 0, none⟩)) l.length c) (i * 14)), (33, vPc ((sgi l i).d) ((sgi l i).b * 100000000000) (jn (sgi l i).f 0 0) ((sgi l i).r * 100000000000) (endS l day off i) (untS l day i)), (34, vP (pb E1 0) 0), (35, vI d), (36, vP (pb E8 2) 13), (37, vI (untS l day i)), (38, bT)]) (hs := c_ (fa0 (vP (pb E1 0) 0)) <| c_ (ld_ 0 (hrd := by exact rd3 rfl)) <| c_ (fa0 (vP (pb E8 2) 0)) <| c_ (ld_ 2 (hrd := by exact rd3 rfl)) <| c_ (bi0 (vI d) (vI (untS l day i)) (h := by intro env w; simp [go_sem, hc])) <| e_) (k := fun E9 ac wd h_9 => ?_)
  clear h_8
  refine then_n ?_
  refine cT_ h_9 ?_
  refine wp_exit (then_e (blk_x (then_n ?_)))
  refine rg_ h_9 [[0],[0,1]] [K_ (vI (((i : Nat) : Int) + 1)), K_ (vI (((i : Nat) : Int) + 1))] (fun E10 => [(3, vP (pb E1 0) 0), (4, vP (pb E1 1) 0), (7, vP (pb E8 2) 0), (28, .slice ((some ⟨g, 0, none⟩)) l.length c), (29, vN l.length), (30, vI (((i : Nat) : Int) + 1)), (31, bT), (32, elt (.slice ((some ⟨g, 0, none⟩)) l.length c) (i * 14)), (33, vPc ((sgi l i).d) ((sgi l i).b * 100000000000) (jn (sgi l i).f 0 0) ((sgi l i).r * 100000000000) (endS l day off i) (untS l day i)), (34, vP (pb E1 0) 0), (35, vI d), (36, vP (pb E8 2) 13), (37, vI (untS l day i)), (38, bT), (63, vI (((i : Nat) : Int) + 1))]) (hs := c_ (bi0 (vN i) (vI 1)) <| c_ mv_ <| e_) (k := fun E10 ac wd h_10 => ?_)
  clear h_9
  refine then_n ?_
  exact ⟨⟨i + 1, ⟨by omega, steps_snoc (p := fun j => untS l day j ≤ d) hi2 hc⟩, (h_10.take (M1 := [_, _]) rfl).re rfl⟩, by rw [sI_eq (h_10.g (t := 30) rfl), hmu]; omega⟩
  have hk := fst_kS hL (x := d) (by omega) h1 hi2 (by omega); have hcn : Cn (jn d s a) := cn_jn (by omega) (by omega) (by omega) (by omega) (by omega) (by omega); have hnr := hcn.near; have hfd := fS_bd hs hcn; unfold Cn at hcn
  refine rg_ h_8 [[0],[0,1],[2],[2,3],r_ 5] [K_ (vP (pb E1 0) 0), K_ (vI d), K_ (vP (pb E8 2) 13), K_ (vI (untS l day i)), K_ bF] (fun E9 => [(3, vP (pb E1 0) 0), (4, vP (pb E1 1) 0), (7, vP (pb E8 2) 0), (28, .slice ((some ⟨g, 0, none⟩)) l.length c), (29, vN l.length), (30, vN i), (31, bT), (32, elt (.slice ((some ⟨g, 0, none⟩)) l.length c) (i * 14)), (33, vPc ((sgi l i).d) ((sgi l i).b * 100000000000) (jn (sgi l i).f 0 0) ((sgi l i).r * 100000000000) (endS l day off i) (untS l day i)), (34, vP (pb E1 0) 0), (35, vI d), (36, vP (pb E8 2) 13), (37, vI (untS l day i)), (38, bF)]) (hs := c_ (fa0 (vP (pb E1 0) 0)) <| c_ (ld_ 0 (hrd := by exact rd3 rfl)) <| c_ (fa0 (vP (pb E8 2) 0)) <| c_ (ld_ 2 (hrd := by exact rd3 rfl)) <| c_ (bi0 (vI d) (vI (untS l day i)) (h := by intro env w; simp [go_sem, hc])) <| e_) (k := fun E9 ac wd h_9 => ?_)
  clear h_8
  refine then_n ?_
  refine cF_ h_9 ?_
  refine wp_skip (then_n (wp_seq ?_))
  refine rg_ h_9 [[0],[1],[1,2],r_ 4,[4],r_ 6] [K_ (vPc ((sgi l i).d) ((sgi l i).b * 100000000000) (jn (sgi l i).f 0 0) ((sgi l i).r * 100000000000) (endS l day off i) (untS l day i)), K_ (vL d s a), K_ (vW (jn d s a)), K_ (vW (fS (sgi l i) (jn d s a))), KE_ fun env => vP (pb env 4) 0, none] (fun E10 => [(3, vP (pb E1 0) 0), (4, vP (pb E1 1) 0), (7, vP (pb E8 2) 0), (8, vP (pb E10 4) 0), (28, .slice ((some ⟨g, 0, none⟩)) l.length c), (29, vN l.length), (30, vN i), (31, bT), (32, elt (.slice ((some ⟨g, 0, none⟩)) l.length c) (i * 14)), (33, vPc ((sgi l i).d) ((sgi l i).b * 100000000000) (jn (sgi l i).f 0 0) ((sgi l i).r * 100000000000) (endS l day off i) (untS l day i)), (34, vP (pb E1 0) 0), (35, vI d), (36, vP (pb E8 2) 13), (37, vI (untS l day i)), (38, bF), (39, vPc ((sgi l i).d) ((sgi l i).b * 100000000000) (jn (sgi l i).f 0 0) ((sgi l i).r * 100000000000) (endS l day off i) (untS l day i)), (40, vL d s a), (41, vW (jn d s a)), (42, vW (fS (sgi l i) (jn d s a)))]) (W := [{ i := 4, T := 39, c0 := [vI 0, .int .u64 0], s := some 5, c1 := fun _ => [vI (hi (fS (sgi l i) (jn d s a))), .int .u64 (lo (fS (sgi l i) (jn d s a)))] }]) (M' := fun E10 => [((pb E1 0), 36, [vI d, vI s, vI a]), ((pb E1 1), 39, [vI 0, .int .u64 0]), ((pb E8 2), 59, [vI ((sgi l i).d), vI (hi ((sgi l i).b * 100000000000)), .int .u64 (lo ((sgi l i).b * 100000000000)), vI (hi (jn (sgi l i).f 0 0)), .int .u64 (lo (jn (sgi l i).f 0 0)), vI (hi (dayA)), .int .u64 (lo (dayA)), vI (hi (dayA + (sgi l i).r * 100000000000)), .int .u64 (lo (dayA + (sgi l i).r * 100000000000)), vI (hi ((sgi l i).r * 100000000000)), .int .u64 (lo ((sgi l i).r * 100000000000)), vI (hi (endS l day off i)), .int .u64 (lo (endS l day off i)), vI (untS l day i)]), ((pb E10 4), 39, [vI (hi (fS (sgi l i) (jn d s a))), .int .u64 (lo (fS (sgi l i) (jn d s a)))])]) (hs := c_ (ld_ 2 (hrd := by exact rd59 rfl rfl rfl rfl rfl rfl rfl rfl rfl rfl rfl rfl rfl rfl)) <| c_ (ld_ 0 (hrd := by exact rd36 rfl rfl rfl)) <| c_ (cl_ Try.func20 (h := fun env => ⟨_, (rcount_any d s a (by omega) (by omega) (by omega) (by omega) (by omega) (by omega)), rfl⟩)) <| c_ (cl_ Try.func18 (h := fun env => ⟨_, (pat_any (sgi l i).d ((sgi l i).b * 100000000000) (jn (sgi l i).f 0 0) ((sgi l i).r * 100000000000) (endS l day off i) (untS l day i) (jn d s a) hs.pc hnr), rfl⟩)) <| c_ (al_ 3) <| c_ (sw_ 3 4 (hst := by exact fun _ _ _ hc => st39 rfl rfl rfl hc)) <| e_) (k := fun E10 ac wd h_10 => ?_)
  clear h_9
  refine then_n (wp_seq (wp_seq ?_))
  by_cases e1 : s = 86400
  by_cases e2 : d = untS l day i - 1
  by_cases e3 : endS l day off i ≤ fS (sgi l i) (jn d s a)
  refine rg_ h_10 [[0],[0,1],[0,1,2],r_ 4,r_ 5,r_ 6,[0,1,2,3,6],[0,1,2,3,6,7],[0,1,2,3,6,7,8],r_ 10,r_ 11,r_ 12,r_ 13,[0,1,2,3,4,5,6,7,8,9,10,11,13],[0,1,2,3,4,5,6,7,8,9,10,11,13,14],r_ 16,r_ 17,r_ 18] [K_ (vP (pb E1 0) 1), K_ (vI s), K_ bT, K_ bT, K_ (vP (pb E1 0) 0), K_ (vI d), K_ (vP (pb E8 2) 13), K_ (vI (untS l day i)), K_ (vI ((untS l day i) - 1)), K_ bF, K_ bF, K_ bF, K_ (vW (fS (sgi l i) (jn d s a))), K_ (vP (pb E8 2) 11), K_ (vW (endS l day off i)), K_ (vI (cmpZ (fS (sgi l i) (jn d s a)) (endS l day off i))), K_ bT, K_ bT] (fun E11 => [(3, vP (pb E1 0) 0), (4, vP (pb E1 1) 0), (7, vP (pb E8 2) 0), (8, vP (pb E10 4) 0), (28, .slice ((some ⟨g, 0, none⟩)) l.length c), (29, vN l.length), (30, vN i), (31, bT), (32, elt (.slice ((some ⟨g, 0, none⟩)) l.length c) (i * 14)), (33, vPc ((sgi l i).d) ((sgi l i).b * 100000000000) (jn (sgi l i).f 0 0) ((sgi l i).r * 100000000000) (endS l day off i) (untS l day i)), (34, vP (pb E1 0) 0), (35, vI d), (36, vP (pb E8 2) 13), (37, vI (untS l day i)), (38, bF), (39, vPc ((sgi l i).d) ((sgi l i).b * 100000000000) (jn (sgi l i).f 0 0) ((sgi l i).r * 100000000000) (endS l day off i) (untS l day i)), (40, vL d s a), (41, vW (jn d s a)), (42, vW (fS (sgi l i) (jn d s a))), (43, vP (pb E1 0) 1), (44, vI s), (45, bT), (46, bT), (47, vP (pb E1 0) 0), (48, vI d), (49, vP (pb E8 2) 13), (50, vI (untS l day i)), (51, vI ((untS l day i) - 1)), (52, bF), (53, bF), (54, bF), (55, vW (fS (sgi l i) (jn d s a))), (56, vP (pb E8 2) 11), (57, vW (endS l day off i)), (58, vI (cmpZ (fS (sgi l i) (jn d s a)) (endS l day off i))), (59, bT), (60, bT)]) (hs := c_ (fa0 (vP (pb E1 0) 0)) <| c_ (ld_ 0 (hrd := by exact rd3 rfl)) <| c_ (bi0 (vI s) (vI 86400) (h := by intro env w; simp [go_sem, e1])) <| c_ mv_ <| c_ (fa0 (vP (pb E1 0) 0)) <| c_ (ld_ 0 (hrd := by exact rd3 rfl)) <| c_ (fa0 (vP (pb E8 2) 0)) <| c_ (ld_ 2 (hrd := by exact rd3 rfl)) <| c_ (bi0 (vI (untS l day i)) (vI 1)) <| c_ (bi0 (vI d) (vI ((untS l day i) - 1)) (h := by intro env w; simp [go_sem, e2])) <| c_ (pk0 bT bF bF (h := by intro env w; simp [go_sem, e2])) <| c_ mv_ <| c_ (ld_ 3 (hrd := by exact rd39 rfl rfl)) <| c_ (fa0 (vP (pb E8 2) 0)) <| c_ (ld_ 2 (hrd := by exact rd39 rfl rfl)) <| c_ (cl_ Try.func31 (h := fun env => ⟨_, (wcmpZ (fS (sgi l i) (jn d s a)) (endS l day off i) (by unfold InW at *; omega) (by unfold InW; omega)), rfl⟩)) <| c_ (bi0 (vI (cmpZ (fS (sgi l i) (jn d s a)) (endS l day off i))) (vI 0) (h := by intro env w; (first | (simp [go_sem, cmpZ_le, cmpZ_lt, cmpZ_ge, cmpZ_gt, e3]; done) | (simp [go_sem, cmpZ_le, cmpZ_lt, cmpZ_ge, cmpZ_gt]; omega)))) <| c_ (pk0 bF bT bT (h := by intro env w; (first | (simp [go_sem, cmpZ_le, cmpZ_lt, cmpZ_ge, cmpZ_gt, e3]; done) | (simp [go_sem, cmpZ_le, cmpZ_lt, cmpZ_ge, cmpZ_gt]; omega)))) <| e_) (k := fun E11 ac wd h_11 => ?_)
  clear h_10
  refine then_n ?_
  refine cT_ h_11 ?_
  refine wp_seq ?_
  refine rg_ h_11 (tri 3) [K_ (.agg #[vI 0, .int .u64 0]), none, K_ (vI 6)] (fun E12 => [(3, vP (pb E1 0) 0), (4, vP (pb E1 1) 0), (5, vI 6), (7, vP (pb E8 2) 0), (8, vP (pb E10 4) 0), (28, .slice ((some ⟨g, 0, none⟩)) l.length c), (29, vN l.length), (30, vN i), (31, bT), (32, elt (.slice ((some ⟨g, 0, none⟩)) l.length c) (i * 14)), (33, vPc ((sgi l i).d) ((sgi l i).b * 100000000000) (jn (sgi l i).f 0 0) ((sgi l i).r * 100000000000) (endS l day off i) (untS l day i)), (34, vP (pb E1 0) 0), (35, vI d), (36, vP (pb E8 2) 13), (37, vI (untS l day i)), (38, bF), (39, vPc ((sgi l i).d) ((sgi l i).b * 100000000000) (jn (sgi l i).f 0 0) ((sgi l i).r * 100000000000) (endS l day off i) (untS l day i)), (40, vL d s a), (41, vW (jn d s a)), (42, vW (fS (sgi l i) (jn d s a))), (43, vP (pb E1 0) 1), (44, vI s), (45, bT), (46, bT), (47, vP (pb E1 0) 0), (48, vI d), (49, vP (pb E8 2) 13), (50, vI (untS l day i)), (51, vI ((untS l day i) - 1)), (52, bF), (53, bF), (54, bF), (55, vW (fS (sgi l i) (jn d s a))), (56, vP (pb E8 2) 11), (57, vW (endS l day off i)), (58, vI (cmpZ (fS (sgi l i) (jn d s a)) (endS l day off i))), (59, bT), (60, bT), (61, .agg #[vI 0, .int .u64 0])]) (S := [⟨1, 1, fun _ => [vI 0, .int .u64 0]⟩]) (M' := fun E12 => [((pb E1 0), 36, [vI d, vI s, vI a]), ((pb E1 1), 39, [vI 0, .int .u64 0]), ((pb E8 2), 59, [vI ((sgi l i).d), vI (hi ((sgi l i).b * 100000000000)), .int .u64 (lo ((sgi l i).b * 100000000000)), vI (hi (jn (sgi l i).f 0 0)), .int .u64 (lo (jn (sgi l i).f 0 0)), vI (hi (dayA)), .int .u64 (lo (dayA)), vI (hi (dayA + (sgi l i).r * 100000000000)), .int .u64 (lo (dayA + (sgi l i).r * 100000000000)), vI (hi ((sgi l i).r * 100000000000)), .int .u64 (lo ((sgi l i).r * 100000000000)), vI (hi (endS l day off i)), .int .u64 (lo (endS l day off i)), vI (untS l day i)]), ((pb E10 4), 39, [vI (hi (fS (sgi l i) (jn d s a))), .int .u64 (lo (fS (sgi l i) (jn d s a)))])]) (hs := c_ (bd0 ([])) <| c_ (se_ 1 (hst := by exact fun _ _ _ hc => st39 rfl rfl rfl hc)) <| c_ mv_ <| e_) (k := fun E12 ac wd h_12 => ?_)
  clear h_11
  refine then_n (wp_ret (then_ret (blk_ret (then_ret (then_ret (blk_ret (then_ret (sc_r ?_))))))))
  refine lvCT (v := .agg #[vI 0, .int .u64 0]) Try.results10 h_12 1 (rd39 rfl rfl) ?_
  have hE2 : taiE l day off d s a = 6 := by unfold taiE; rw [if_neg (by rw [hfb]; simp), if_neg g1, if_neg (by omega), ← hk, if_pos (by omega)]
  have hV2 : taiV l day off d s a = 0 := by unfold taiV; rw [if_neg (by rw [hE2]; omega)]
  exact ⟨by first | (rw [hE2, hV2]; done) | (rw [hE2, hV2]; rfl), h_12.st.below⟩
  refine rg_ h_10 [[0],[0,1],[0,1,2],r_ 4,r_ 5,r_ 6,[0,1,2,3,6],[0,1,2,3,6,7],[0,1,2,3,6,7,8],r_ 10,r_ 11,r_ 12,r_ 13,[0,1,2,3,4,5,6,7,8,9,10,11,13],[0,1,2,3,4,5,6,7,8,9,10,11,13,14],r_ 16,r_ 17,r_ 18] [K_ (vP (pb E1 0) 1), K_ (vI s), K_ bT, K_ bT, K_ (vP (pb E1 0) 0), K_ (vI d), K_ (vP (pb E8 2) 13), K_ (vI (untS l day i)), K_ (vI ((untS l day i) - 1)), K_ bF, K_ bF, K_ bF, K_ (vW (fS (sgi l i) (jn d s a))), K_ (vP (pb E8 2) 11), K_ (vW (endS l day off i)), K_ (vI (cmpZ (fS (sgi l i) (jn d s a)) (endS l day off i))), K_ bF, K_ bF] (fun E11 => [(3, vP (pb E1 0) 0), (4, vP (pb E1 1) 0), (7, vP (pb E8 2) 0), (8, vP (pb E10 4) 0), (28, .slice ((some ⟨g, 0, none⟩)) l.length c), (29, vN l.length), (30, vN i), (31, bT), (32, elt (.slice ((some ⟨g, 0, none⟩)) l.length c) (i * 14)), (33, vPc ((sgi l i).d) ((sgi l i).b * 100000000000) (jn (sgi l i).f 0 0) ((sgi l i).r * 100000000000) (endS l day off i) (untS l day i)), (34, vP (pb E1 0) 0), (35, vI d), (36, vP (pb E8 2) 13), (37, vI (untS l day i)), (38, bF), (39, vPc ((sgi l i).d) ((sgi l i).b * 100000000000) (jn (sgi l i).f 0 0) ((sgi l i).r * 100000000000) (endS l day off i) (untS l day i)), (40, vL d s a), (41, vW (jn d s a)), (42, vW (fS (sgi l i) (jn d s a))), (43, vP (pb E1 0) 1), (44, vI s), (45, bT), (46, bT), (47, vP (pb E1 0) 0), (48, vI d), (49, vP (pb E8 2) 13), (50, vI (untS l day i)), (51, vI ((untS l day i) - 1)), (52, bF), (53, bF), (54, bF), (55, vW (fS (sgi l i) (jn d s a))), (56, vP (pb E8 2) 11), (57, vW (endS l day off i)), (58, vI (cmpZ (fS (sgi l i) (jn d s a)) (endS l day off i))), (59, bF), (60, bF)]) (hs := c_ (fa0 (vP (pb E1 0) 0)) <| c_ (ld_ 0 (hrd := by exact rd3 rfl)) <| c_ (bi0 (vI s) (vI 86400) (h := by intro env w; simp [go_sem, e1])) <| c_ mv_ <| c_ (fa0 (vP (pb E1 0) 0)) <| c_ (ld_ 0 (hrd := by exact rd3 rfl)) <| c_ (fa0 (vP (pb E8 2) 0)) <| c_ (ld_ 2 (hrd := by exact rd3 rfl)) <| c_ (bi0 (vI (untS l day i)) (vI 1)) <| c_ (bi0 (vI d) (vI ((untS l day i) - 1)) (h := by intro env w; simp [go_sem, e2])) <| c_ (pk0 bT bF bF (h := by intro env w; simp [go_sem, e2])) <| c_ mv_ <| c_ (ld_ 3 (hrd := by exact rd39 rfl rfl)) <| c_ (fa0 (vP (pb E8 2) 0)) <| c_ (ld_ 2 (hrd := by exact rd39 rfl rfl)) <| c_ (cl_ Try.func31 (h := fun env => ⟨_, (wcmpZ (fS (sgi l i) (jn d s a)) (endS l day off i) (by unfold InW at *; omega) (by unfold InW; omega)), rfl⟩)) <| c_ (bi0 (vI (cmpZ (fS (sgi l i) (jn d s a)) (endS l day off i))) (vI 0) (h := by intro env w; (first | (simp [go_sem, cmpZ_le, cmpZ_lt, cmpZ_ge, cmpZ_gt, e3]; done) | (simp [go_sem, cmpZ_le, cmpZ_lt, cmpZ_ge, cmpZ_gt]; omega)))) <| c_ (pk0 bF bT bF (h := by intro env w; (first | (simp [go_sem, cmpZ_le, cmpZ_lt, cmpZ_ge, cmpZ_gt, e3]; done) | (simp [go_sem, cmpZ_le, cmpZ_lt, cmpZ_ge, cmpZ_gt]; omega)))) <| e_) (k := fun E11 ac wd h_11 => ?_)
  clear h_10
  refine then_n ?_
  refine cF_ h_11 ?_
  refine wp_skip (then_n (wp_seq ?_))
  refine rg_ h_11 (tri 3) [K_ (vW (fS (sgi l i) (jn d s a))), none, K_ (vI 0)] (fun E12 => [(3, vP (pb E1 0) 0), (4, vP (pb E1 1) 0), (5, vI 0), (7, vP (pb E8 2) 0), (8, vP (pb E10 4) 0), (28, .slice ((some ⟨g, 0, none⟩)) l.length c), (29, vN l.length), (30, vN i), (31, bT), (32, elt (.slice ((some ⟨g, 0, none⟩)) l.length c) (i * 14)), (33, vPc ((sgi l i).d) ((sgi l i).b * 100000000000) (jn (sgi l i).f 0 0) ((sgi l i).r * 100000000000) (endS l day off i) (untS l day i)), (34, vP (pb E1 0) 0), (35, vI d), (36, vP (pb E8 2) 13), (37, vI (untS l day i)), (38, bF), (39, vPc ((sgi l i).d) ((sgi l i).b * 100000000000) (jn (sgi l i).f 0 0) ((sgi l i).r * 100000000000) (endS l day off i) (untS l day i)), (40, vL d s a), (41, vW (jn d s a)), (42, vW (fS (sgi l i) (jn d s a))), (43, vP (pb E1 0) 1), (44, vI s), (45, bT), (46, bT), (47, vP (pb E1 0) 0), (48, vI d), (49, vP (pb E8 2) 13), (50, vI (untS l day i)), (51, vI ((untS l day i) - 1)), (52, bF), (53, bF), (54, bF), (55, vW (fS (sgi l i) (jn d s a))), (56, vP (pb E8 2) 11), (57, vW (endS l day off i)), (58, vI (cmpZ (fS (sgi l i) (jn d s a)) (endS l day off i))), (59, bF), (60, bF), (62, vW (fS (sgi l i) (jn d s a)))]) (S := [⟨1, 1, fun _ => [vI (hi (fS (sgi l i) (jn d s a))), .int .u64 (lo (fS (sgi l i) (jn d s a)))]⟩]) (M' := fun E12 => [((pb E1 0), 36, [vI d, vI s, vI a]), ((pb E1 1), 39, [vI (hi (fS (sgi l i) (jn d s a))), .int .u64 (lo (fS (sgi l i) (jn d s a)))]), ((pb E8 2), 59, [vI ((sgi l i).d), vI (hi ((sgi l i).b * 100000000000)), .int .u64 (lo ((sgi l i).b * 100000000000)), vI (hi (jn (sgi l i).f 0 0)), .int .u64 (lo (jn (sgi l i).f 0 0)), vI (hi (dayA)), .int .u64 (lo (dayA)), vI (hi (dayA + (sgi l i).r * 100000000000)), .int .u64 (lo (dayA + (sgi l i).r * 100000000000)), vI (hi ((sgi l i).r * 100000000000)), .int .u64 (lo ((sgi l i).r * 100000000000)), vI (hi (endS l day off i)), .int .u64 (lo (endS l day off i)), vI (untS l day i)]), ((pb E10 4), 39, [vI (hi (fS (sgi l i) (jn d s a))), .int .u64 (lo (fS (sgi l i) (jn d s a)))])]) (hs := c_ (ld_ 3 (hrd := by exact rd39 rfl rfl)) <| c_ (se_ 1 (hst := by exact fun _ _ _ hc => st39 rfl rfl rfl hc)) <| c_ mv_ <| e_) (k := fun E12 ac wd h_12 => ?_)
  clear h_11
  refine then_n (wp_ret (blk_ret (then_ret (then_ret (blk_ret (then_ret (sc_r ?_)))))))
  refine lvCT (v := vW (fS (sgi l i) (jn d s a))) Try.results10 h_12 1 (rd39 rfl rfl) ?_
  have hE2 : taiE l day off d s a = 0 := by unfold taiE; rw [if_neg (by rw [hfb]; simp), if_neg g1, if_neg (by omega), ← hk, if_neg (by omega)]
  have hV2 : taiV l day off d s a = fS (sgi l i) (jn d s a) := by unfold taiV; rw [if_pos hE2, ← hk]
  exact ⟨by first | (rw [hE2, hV2]; done) | (rw [hE2, hV2]; rfl), h_12.st.below⟩
  refine rg_ h_10 [[0],[0,1],[0,1,2],r_ 4,r_ 5,r_ 6,[0,1,2,3,6],[0,1,2,3,6,7],[0,1,2,3,6,7,8],r_ 10,r_ 11,r_ 12,r_ 13,[0,1,2,3,4,5,6,7,8,9,10,11,13],[0,1,2,3,4,5,6,7,8,9,10,11,13,14],r_ 16,r_ 17,r_ 18] [K_ (vP (pb E1 0) 1), K_ (vI s), K_ bT, K_ bT, K_ (vP (pb E1 0) 0), K_ (vI d), K_ (vP (pb E8 2) 13), K_ (vI (untS l day i)), K_ (vI ((untS l day i) - 1)), K_ bT, K_ bT, K_ bT, K_ undef, K_ undef, K_ undef, K_ undef, K_ undef, K_ bT] (fun E11 => [(3, vP (pb E1 0) 0), (4, vP (pb E1 1) 0), (7, vP (pb E8 2) 0), (8, vP (pb E10 4) 0), (28, .slice ((some ⟨g, 0, none⟩)) l.length c), (29, vN l.length), (30, vN i), (31, bT), (32, elt (.slice ((some ⟨g, 0, none⟩)) l.length c) (i * 14)), (33, vPc ((sgi l i).d) ((sgi l i).b * 100000000000) (jn (sgi l i).f 0 0) ((sgi l i).r * 100000000000) (endS l day off i) (untS l day i)), (34, vP (pb E1 0) 0), (35, vI d), (36, vP (pb E8 2) 13), (37, vI (untS l day i)), (38, bF), (39, vPc ((sgi l i).d) ((sgi l i).b * 100000000000) (jn (sgi l i).f 0 0) ((sgi l i).r * 100000000000) (endS l day off i) (untS l day i)), (40, vL d s a), (41, vW (jn d s a)), (42, vW (fS (sgi l i) (jn d s a))), (43, vP (pb E1 0) 1), (44, vI s), (45, bT), (46, bT), (47, vP (pb E1 0) 0), (48, vI d), (49, vP (pb E8 2) 13), (50, vI (untS l day i)), (51, vI ((untS l day i) - 1)), (52, bT), (53, bT), (54, bT), (55, undef), (56, undef), (57, undef), (58, undef), (59, undef), (60, bT)]) (hs := c_ (fa0 (vP (pb E1 0) 0)) <| c_ (ld_ 0 (hrd := by exact rd3 rfl)) <| c_ (bi0 (vI s) (vI 86400) (h := by intro env w; simp [go_sem, e1])) <| c_ mv_ <| c_ (fa0 (vP (pb E1 0) 0)) <| c_ (ld_ 0 (hrd := by exact rd3 rfl)) <| c_ (fa0 (vP (pb E8 2) 0)) <| c_ (ld_ 2 (hrd := by exact rd3 rfl)) <| c_ (bi0 (vI (untS l day i)) (vI 1)) <| c_ (bi0 (vI d) (vI ((untS l day i) - 1)) (h := by intro env w; simp [go_sem, e2])) <| c_ (pk0 bT bT bF (h := by intro env w; simp [go_sem, e2])) <| c_ mv_ <| c_ off_ <| c_ off_ <| c_ off_ <| c_ off_ <| c_ off_ <| c_ (pk0 bT bT undef) <| e_) (k := fun E11 ac wd h_11 => ?_)
  clear h_10
  refine then_n ?_
  refine cT_ h_11 ?_
  refine wp_seq ?_
  refine rg_ h_11 (tri 3) [K_ (.agg #[vI 0, .int .u64 0]), none, K_ (vI 6)] (fun E12 => [(3, vP (pb E1 0) 0), (4, vP (pb E1 1) 0), (5, vI 6), (7, vP (pb E8 2) 0), (8, vP (pb E10 4) 0), (28, .slice ((some ⟨g, 0, none⟩)) l.length c), (29, vN l.length), (30, vN i), (31, bT), (32, elt (.slice ((some ⟨g, 0, none⟩)) l.length c) (i * 14)), (33, vPc ((sgi l i).d) ((sgi l i).b * 100000000000) (jn (sgi l i).f 0 0) ((sgi l i).r * 100000000000) (endS l day off i) (untS l day i)), (34, vP (pb E1 0) 0), (35, vI d), (36, vP (pb E8 2) 13), (37, vI (untS l day i)), (38, bF), (39, vPc ((sgi l i).d) ((sgi l i).b * 100000000000) (jn (sgi l i).f 0 0) ((sgi l i).r * 100000000000) (endS l day off i) (untS l day i)), (40, vL d s a), (41, vW (jn d s a)), (42, vW (fS (sgi l i) (jn d s a))), (43, vP (pb E1 0) 1), (44, vI s), (45, bT), (46, bT), (47, vP (pb E1 0) 0), (48, vI d), (49, vP (pb E8 2) 13), (50, vI (untS l day i)), (51, vI ((untS l day i) - 1)), (52, bT), (53, bT), (54, bT), (55, undef), (56, undef), (57, undef), (58, undef), (59, undef), (60, bT), (61, .agg #[vI 0, .int .u64 0])]) (S := [⟨1, 1, fun _ => [vI 0, .int .u64 0]⟩]) (M' := fun E12 => [((pb E1 0), 36, [vI d, vI s, vI a]), ((pb E1 1), 39, [vI 0, .int .u64 0]), ((pb E8 2), 59, [vI ((sgi l i).d), vI (hi ((sgi l i).b * 100000000000)), .int .u64 (lo ((sgi l i).b * 100000000000)), vI (hi (jn (sgi l i).f 0 0)), .int .u64 (lo (jn (sgi l i).f 0 0)), vI (hi (dayA)), .int .u64 (lo (dayA)), vI (hi (dayA + (sgi l i).r * 100000000000)), .int .u64 (lo (dayA + (sgi l i).r * 100000000000)), vI (hi ((sgi l i).r * 100000000000)), .int .u64 (lo ((sgi l i).r * 100000000000)), vI (hi (endS l day off i)), .int .u64 (lo (endS l day off i)), vI (untS l day i)]), ((pb E10 4), 39, [vI (hi (fS (sgi l i) (jn d s a))), .int .u64 (lo (fS (sgi l i) (jn d s a)))])]) (hs := c_ (bd0 ([])) <| c_ (se_ 1 (hst := by exact fun _ _ _ hc => st39 rfl rfl rfl hc)) <| c_ mv_ <| e_) (k := fun E12 ac wd h_12 => ?_)
  clear h_11
  refine then_n (wp_ret (then_ret (blk_ret (then_ret (then_ret (blk_ret (then_ret (sc_r ?_))))))))
  refine lvCT (v := .agg #[vI 0, .int .u64 0]) Try.results10 h_12 1 (rd39 rfl rfl) ?_
  have hE2 : taiE l day off d s a = 6 := by unfold taiE; rw [if_neg (by rw [hfb]; simp), if_neg g1, if_neg (by omega), ← hk, if_pos (by omega)]
  have hV2 : taiV l day off d s a = 0 := by unfold taiV; rw [if_neg (by rw [hE2]; omega)]
  exact ⟨by first | (rw [hE2, hV2]; done) | (rw [hE2, hV2]; rfl), h_12.st.below⟩
  by_cases e3 : endS l day off i ≤ fS (sgi l i) (jn d s a)
  refine rg_ h_10 [[0],[0,1],[0,1,2],r_ 4,r_ 5,r_ 6,[0,1,2,3,6],[0,1,2,3,6,7],[0,1,2,3,6,7,8],r_ 10,r_ 11,r_ 12,r_ 13,[0,1,2,3,4,5,6,7,8,9,10,11,13],[0,1,2,3,4,5,6,7,8,9,10,11,13,14],r_ 16,r_ 17,r_ 18] [K_ (vP (pb E1 0) 1), K_ (vI s), K_ bF, K_ bF, K_ undef, K_ undef, K_ undef, K_ undef, K_ undef, K_ undef, K_ bF, K_ bF, K_ (vW (fS (sgi l i) (jn d s a))), K_ (vP (pb E8 2) 11), K_ (vW (endS l day off i)), K_ (vI (cmpZ (fS (sgi l i) (jn d s a)) (endS l day off i))), K_ bT, K_ bT] (fun E11 => [(3, vP (pb E1 0) 0), (4, vP (pb E1 1) 0), (7, vP (pb E8 2) 0), (8, vP (pb E10 4) 0), (28, .slice ((some ⟨g, 0, none⟩)) l.length c), (29, vN l.length), (30, vN i), (31, bT), (32, elt (.slice ((some ⟨g, 0, none⟩)) l.length c) (i * 14)), (33, vPc ((sgi l i).d) ((sgi l i).b * 100000000000) (jn (sgi l i).f 0 0) ((sgi l i).r * 100000000000) (endS l day off i) (untS l day i)), (34, vP (pb E1 0) 0), (35, vI d), (36, vP (pb E8 2) 13), (37, vI (untS l day i)), (38, bF), (39, vPc ((sgi l i).d) ((sgi l i).b * 100000000000) (jn (sgi l i).f 0 0) ((sgi l i).r * 100000000000) (endS l day off i) (untS l day i)), (40, vL d s a), (41, vW (jn d s a)), (42, vW (fS (sgi l i) (jn d s a))), (43, vP (pb E1 0) 1), (44, vI s), (45, bF), (46, bF), (47, undef), (48, undef), (49, undef), (50, undef), (51, undef), (52, undef), (53, bF), (54, bF), (55, vW (fS (sgi l i) (jn d s a))), (56, vP (pb E8 2) 11), (57, vW (endS l day off i)), (58, vI (cmpZ (fS (sgi l i) (jn d s a)) (endS l day off i))), (59, bT), (60, bT)]) (hs := c_ (fa0 (vP (pb E1 0) 0)) <| c_ (ld_ 0 (hrd := by exact rd3 rfl)) <| c_ (bi0 (vI s) (vI 86400) (h := by intro env w; simp [go_sem, e1])) <| c_ mv_ <| c_ off_ <| c_ off_ <| c_ off_ <| c_ off_ <| c_ off_ <| c_ off_ <| c_ (pk0 bF undef bF) <| c_ mv_ <| c_ (ld_ 3 (hrd := by exact rd39 rfl rfl)) <| c_ (fa0 (vP (pb E8 2) 0)) <| c_ (ld_ 2 (hrd := by exact rd39 rfl rfl)) <| c_ (cl_ Try.func31 (h := fun env => ⟨_, (wcmpZ (fS (sgi l i) (jn d s a)) (endS l day off i) (by unfold InW at *; omega) (by unfold InW; omega)), rfl⟩)) <| c_ (bi0 (vI (cmpZ (fS (sgi l i) (jn d s a)) (endS l day off i))) (vI 0) (h := by intro env w; (first | (simp [go_sem, cmpZ_le, cmpZ_lt, cmpZ_ge, cmpZ_gt, e3]; done) | (simp [go_sem, cmpZ_le, cmpZ_lt, cmpZ_ge, cmpZ_gt]; omega)))) <| c_ (pk0 bF bT bT (h := by intro env w; (first | (simp [go_sem, cmpZ_le, cmpZ_lt, cmpZ_ge, cmpZ_gt, e3]; done) | (simp [go_sem, cmpZ_le, cmpZ_lt, cmpZ_ge, cmpZ_gt]; omega)))) <| e_) (k := fun E11 ac wd h_11 => ?_)
  clear h_10
  refine then_n ?_
  refine cT_ h_11 ?_
  refine wp_seq ?_
  refine rg_ h_11 (tri 3) [K_ (.agg #[vI 0, .int .u64 0]), none, K_ (vI 6)] (fun E12 => [(3, vP (pb E1 0) 0), (4, vP (pb E1 1) 0), (5, vI 6), (7, vP (pb E8 2) 0), (8, vP (pb E10 4) 0), (28, .slice ((some ⟨g, 0, none⟩)) l.length c), (29, vN l.length), (30, vN i), (31, bT), (32, elt (.slice ((some ⟨g, 0, none⟩)) l.length c) (i * 14)), (33, vPc ((sgi l i).d) ((sgi l i).b * 100000000000) (jn (sgi l i).f 0 0) ((sgi l i).r * 100000000000) (endS l day off i) (untS l day i)), (34, vP (pb E1 0) 0), (35, vI d), (36, vP (pb E8 2) 13), (37, vI (untS l day i)), (38, bF), (39, vPc ((sgi l i).d) ((sgi l i).b * 100000000000) (jn (sgi l i).f 0 0) ((sgi l i).r * 100000000000) (endS l day off i) (untS l day i)), (40, vL d s a), (41, vW (jn d s a)), (42, vW (fS (sgi l i) (jn d s a))), (43, vP (pb E1 0) 1), (44, vI s), (45, bF), (46, bF), (47, undef), (48, undef), (49, undef), (50, undef), (51, undef), (52, undef), (53, bF), (54, bF), (55, vW (fS (sgi l i) (jn d s a))), (56, vP (pb E8 2) 11), (57, vW (endS l day off i)), (58, vI (cmpZ (fS (sgi l i) (jn d s a)) (endS l day off i))), (59, bT), (60, bT), (61, .agg #[vI 0, .int .u64 0])]) (S := [⟨1, 1, fun _ => [vI 0, .int .u64 0]⟩]) (M' := fun E12 => [((pb E1 0), 36, [vI d, vI s, vI a]), ((pb E1 1), 39, [vI 0, .int .u64 0]), ((pb E8 2), 59, [vI ((sgi l i).d), vI (hi ((sgi l i).b * 100000000000)), .int .u64 (lo ((sgi l i).b * 100000000000)), vI (hi (jn (sgi l i).f 0 0)), .int .u64 (lo (jn (sgi l i).f 0 0)), vI (hi (dayA)), .int .u64 (lo (dayA)), vI (hi (dayA + (sgi l i).r * 100000000000)), .int .u64 (lo (dayA + (sgi l i).r * 100000000000)), vI (hi ((sgi l i).r * 100000000000)), .int .u64 (lo ((sgi l i).r * 100000000000)), vI (hi (endS l day off i)), .int .u64 (lo (endS l day off i)), vI (untS l day i)]), ((pb E10 4), 39, [vI (hi (fS (sgi l i) (jn d s a))), .int .u64 (lo (fS (sgi l i) (jn d s a)))])]) (hs := c_ (bd0 ([])) <| c_ (se_ 1 (hst := by exact fun _ _ _ hc => st39 rfl rfl rfl hc)) <| c_ mv_ <| e_) (k := fun E12 ac wd h_12 => ?_)
  clear h_11
  refine then_n (wp_ret (then_ret (blk_ret (then_ret (then_ret (blk_ret (then_ret (sc_r ?_))))))))
  refine lvCT (v := .agg #[vI 0, .int .u64 0]) Try.results10 h_12 1 (rd39 rfl rfl) ?_
  have hE2 : taiE l day off d s a = 6 := by unfold taiE; rw [if_neg (by rw [hfb]; simp), if_neg g1, if_neg (by omega), ← hk, if_pos (by omega)]
  have hV2 : taiV l day off d s a = 0 := by unfold taiV; rw [if_neg (by rw [hE2]; omega)]
  exact ⟨by first | (rw [hE2, hV2]; done) | (rw [hE2, hV2]; rfl), h_12.st.below⟩
  refine rg_ h_10 [[0],[0,1],[0,1,2],r_ 4,r_ 5,r_ 6,[0,1,2,3,6],[0,1,2,3,6,7],[0,1,2,3,6,7,8],r_ 10,r_ 11,r_ 12,r_ 13,[0,1,2,3,4,5,6,7,8,9,10,11,13],[0,1,2,3,4,5,6,7,8,9,10,11,13,14],r_ 16,r_ 17,r_ 18] [K_ (vP (pb E1 0) 1), K_ (vI s), K_ bF, K_ bF, K_ undef, K_ undef, K_ undef, K_ undef, K_ undef, K_ undef, K_ bF, K_ bF, K_ (vW (fS (sgi l i) (jn d s a))), K_ (vP (pb E8 2) 11), K_ (vW (endS l day off i)), K_ (vI (cmpZ (fS (sgi l i) (jn d s a)) (endS l day off i))), K_ bF, K_ bF] (fun E11 => [(3, vP (pb E1 0) 0), (4, vP (pb E1 1) 0), (7, vP (pb E8 2) 0), (8, vP (pb E10 4) 0), (28, .slice ((some ⟨g, 0, none⟩)) l.length c), (29, vN l.length), (30, vN i), (31, bT), (32, elt (.slice ((some ⟨g, 0, none⟩)) l.length c) (i * 14)), (33, vPc ((sgi l i).d) ((sgi l i).b * 100000000000) (jn (sgi l i).f 0 0) ((sgi l i).r * 100000000000) (endS l day off i) (untS l day i)), (34, vP (pb E1 0) 0), (35, vI d), (36, vP (pb E8 2) 13), (37, vI (untS l day i)), (38, bF), (39, vPc ((sgi l i).d) ((sgi l i).b * 100000000000) (jn (sgi l i).f 0 0) ((sgi l i).r * 100000000000) (endS l day off i) (untS l day i)), (40, vL d s a), (41, vW (jn d s a)), (42, vW (fS (sgi l i) (jn d s a))), (43, vP (pb E1 0) 1), (44, vI s), (45, bF), (46, bF), (47, undef), (48, undef), (49, undef), (50, undef), (51, undef), (52, undef), (53, bF), (54, bF), (55, vW (fS (sgi l i) (jn d s a))), (56, vP (pb E8 2) 11), (57, vW (endS l day off i)), (58, vI (cmpZ (fS (sgi l i) (jn d s a)) (endS l day off i))), (59, bF), (60, bF)]) (hs := c_ (fa0 (vP (pb E1 0) 0)) <| c_ (ld_ 0 (hrd := by exact rd3 rfl)) <| c_ (bi0 (vI s) (vI 86400) (h := by intro env w; simp [go_sem, e1])) <| c_ mv_ <| c_ off_ <| c_ off_ <| c_ off_ <| c_ off_ <| c_ off_ <| c_ off_ <| c_ (pk0 bF undef bF) <| c_ mv_ <| c_ (ld_ 3 (hrd := by exact rd39 rfl rfl)) <| c_ (fa0 (vP (pb E8 2) 0)) <| c_ (ld_ 2 (hrd := by exact rd39 rfl rfl)) <| c_ (cl_ Try.func31 (h := fun env => ⟨_, (wcmpZ (fS (sgi l i) (jn d s a)) (endS l day off i) (by unfold InW at *; omega) (by unfold InW; omega)), rfl⟩)) <| c_ (bi0 (vI (cmpZ (fS (sgi l i) (jn d s a)) (endS l day off i))) (vI 0) (h := by intro env w; (first | (simp [go_sem, cmpZ_le, cmpZ_lt, cmpZ_ge, cmpZ_gt, e3]; done) | (simp [go_sem, cmpZ_le, cmpZ_lt, cmpZ_ge, cmpZ_gt]; omega)))) <| c_ (pk0 bF bT bF (h := by intro env w; (first | (simp [go_sem, cmpZ_le, cmpZ_lt, cmpZ_ge, cmpZ_gt, e3]; done) | (simp [go_sem, cmpZ_le, cmpZ_lt, cmpZ_ge, cmpZ_gt]; omega)))) <| e_) (k := fun E11 ac wd h_11 => ?_)
  clear h_10
  refine then_n ?_
  refine cF_ h_11 ?_
  refine wp_skip (then_n (wp_seq ?_))
  refine rg_ h_11 (tri 3) [K_ (vW (fS (sgi l i) (jn d s a))), none, K_ (vI 0)] (fun E12 => [(3, vP (pb E1 0) 0), (4, vP (pb E1 1) 0), (5, vI 0), (7, vP (pb E8 2) 0), (8, vP (pb E10 4) 0), (28, .slice ((some ⟨g, 0, none⟩)) l.length c), (29, vN l.length), (30, vN i), (31, bT), (32, elt (.slice ((some ⟨g, 0, none⟩)) l.length c) (i * 14)), (33, vPc ((sgi l i).d) ((sgi l i).b * 100000000000) (jn (sgi l i).f 0 0) ((sgi l i).r * 100000000000) (endS l day off i) (untS l day i)), (34, vP (pb E1 0) 0), (35, vI d), (36, vP (pb E8 2) 13), (37, vI (untS l day i)), (38, bF), (39, vPc ((sgi l i).d) ((sgi l i).b * 100000000000) (jn (sgi l i).f 0 0) ((sgi l i).r * 100000000000) (endS l day off i) (untS l day i)), (40, vL d s a), (41, vW (jn d s a)), (42, vW (fS (sgi l i) (jn d s a))), (43, vP (pb E1 0) 1), (44, vI s), (45, bF), (46, bF), (47, undef), (48, undef), (49, undef), (50, undef), (51, undef), (52, undef), (53, bF), (54, bF), (55, vW (fS (sgi l i) (jn d s a))), (56, vP (pb E8 2) 11), (57, vW (endS l day off i)), (58, vI (cmpZ (fS (sgi l i) (jn d s a)) (endS l day off i))), (59, bF), (60, bF), (62, vW (fS (sgi l i) (jn d s a)))]) (S := [⟨1, 1, fun _ => [vI (hi (fS (sgi l i) (jn d s a))), .int .u64 (lo (fS (sgi l i) (jn d s a)))]⟩]) (M' := fun E12 => [((pb E1 0), 36, [vI d, vI s, vI a]), ((pb E1 1), 39, [vI (hi (fS (sgi l i) (jn d s a))), .int .u64 (lo (fS (sgi l i) (jn d s a)))]), ((pb E8 2), 59, [vI ((sgi l i).d), vI (hi ((sgi l i).b * 100000000000)), .int .u64 (lo ((sgi l i).b * 100000000000)), vI (hi (jn (sgi l i).f 0 0)), .int .u64 (lo (jn (sgi l i).f 0 0)), vI (hi (dayA)), .int .u64 (lo (dayA)), vI (hi (dayA + (sgi l i).r * 100000000000)), .int .u64 (lo (dayA + (sgi l i).r * 100000000000)), vI (hi ((sgi l i).r * 100000000000)), .int .u64 (lo ((sgi l i).r * 100000000000)), vI (hi (endS l day off i)), .int .u64 (lo (endS l day off i)), vI (untS l day i)]), ((pb E10 4), 39, [vI (hi (fS (sgi l i) (jn d s a))), .int .u64 (lo (fS (sgi l i) (jn d s a)))])]) (hs := c_ (ld_ 3 (hrd := by exact rd39 rfl rfl)) <| c_ (se_ 1 (hst := by exact fun _ _ _ hc => st39 rfl rfl rfl hc)) <| c_ mv_ <| e_) (k := fun E12 ac wd h_12 => ?_)
  clear h_11
  refine then_n (wp_ret (blk_ret (then_ret (then_ret (blk_ret (then_ret (sc_r ?_)))))))
  refine lvCT (v := vW (fS (sgi l i) (jn d s a))) Try.results10 h_12 1 (rd39 rfl rfl) ?_
  have hE2 : taiE l day off d s a = 0 := by unfold taiE; rw [if_neg (by rw [hfb]; simp), if_neg g1, if_neg (by omega), ← hk, if_neg (by omega)]
  have hV2 : taiV l day off d s a = fS (sgi l i) (jn d s a) := by unfold taiV; rw [if_pos hE2, ← hk]
  exact ⟨by first | (rw [hE2, hV2]; done) | (rw [hE2, hV2]; rfl), h_12.st.below⟩
  obtain rfl : i = l.length := by omega
  refine rg_ h_6 [[0]] [K_ bF] (fun E7 => [(3, vP (pb E1 0) 0), (4, vP (pb E1 1) 0), (28, .slice ((some ⟨g, 0, none⟩)) l.length c), (29, vN l.length), (30, vN l.length), (31, bF)]) (hs := c_ (bi0 (vN l.length) (vN l.length)) <| e_) (k := fun E7 ac wd h_7 => ?_)
  clear h_6
  refine then_n (wp_seq ?_)
  refine cF_ h_7 ?_
  refine wp_exit (then_e (then_e (blk_x (then_n (wp_seq ?_)))))
  refine rg_ h_7 (tri 3) [K_ (.agg #[vI 0, .int .u64 0]), none, K_ (vI 9)] (fun E8 => [(4, vP (pb E1 1) 0), (5, vI 9)]) (S := [⟨1, 1, fun _ => [vI 0, .int .u64 0]⟩]) (M' := fun E8 => [((pb E1 0), 36, [vI d, vI s, vI a]), ((pb E1 1), 39, [vI 0, .int .u64 0])]) (hs := c_ (bd0 ([])) <| c_ (se_ 1 (hst := by exact fun _ _ _ hc => st39 rfl rfl rfl hc)) <| c_ mv_ <| e_) (k := fun E8 ac wd h_8 => ?_)
  clear h_7
  refine then_n (wp_ret (sc_r ?_))
  refine lvCT (v := .agg #[vI 0, .int .u64 0]) Try.results10 h_8 1 (rd39 rfl rfl) ?_
  have hE2 : taiE l day off d s a = 9 := by have hday : day ≤ d := (by have := hi2 (l.length - 1) (by omega); unfold untS at this; rw [if_neg (by omega)] at this; exact this); unfold taiE; rw [if_neg (by rw [hfb]; simp), if_neg g1, if_pos hday]
  have hV2 : taiV l day off d s a = 0 := by unfold taiV; rw [if_neg (by rw [hE2]; omega)]
  exact ⟨by first | (rw [hE2, hV2]; done) | (rw [hE2, hV2]; rfl), h_8.st.below⟩
set_option maxRecDepth 100000 in
set_option maxHeartbeats 8000000 in
theorem label_any (w0 : World) (b g c : Nat) (l : List Sg) (day off : Int) (hR : RubA w0 b g c l day off) (hL : LOk l day off) (t : Int) (ht : InW t) : Calls Try.prog 11 #[vP b 0, vW t] w0 fun e w' => e = .returned (vT2 (vL (labD l day off t) (labS l day off t) (labA l day off t)) (vI (labE l day off t))) ∧ Below w0.heap.size w0 w' := by
  have n0 := hL.n0; have n1 := hL.n1; have y0 := hL.y0; have y1 := hL.y1; have o0 := hL.o0; have o1 := hL.o1
  have hs0 := hL.seg 0 n0; have f0 := hs0.d0; have f1 := hs0.d1; have hb0 := begS_bd hL n0
  have hn0 : Near (jn (sgi l 0).d 0 0) := (cn_jn (by omega) (by omega) (by omega) (by omega) (by omega) (by omega)).near
  have hst := St.start w0 (Θ := fun _ => True) (fun _ _ => trivial)
  refine en_ Try.func11 hst 48 [(0, vP b 0), (1, vW t)] (fun ac h => ?_)
  refine wp_seq ?_
  refine rg_ h [[0],[1],[2]] [KE_ fun env => vP (pb env 0) 0, KE_ fun env => vP (pb env 1) 0, K_ (vI 0)] (fun E1 => [(0, vP b 0), (3, vP (pb E1 0) 0), (4, vP (pb E1 1) 0), (5, vI 0)]) (W := [{ i := 0, T := 39, c0 := [vI (hi (t)), .int .u64 (lo (t))] }, { i := 1, T := 36, c0 := [vI 0, vI 0, vI 0] }]) (M' := fun E1 => [((pb E1 0), 39, [vI (hi (t)), .int .u64 (lo (t))]), ((pb E1 1), 36, [vI 0, vI 0, vI 0])]) (hs := c_ (bx0 0 (vW t)) <| c_ (al_ 1) <| c_ mv_ <| e_) (k := fun E1 ac wd h_1 => ?_)
  clear h
  refine then_n (wp_seq (wp_seq ?_))
  refine rg_ h_1 [[0],[0,1]] [K_ (vP b 0), K_ bF] (fun E2 => [(0, vP b 0), (3, vP (pb E1 0) 0), (4, vP (pb E1 1) 0), (5, vI 0), (10, bF)]) (hs := c_ mv_ <| c_ (bi0 (vP b 0) (.pointer none)) <| e_) (k := fun E2 ac wd h_2 => ?_)
  clear h_1
  refine then_n ?_
  refine cF_ h_2 ?_
  refine wp_skip (then_n (wp_seq ?_))
  refine rg_ h_2 [[0],[0,1],[0,1,2],r_ 4,r_ 5,r_ 6,[6],r_ 8] [K_ (vP b 0), K_ (vP b 0), K_ (vP b 0), K_ (.slice ((some ⟨g, 0, none⟩)) l.length c), K_ (elt (.slice ((some ⟨g, 0, none⟩)) l.length c) (0 * 14)), K_ (vPc ((sgi l 0).d) ((sgi l 0).b * 100000000000) (jn (sgi l 0).f 0 0) ((sgi l 0).r * 100000000000) (endS l day off 0) (untS l day 0)), KE_ fun env => vP (pb env 6) 0, none] (fun E3 => [(0, vP b 0), (3, vP (pb E1 0) 0), (4, vP (pb E1 1) 0), (5, vI 0), (6, vP (pb E3 6) 0)]) (W := [{ i := 6, T := 59, c0 := [vI 0, vI 0, .int .u64 0, vI 0, .int .u64 0, vI 0, .int .u64 0, vI 0, .int .u64 0, vI 0, .int .u64 0, vI 0, .int .u64 0, vI 0], s := some 7, c1 := fun _ => [vI ((sgi l 0).d), vI (hi ((sgi l 0).b * 100000000000)), .int .u64 (lo ((sgi l 0).b * 100000000000)), vI (hi (jn (sgi l 0).f 0 0)), .int .u64 (lo (jn (sgi l 0).f 0 0)), vI (hi (dayA)), .int .u64 (lo (dayA)), vI (hi (dayA + (sgi l 0).r * 100000000000)), .int .u64 (lo (dayA + (sgi l 0).r * 100000000000)), vI (hi ((sgi l 0).r * 100000000000)), .int .u64 (lo ((sgi l 0).r * 100000000000)), vI (hi (endS l day off 0)), .int .u64 (lo (endS l day off 0)), vI (untS l day 0)] }]) (M' := fun E3 => [((pb E1 0), 39, [vI (hi (t)), .int .u64 (lo (t))]), ((pb E1 1), 36, [vI 0, vI 0, vI 0]), ((pb E3 6), 59, [vI ((sgi l 0).d), vI (hi ((sgi l 0).b * 100000000000)), .int .u64 (lo ((sgi l 0).b * 100000000000)), vI (hi (jn (sgi l 0).f 0 0)), .int .u64 (lo (jn (sgi l 0).f 0 0)), vI (hi (dayA)), .int .u64 (lo (dayA)), vI (hi (dayA + (sgi l 0).r * 100000000000)), .int .u64 (lo (dayA + (sgi l 0).r * 100000000000)), vI (hi ((sgi l 0).r * 100000000000)), .int .u64 (lo ((sgi l 0).r * 100000000000)), vI (hi (endS l day off 0)), .int .u64 (lo (endS l day off 0)), vI (untS l day 0)])]) (hs := c_ mv_ <| c_ (nc0 (vP b 0)) <| c_ (fa0 (vP b 0)) <| c_ (by refine s_v rfl rfl rfl rfl (fun {D env ac wd} hA => ?_); have e14 : ac.tmps[14]? = some (vP b 0) := hA.g rfl; have hc := (hR.grown hA.j.st.gr).cell; simp [go_sem, e14, hc]) <| c_ (ia_ Try.underlying55 sz59 0 (0 * 14) 0 (fun _ env _ wd hA => (hR.grown hA.j.st.gr).els) (rfl) (by omega) rfl) <| c_ (le_ (0 * 14) (fun _ env _ wd hA => (hR.grown hA.j.st.gr).els) (by omega) (le59 (by exact pcC_at l day off 0 0 (by omega)) (by exact pcC_at l day off 0 1 (by omega)) (by exact pcC_at l day off 0 2 (by omega)) (by exact pcC_at l day off 0 3 (by omega)) (by exact pcC_at l day off 0 4 (by omega)) (by exact pcC_at l day off 0 5 (by omega)) (by exact pcC_at l day off 0 6 (by omega)) (by exact pcC_at l day off 0 7 (by omega)) (by exact pcC_at l day off 0 8 (by omega)) (by exact pcC_at l day off 0 9 (by omega)) (by exact pcC_at l day off 0 10 (by omega)) (by exact pcC_at l day off 0 11 (by omega)) (by exact pcC_at l day off 0 12 (by omega)) (by exact pcC_at l day off 0 13 (by omega)))) <| c_ (al_ 2) <| c_ (sw_ 2 6 (hst := by exact fun _ _ _ hc => st59 rfl rfl rfl rfl rfl rfl rfl rfl rfl rfl rfl rfl rfl rfl rfl hc)) <| e_) (k := fun E3 ac wd h_3 => ?_)
  clear h_2
  refine then_n (wp_seq (wp_seq ?_))
  by_cases g1 : t < begS l 0
  refine rg_ h_3 [[0],[1],[2],[2,3],[2,3,4],[1,2,3,4,5],r_ 7,r_ 8] [K_ (vW t), K_ (vPc ((sgi l 0).d) ((sgi l 0).b * 100000000000) (jn (sgi l 0).f 0 0) ((sgi l 0).r * 100000000000) (endS l day off 0) (untS l day 0)), K_ (vP (pb E3 6) 0), K_ (vI ((sgi l 0).d)), K_ (vW (jn (sgi l 0).d 0 0)), K_ (vW (begS l 0)), K_ (vI (cmpZ t (begS l 0))), K_ bT] (fun E4 => [(0, vP b 0), (3, vP (pb E1 0) 0), (4, vP (pb E1 1) 0), (5, vI 0), (25, bT)]) (hs := c_ (ld_ 0 (hrd := by exact rd39 rfl rfl)) <| c_ (ld_ 2 (hrd := by exact rd59 rfl rfl rfl rfl rfl rfl rfl rfl rfl rfl rfl rfl rfl rfl)) <| c_ (fa0 (vP (pb E3 6) 0)) <| c_ (ld_ 2 (hrd := by exact rd3 rfl)) <| c_ (cl_ Try.func19 (h := fun env => ⟨_, (begin_any (sgi l 0).d (by omega) (by omega)), rfl⟩)) <| c_ (cl_ Try.func18 (h := fun env => ⟨_, (pat_any (sgi l 0).d ((sgi l 0).b * 100000000000) (jn (sgi l 0).f 0 0) ((sgi l 0).r * 100000000000) (endS l day off 0) (untS l day 0) (jn (sgi l 0).d 0 0) hs0.pc hn0), rfl⟩)) <| c_ (cl_ Try.func31 (h := fun env => ⟨_, (wcmpZ t (begS l 0) (by unfold InW at *; omega) (by unfold InW; omega)), rfl⟩)) <| c_ (bi0 (vI (cmpZ t (begS l 0))) (vI 0) (h := by intro env w; (first | (simp [go_sem, cmpZ_le, cmpZ_lt, cmpZ_ge, cmpZ_gt, g1]; done) | (simp [go_sem, cmpZ_le, cmpZ_lt, cmpZ_ge, cmpZ_gt]; omega)))) <| e_) (k := fun E4 ac wd h_4 => ?_)
  clear h_3
  refine then_n ?_
  refine cT_ h_4 ?_
  refine wp_seq ?_
  refine rg_ h_4 (tri 3) [K_ (vL 0 0 0), none, K_ (vI 8)] (fun E5 => [(0, vP b 0), (3, vP (pb E1 0) 0), (4, vP (pb E1 1) 0), (5, vI 8)]) (S := [⟨1, 1, fun _ => [vI 0, vI 0, vI 0]⟩]) (M' := fun E5 => [((pb E1 0), 39, [vI (hi (t)), .int .u64 (lo (t))]), ((pb E1 1), 36, [vI 0, vI 0, vI 0]), ((pb E3 6), 59, [vI ((sgi l 0).d), vI (hi ((sgi l 0).b * 100000000000)), .int .u64 (lo ((sgi l 0).b * 100000000000)), vI (hi (jn (sgi l 0).f 0 0)), .int .u64 (lo (jn (sgi l 0).f 0 0)), vI (hi (dayA)), .int .u64 (lo (dayA)), vI (hi (dayA + (sgi l 0).r * 100000000000)), .int .u64 (lo (dayA + (sgi l 0).r * 100000000000)), vI (hi ((sgi l 0).r * 100000000000)), .int .u64 (lo ((sgi l 0).r * 100000000000)), vI (hi (endS l day off 0)), .int .u64 (lo (endS l day off 0)), vI (untS l day 0)])]) (hs := c_ (bd0 ([])) <| c_ (se_ 1 (hst := by exact fun _ _ _ hc => st36 rfl rfl rfl rfl hc)) <| c_ mv_ <| e_) (k := fun E5 ac wd h_5 => ?_)
  clear h_4
  refine then_n (wp_ret (then_ret ?_))
  refine lvCT (v := vL 0 0 0) Try.results11 h_5 1 (rd36 rfl rfl rfl) ?_
  obtain ⟨q1, q2, q3, q4⟩ := lab_early (day := day) (off := off) g1
  exact ⟨by rw [q1, q2, q3, q4], h_5.st.below⟩
  refine rg_ h_3 [[0],[1],[2],[2,3],[2,3,4],[1,2,3,4,5],r_ 7,r_ 8] [K_ (vW t), K_ (vPc ((sgi l 0).d) ((sgi l 0).b * 100000000000) (jn (sgi l 0).f 0 0) ((sgi l 0).r * 100000000000) (endS l day off 0) (untS l day 0)), K_ (vP (pb E3 6) 0), K_ (vI ((sgi l 0).d)), K_ (vW (jn (sgi l 0).d 0 0)), K_ (vW (begS l 0)), K_ (vI (cmpZ t (begS l 0))), K_ bF] (fun E4 => [(0, vP b 0), (3, vP (pb E1 0) 0), (4, vP (pb E1 1) 0), (5, vI 0), (25, bF)]) (hs := c_ (ld_ 0 (hrd := by exact rd39 rfl rfl)) <| c_ (ld_ 2 (hrd := by exact rd59 rfl rfl rfl rfl rfl rfl rfl rfl rfl rfl rfl rfl rfl rfl)) <| c_ (fa0 (vP (pb E3 6) 0)) <| c_ (ld_ 2 (hrd := by exact rd3 rfl)) <| c_ (cl_ Try.func19 (h := fun env => ⟨_, (begin_any (sgi l 0).d (by omega) (by omega)), rfl⟩)) <| c_ (cl_ Try.func18 (h := fun env => ⟨_, (pat_any (sgi l 0).d ((sgi l 0).b * 100000000000) (jn (sgi l 0).f 0 0) ((sgi l 0).r * 100000000000) (endS l day off 0) (untS l day 0) (jn (sgi l 0).d 0 0) hs0.pc hn0), rfl⟩)) <| c_ (cl_ Try.func31 (h := fun env => ⟨_, (wcmpZ t (begS l 0) (by unfold InW at *; omega) (by unfold InW; omega)), rfl⟩)) <| c_ (bi0 (vI (cmpZ t (begS l 0))) (vI 0) (h := by intro env w; (first | (simp [go_sem, cmpZ_le, cmpZ_lt, cmpZ_ge, cmpZ_gt, g1]; done) | (simp [go_sem, cmpZ_le, cmpZ_lt, cmpZ_ge, cmpZ_gt]; omega)))) <| e_) (k := fun E4 ac wd h_4 => ?_)
  clear h_3
  refine then_n ?_
  refine cF_ h_4 ?_
  refine wp_skip (then_n (wp_seq (wp_seq ?_)))
  refine rg_ h_4 [[0],[0,1],[0,1,2],r_ 4,r_ 5,[5]] [K_ (vP b 0), K_ (vP b 0), K_ (vP b 0), K_ (.slice ((some ⟨g, 0, none⟩)) l.length c), K_ (vN l.length), K_ (vI 0)] (fun E5 => [(3, vP (pb E1 0) 0), (4, vP (pb E1 1) 0), (5, vI 0), (30, .slice ((some ⟨g, 0, none⟩)) l.length c), (31, vN l.length), (32, vI 0)]) (hs := c_ mv_ <| c_ (nc0 (vP b 0)) <| c_ (fa0 (vP b 0)) <| c_ (by refine s_v rfl rfl rfl rfl (fun {D env ac wd} hA => ?_); have e29 : ac.tmps[29]? = some (vP b 0) := hA.g rfl; have hc := (hR.grown hA.j.st.gr).cell; simp [go_sem, e29, hc]) <| c_ (ln_ Try.underlying55 fun _ env _ wd hA => (hR.grown hA.j.st.gr).els) <| c_ mv_ <| e_) (k := fun E5 ac wd h_5 => ?_)
  clear h_4
  refine then_n (wp_block ?_)
  refine wp_loop (fun ac wd => ∃ i : Nat, (i ≤ l.length ∧ ∀ j, j < i → endS l day off j ≤ t) ∧ Cur 48 w0 none none (fun _ => True) (fun _ => True) [(3, vP (pb E1 0) 0), (4, vP (pb E1 1) 0), (30, .slice ((some ⟨g, 0, none⟩)) l.length c), (31, vN l.length), (32, vN i)] [((pb E1 0), 39, [vI (hi (t)), .int .u64 (lo (t))]), ((pb E1 1), 36, [vI 0, vI 0, vI 0]), ((pb E3 6), 59, [vI ((sgi l 0).d), vI (hi ((sgi l 0).b * 100000000000)), .int .u64 (lo ((sgi l 0).b * 100000000000)), vI (hi (jn (sgi l 0).f 0 0)), .int .u64 (lo (jn (sgi l 0).f 0 0)), vI (hi (dayA)), .int .u64 (lo (dayA)), vI (hi (dayA + (sgi l 0).r * 100000000000)), .int .u64 (lo (dayA + (sgi l 0).r * 100000000000)), vI (hi ((sgi l 0).r * 100000000000)), .int .u64 (lo ((sgi l 0).r * 100000000000)), vI (hi (endS l day off 0)), .int .u64 (lo (endS l day off 0)), vI (untS l day 0)])] ac wd) (fun ac _ => ((l.length : Int) - sI ac 32).toNat) ⟨0, ⟨by omega, fun j hj => by omega⟩, (h_5.re rfl).th (fun _ h => h)⟩ ?_
  rintro ac wd ⟨i, ⟨hi1, hi2⟩, h_6⟩
  clear h_5
  have hmu : sI ac 32 = ((i : Nat) : Int) := sI_eq (h_6.g (t := 32) rfl)
  refine wp_seq ?_
  by_cases h1 : i < l.length
  have hs := hL.seg i h1; have hE := hL.end_bd h1; have hB := begS_bd hL hL.n0; have hun := hL.unt_day h1; have hun2 := hL.unt_ge h1
  refine rg_ h_6 [[0]] [K_ bT] (fun E7 => [(3, vP (pb E1 0) 0), (4, vP (pb E1 1) 0), (30, .slice ((some ⟨g, 0, none⟩)) l.length c), (31, vN l.length), (32, vN i), (33, bT)]) (hs := c_ (bi0 (vN i) (vN l.length)) <| e_) (k := fun E7 ac wd h_7 => ?_)
  clear h_6
  refine then_n (wp_seq ?_)
  refine cT_ h_7 ?_
  refine wp_skip (then_n (wp_seq (wp_block (wp_seq ?_))))
  refine rg_ h_7 [[0],[0,1],[2],r_ 4] [K_ (elt (.slice ((some ⟨g, 0, none⟩)) l.length c) (i * 14)), K_ (vPc ((sgi l i).d) ((sgi l i).b * 100000000000) (jn (sgi l i).f 0 0) ((sgi l i).r * 100000000000) (endS l day off i) (untS l day i)), KE_ fun env => vP (pb env 2) 0, none] (fun E8 => [(3, vP (pb E1 0) 0), (4, vP (pb E1 1) 0), (8, vP (pb E8 2) 0), (30, .slice ((some ⟨g, 0, none⟩)) l.length c), (31, vN l.length), (32, vN i), (33, bT), (34, elt (.slice ((some ⟨g, 0, none⟩)) l.length c) (i * 14)), (35, vPc ((sgi l i).d) ((sgi l i).b * 100000000000) (jn (sgi l i).f 0 0) ((sgi l i).r * 100000000000) (endS l day off i) (untS l day i))]) (W := [{ i := 2, T := 59, c0 := [vI 0, vI 0, .int .u64 0, vI 0, .int .u64 0, vI 0, .int .u64 0, vI 0, .int .u64 0, vI 0, .int .u64 0, vI 0, .int .u64 0, vI 0], s := some 3, c1 := fun _ => [vI ((sgi l i).d), vI (hi ((sgi l i).b * 100000000000)), .int .u64 (lo ((sgi l i).b * 100000000000)), vI (hi (jn (sgi l i).f 0 0)), .int .u64 (lo (jn (sgi l i).f 0 0)), vI (hi (dayA)), .int .u64 (lo (dayA)), vI (hi (dayA + (sgi l i).r * 100000000000)), .int .u64 (lo (dayA + (sgi l i).r * 100000000000)), vI (hi ((sgi l i).r * 100000000000)), .int .u64 (lo ((sgi l i).r * 100000000000)), vI (hi (endS l day off i)), .int .u64 (lo (endS l day off i)), vI (untS l day i)] }]) (M' := fun E8 => [((pb E1 0), 39, [vI (hi (t)), .int .u64 (lo (t))]), ((pb E1 1), 36, [vI 0, vI 0, vI 0]), ((pb E3 6), 59, [vI ((sgi l 0).d), vI (hi ((sgi l 0).b * 100000000000)), .int .u64 (lo ((sgi l 0).b * 100000000000)), vI (hi (jn (sgi l 0).f 0 0)), .int .u64 (lo (jn (sgi l 0).f 0 0)), vI (hi (dayA)), .int .u64 (lo (dayA)), vI (hi (dayA + (sgi l 0).r * 100000000000)), .int .u64 (lo (dayA + (sgi l 0).r * 100000000000)), vI (hi ((sgi l 0).r * 100000000000)), .int .u64 (lo ((sgi l 0).r * 100000000000)), vI (hi (endS l day off 0)), .int .u64 (lo (endS l day off 0)), vI (untS l day 0)]), ((pb E8 2), 59, [vI ((sgi l i).d), vI (hi ((sgi l i).b * 100000000000)), .int .u64 (lo ((sgi l i).b * 100000000000)), vI (hi (jn (sgi l i).f 0 0)), .int .u64 (lo (jn (sgi l i).f 0 0)), vI (hi (dayA)), .int .u64 (lo (dayA)), vI (hi (dayA + (sgi l i).r * 100000000000)), .int .u64 (lo (dayA + (sgi l i).r * 100000000000)), vI (hi ((sgi l i).r * 100000000000)), .int .u64 (lo ((sgi l i).r * 100000000000)), vI (hi (endS l day off i)), .int .u64 (lo (endS l day off i)), vI (untS l day i)])]) (hs := c_ (ia_ Try.underlying55 sz59 i (i * 14) ((i : Nat) : Int) (fun _ env _ wd hA => (hR.grown hA.j.st.gr).els) (rfl) (by omega) rfl) <| c_ (le_ (i * 14) (fun _ env _ wd hA => (hR.grown hA.j.st.gr).els) (by omega) (le59 (by exact pcC_at l day off i 0 (by omega)) (by exact pcC_at l day off i 1 (by omega)) (by exact pcC_at l day off i 2 (by omega)) (by exact pcC_at l day off i 3 (by omega)) (by exact pcC_at l day off i 4 (by omega)) (by exact pcC_at l day off i 5 (by omega)) (by exact pcC_at l day off i 6 (by omega)) (by exact pcC_at l day off i 7 (by omega)) (by exact pcC_at l day off i 8 (by omega)) (by exact pcC_at l day off i 9 (by omega)) (by exact pcC_at l day off i 10 (by omega)) (by exact pcC_at l day off i 11 (by omega)) (by exact pcC_at l day off i 12 (by omega)) (by exact pcC_at l day off i 13 (by omega)))) <| c_ (al_ 3) <| c_ (sw_ 3 2 (hst := by exact fun _ _ _ hc => st59 rfl rfl rfl rfl rfl rfl rfl rfl rfl rfl rfl rfl rfl rfl rfl hc)) <| e_) (k := fun E8 ac wd h_8 => ?_)
  clear h_7
  refine then_n (wp_seq ?_)
  by_cases hc : endS l day off i ≤ t
  refine rg_ h_8 [[0],[1],[1,2],r_ 4,r_ 5] [K_ (vW t), K_ (vP (pb E8 2) 11), K_ (vW (endS l day off i)), K_ (vI (cmpZ t (endS l day off i))), K_ bF] (fun E9 => [(3, vP (pb E1 0) 0), (4, vP (pb E1 1) 0), (8, vP (pb E8 2) 0), (30, .slice ((some ⟨g, 0, none⟩)) l.length c), (31, vN l.length), (32, vN i), (33, bT), (34, elt (.slice ((some ⟨g, 0, none⟩)) l.length c) (i * 14)), (35, vPc ((sgi l i).d) ((sgi l i).b * 100000000000) (jn (sgi l i).f 0 0) ((sgi l i).r * 100000000000) (endS l day off i) (untS l day i)), (36, vW t), (37, vP (pb E8 2) 11), (38, vW (endS l day off i)), (39, vI (cmpZ t (endS l day off i))), (40, bF)]) (hs := c_ (ld_ 0 (hrd := by exact rd39 rfl rfl)) <| c_ (fa0 (vP (pb E8 2) 0)) <| c_ (ld_ 3 (hrd := by exact rd39 rfl rfl)) <| c_ (cl_ Try.func31 (h := fun env => ⟨_, (wcmpZ t (endS l day off i) (by unfold InW at *; omega) (by unfold InW; omega)), rfl⟩)) <| c_ (bi0 (vI (cmpZ t (endS l day off i))) (vI 0) (h := by intro env w; (first | (simp [go_sem, cmpZ_le, cmpZ_lt, cmpZ_ge, cmpZ_gt, hc]; done) | (simp [go_sem, cmpZ_le, cmpZ_lt, cmpZ_ge, cmpZ_gt]; omega)))) <| e_) (k := fun E9 ac wd h_9 => ?_)
  clear h_8
  refine then_n ?_
  refine cF_ h_9 ?_
  refine wp_skip (blk_n (then_n ?_))
  refine rg_ h_9 [[0],[0,1]] [K_ (vI (((i : Nat) : Int) + 1)), K_ (vI (((i : Nat) : Int) + 1))] (fun E10 => [(3, vP (pb E1 0) 0), (4, vP (pb E1 1) 0), (8, vP (pb E8 2) 0), (30, .slice ((some ⟨g, 0, none⟩)) l.length c), (31, vN l.length), (32, vI (((i : Nat) : Int) + 1)), (33, bT), (34, elt (.slice ((some ⟨g, 0, none⟩)) l.length c) (i * 14)), (35, vPc ((sgi l i).d) ((sgi l i).b * 100000000000) (jn (sgi l i).f 0 0) ((sgi l i).r * 100000000000) (endS l day off i) (untS l day i)), (36, vW t), (37, vP (pb E8 2) 11), (38, vW (endS l day off i)), (39, vI (cmpZ t (endS l day off i))), (40, bF), (46, vI (((i : Nat) : Int) + 1))]) (hs := c_ (bi0 (vN i) (vI 1)) <| c_ mv_ <| e_) (k := fun E10 ac wd h_10 => ?_)
  clear h_9
  refine then_n ?_
  exact ⟨⟨i + 1, ⟨by omega, steps_snoc (p := fun j => endS l day off j ≤ t) hi2 hc⟩, (h_10.take (M1 := [_, _, _]) rfl).re rfl⟩, by rw [sI_eq (h_10.g (t := 32) rfl), hmu]; omega⟩
  have hG := gS_bd hs (t := t) (by omega) (by omega); have hnt : Near t := (by unfold Near; omega); have hng : Near (gS (sgi l i) t) := (by unfold Near; omega)
  refine rg_ h_8 [[0],[1],[1,2],r_ 4,r_ 5] [K_ (vW t), K_ (vP (pb E8 2) 11), K_ (vW (endS l day off i)), K_ (vI (cmpZ t (endS l day off i))), K_ bT] (fun E9 => [(3, vP (pb E1 0) 0), (4, vP (pb E1 1) 0), (8, vP (pb E8 2) 0), (30, .slice ((some ⟨g, 0, none⟩)) l.length c), (31, vN l.length), (32, vN i), (33, bT), (34, elt (.slice ((some ⟨g, 0, none⟩)) l.length c) (i * 14)), (35, vPc ((sgi l i).d) ((sgi l i).b * 100000000000) (jn (sgi l i).f 0 0) ((sgi l i).r * 100000000000) (endS l day off i) (untS l day i)), (36, vW t), (37, vP (pb E8 2) 11), (38, vW (endS l day off i)), (39, vI (cmpZ t (endS l day off i))), (40, bT)]) (hs := c_ (ld_ 0 (hrd := by exact rd39 rfl rfl)) <| c_ (fa0 (vP (pb E8 2) 0)) <| c_ (ld_ 3 (hrd := by exact rd39 rfl rfl)) <| c_ (cl_ Try.func31 (h := fun env => ⟨_, (wcmpZ t (endS l day off i) (by unfold InW at *; omega) (by unfold InW; omega)), rfl⟩)) <| c_ (bi0 (vI (cmpZ t (endS l day off i))) (vI 0) (h := by intro env w; (first | (simp [go_sem, cmpZ_le, cmpZ_lt, cmpZ_ge, cmpZ_gt, hc]; done) | (simp [go_sem, cmpZ_le, cmpZ_lt, cmpZ_ge, cmpZ_gt]; omega)))) <| e_) (k := fun E9 ac wd h_9 => ?_)
  clear h_8
  refine then_n ?_
  refine cT_ h_9 ?_
  refine wp_seq ?_
  refine rg_ h_9 [[0],[1],[2],[1,2,3],r_ 5,r_ 6,r_ 7] [K_ (vPc ((sgi l i).d) ((sgi l i).b * 100000000000) (jn (sgi l i).f 0 0) ((sgi l i).r * 100000000000) (endS l day off i) (untS l day i)), K_ (vPc ((sgi l i).d) ((sgi l i).b * 100000000000) (jn (sgi l i).f 0 0) ((sgi l i).r * 100000000000) (endS l day off i) (untS l day i)), K_ (vW t), K_ (vW (gS (sgi l i) t)), K_ (vL (lblD (untS l day i) (gS (sgi l i) t)) (lblS (untS l day i) (gS (sgi l i) t)) (splA (gS (sgi l i) t))), none, K_ (vI 0)] (fun E10 => [(3, vP (pb E1 0) 0), (4, vP (pb E1 1) 0), (5, vI 0), (8, vP (pb E8 2) 0), (30, .slice ((some ⟨g, 0, none⟩)) l.length c), (31, vN l.length), (32, vN i), (33, bT), (34, elt (.slice ((some ⟨g, 0, none⟩)) l.length c) (i * 14)), (35, vPc ((sgi l i).d) ((sgi l i).b * 100000000000) (jn (sgi l i).f 0 0) ((sgi l i).r * 100000000000) (endS l day off i) (untS l day i)), (36, vW t), (37, vP (pb E8 2) 11), (38, vW (endS l day off i)), (39, vI (cmpZ t (endS l day off i))), (40, bT), (41, vPc ((sgi l i).d) ((sgi l i).b * 100000000000) (jn (sgi l i).f 0 0) ((sgi l i).r * 100000000000) (endS l day off i) (untS l day i)), (42, vPc ((sgi l i).d) ((sgi l i).b * 100000000000) (jn (sgi l i).f 0 0) ((sgi l i).r * 100000000000) (endS l day off i) (untS l day i)), (43, vW t), (44, vW (gS (sgi l i) t)), (45, vL (lblD (untS l day i) (gS (sgi l i) t)) (lblS (untS l day i) (gS (sgi l i) t)) (splA (gS (sgi l i) t)))]) (S := [⟨1, 5, fun _ => [vI (lblD (untS l day i) (gS (sgi l i) t)), vI (lblS (untS l day i) (gS (sgi l i) t)), vI (splA (gS (sgi l i) t))]⟩]) (M' := fun E10 => [((pb E1 0), 39, [vI (hi (t)), .int .u64 (lo (t))]), ((pb E1 1), 36, [vI (lblD (untS l day i) (gS (sgi l i) t)), vI (lblS (untS l day i) (gS (sgi l i) t)), vI (splA (gS (sgi l i) t))]), ((pb E3 6), 59, [vI ((sgi l 0).d), vI (hi ((sgi l 0).b * 100000000000)), .int .u64 (lo ((sgi l 0).b * 100000000000)), vI (hi (jn (sgi l 0).f 0 0)), .int .u64 (lo (jn (sgi l 0).f 0 0)), vI (hi (dayA)), .int .u64 (lo (dayA)), vI (hi (dayA + (sgi l 0).r * 100000000000)), .int .u64 (lo (dayA + (sgi l 0).r * 100000000000)), vI (hi ((sgi l 0).r * 100000000000)), .int .u64 (lo ((sgi l 0).r * 100000000000)), vI (hi (endS l day off 0)), .int .u64 (lo (endS l day off 0)), vI (untS l day 0)]), ((pb E8 2), 59, [vI ((sgi l i).d), vI (hi ((sgi l i).b * 100000000000)), .int .u64 (lo ((sgi l i).b * 100000000000)), vI (hi (jn (sgi l i).f 0 0)), .int .u64 (lo (jn (sgi l i).f 0 0)), vI (hi (dayA)), .int .u64 (lo (dayA)), vI (hi (dayA + (sgi l i).r * 100000000000)), .int .u64 (lo (dayA + (sgi l i).r * 100000000000)), vI (hi ((sgi l i).r * 100000000000)), .int .u64 (lo ((sgi l i).r * 100000000000)), vI (hi (endS l day off i)), .int .u64 (lo (endS l day off i)), vI (untS l day i)])]) (hs := c_ (ld_ 3 (hrd := by exact rd59 rfl rfl rfl rfl rfl rfl rfl rfl rfl rfl rfl rfl rfl rfl)) <| c_ (ld_ 3 (hrd := by exact rd59 rfl rfl rfl rfl rfl rfl rfl rfl rfl rfl rfl rfl rfl rfl)) <| c_ (ld_ 0 (hrd := by exact rd39 rfl rfl)) <| c_ (cl_ Try.func33 (h := fun env => ⟨_, (back_any (sgi l i).d ((sgi l i).b * 100000000000) (jn (sgi l i).f 0 0) ((sgi l i).r * 100000000000) (endS l day off i) (untS l day i) t hs.pc hnt), rfl⟩)) <| c_ (cl_ Try.func32 (h := fun env => ⟨_, ((plabel_any (sgi l i).d ((sgi l i).b * 100000000000) (jn (sgi l i).f 0 0) ((sgi l i).r * 100000000000) (endS l day off i) (untS l day i) (gS (sgi l i) t) hng).eq (lbl_eq _ _)), rfl⟩)) <| c_ (se_ 1 (hst := by exact fun _ _ _ hc => st36 rfl rfl rfl rfl hc)) <| c_ mv_ <| e_) (k := fun E10 ac wd h_10 => ?_)
  clear h_9
  refine then_n (wp_ret (blk_ret (then_ret (then_ret (blk_ret (then_ret ?_))))))
  refine lvCT (v := vL (lblD (untS l day i) (gS (sgi l i) t)) (lblS (untS l day i) (gS (sgi l i) t)) (splA (gS (sgi l i) t))) Try.results11 h_10 1 (rd36 rfl rfl rfl) ?_
  obtain ⟨q1, q2, q3, q4⟩ := lab_in g1 h1 hi2 (by omega : t < endS l day off i)
  exact ⟨by rw [q1, q2, q3, q4], h_10.st.below⟩
  obtain rfl : i = l.length := by omega
  refine rg_ h_6 [[0]] [K_ bF] (fun E7 => [(3, vP (pb E1 0) 0), (4, vP (pb E1 1) 0), (30, .slice ((some ⟨g, 0, none⟩)) l.length c), (31, vN l.length), (32, vN l.length), (33, bF)]) (hs := c_ (bi0 (vN l.length) (vN l.length)) <| e_) (k := fun E7 ac wd h_7 => ?_)
  clear h_6
  refine then_n (wp_seq ?_)
  refine cF_ h_7 ?_
  refine wp_exit (then_e (then_e (blk_x (then_n (wp_seq ?_)))))
  refine rg_ h_7 (tri 3) [K_ (vL 0 0 0), none, K_ (vI 9)] (fun E8 => [(4, vP (pb E1 1) 0), (5, vI 9)]) (S := [⟨1, 1, fun _ => [vI 0, vI 0, vI 0]⟩]) (M' := fun E8 => [((pb E1 0), 39, [vI (hi (t)), .int .u64 (lo (t))]), ((pb E1 1), 36, [vI 0, vI 0, vI 0]), ((pb E3 6), 59, [vI ((sgi l 0).d), vI (hi ((sgi l 0).b * 100000000000)), .int .u64 (lo ((sgi l 0).b * 100000000000)), vI (hi (jn (sgi l 0).f 0 0)), .int .u64 (lo (jn (sgi l 0).f 0 0)), vI (hi (dayA)), .int .u64 (lo (dayA)), vI (hi (dayA + (sgi l 0).r * 100000000000)), .int .u64 (lo (dayA + (sgi l 0).r * 100000000000)), vI (hi ((sgi l 0).r * 100000000000)), .int .u64 (lo ((sgi l 0).r * 100000000000)), vI (hi (endS l day off 0)), .int .u64 (lo (endS l day off 0)), vI (untS l day 0)])]) (hs := c_ (bd0 ([])) <| c_ (se_ 1 (hst := by exact fun _ _ _ hc => st36 rfl rfl rfl rfl hc)) <| c_ mv_ <| e_) (k := fun E8 ac wd h_8 => ?_)
  clear h_7
  refine then_n (wp_ret ?_)
  refine lvCT (v := vL 0 0 0) Try.results11 h_8 1 (rd36 rfl rfl rfl) ?_
  obtain ⟨q1, q2, q3, q4⟩ := lab_late g1 hi2
  exact ⟨by rw [q1, q2, q3, q4], h_8.st.below⟩
end Go.Proofs.Ytdfkghpgekmmlaa
/- rubber: steps, New (printed by my walk.py) -/
namespace Go.Proofs.Ytdfkghpgekmmlaa
open Go.RowKit
set_option linter.unusedVariables false
set_option linter.unusedSimpArgs false
attribute [local go_sem] vN bT bF rS vSg vPc vW vM vL vT2 vT3 vP vI execOp Act.eval evC bigF vB hi_zero lo_zero elt Try.underlying25 Try.underlying36 Try.underlying57 Try.underlying59

set_option maxRecDepth 100000 in
set_option maxHeartbeats 8000000 in
theorem steps_any (w0 : World) (b g c : Nat) (l : List Sg) (day off : Int) (hR : RubA w0 b g c l day off) (hL : LOk l day off) : Calls Try.prog 21 #[vP b 0] w0 fun e w' => e = .returned (.bool ((List.range l.length).all (stB l day off))) ∧ Below w0.heap.size w0 w' := by
  have hst := St.start w0 (Θ := fun _ => True) (fun _ _ => trivial)
  refine en_ Try.func21 hst 9 [(0, vP b 0)] (fun ac h => ?_)
  refine wp_seq ?_
  refine rg_ h [[0]] [K_ bF] (fun E1 => [(0, vP b 0), (2, bF)]) (hs := c_ mv_ <| e_) (k := fun E1 ac wd h_1 => ?_)
  clear h
  refine then_n (wp_seq ?_)
  refine rg_ h_1 (tri 7) [K_ (vP b 0), K_ (vP b 0), K_ (vP b 0), K_ (.slice ((some ⟨g, 0, none⟩)) l.length c), K_ (.bool (!(List.range l.length).all (stB l day off))), K_ (.bool ((List.range l.length).all (stB l day off))), K_ (.bool ((List.range l.length).all (stB l day off)))] (fun E2 => [(2, .bool ((List.range l.length).all (stB l day off)))]) (hs := c_ mv_ <| c_ (nc0 (vP b 0)) <| c_ (fa0 (vP b 0)) <| c_ (by refine s_v rfl rfl rfl rfl (fun {D env ac wd} hA => ?_); have e5 : ac.tmps[5]? = some (vP b 0) := hA.g rfl; have hc := (hR.grown hA.j.st.gr).cell; simp [go_sem, e5, hc]) <| c_ (s_callw rfl rfl rfl Try.func43 (by kernel_rfl) rfl rfl (fun _ => wanted_none rfl _) (fun {D env ac wd} hA => ⟨_, (by have e6 : ac.tmps[6]? = some (.slice ((some ⟨g, 0, none⟩)) l.length c) := hA.g rfl; simp [Act.eval, e6]), contains_any wd g c l day off (hR.grown hA.j.st.gr).hp hL⟩)) <| c_ (un0 (.bool (!(List.range l.length).all (stB l day off)))) <| c_ mv_ <| e_) (k := fun E2 ac wd h_2 => ?_)
  clear h_1
  refine then_n (wp_ret ?_)
  refine lvT Try.results21 h_2 ?_
  exact ⟨rfl, h_2.st.below⟩
set_option maxRecDepth 100000 in
set_option maxHeartbeats 8000000 in
theorem rNew_any (w0 : World) (A0 : Option Addr) (c0 : Nat) (l : List Sg) (hl : SegU w0 (.slice A0 l.length c0) l) (day off : Int) (hd0 : -9223372036854775808 ≤ day) (hd1 : day < 9223372036854775808) : Calls Try.prog 7 #[.slice A0 l.length c0, vI day, vI off] w0 fun e w' => ∃ v x, e = .returned (.tuple #[v, vI x]) ∧ Below w0.heap.size w0 w' ∧ (if mayS l day off = true then x = 0 ∧ IsRN w0.heap.size w' v l day off else x = 10 ∧ v = .pointer none) := by
  have hle := RowU_le hl
  have hst := St.start w0 (Θ := fun _ => True) (fun _ _ => trivial)
  refine en_ Try.func7 hst 98 [(0, .slice A0 l.length c0), (1, vI day), (2, vI off)] (fun ac h => ?_)
  replace h := h.facts
  refine wp_seq ?_
  refine rf_ h [[0],[0,1]] [K_ (.pointer none), K_ (vI 0)] (fun E1 => [(0, .slice A0 l.length c0), (1, vI day), (2, vI off), (6, .pointer none), (7, vI 0)]) (hs := c_ mv_ <| c_ mv_ <| e_) (k := fun E1 ac wd h_1 => ?_)
  clear h
  refine then_n (wp_seq (wp_seq ?_))
  cases hz : szL l day off
  refine rf_ h_1 [[0],[1],[2],r_ 4,r_ 5] [K_ (.slice A0 l.length c0), K_ (vI day), K_ (vI off), K_ bF, K_ bT] (fun E2 => [(0, .slice A0 l.length c0), (1, vI day), (2, vI off), (6, .pointer none), (7, vI 0), (18, bT)]) (hs := c_ mv_ <| c_ mv_ <| c_ mv_ <| c_ (cw_ Try.func16 (h := fun _ env _ wd hA => ⟨_, ((sizes_any wd A0 c0 l (hl.grown hA.j.st.gr) day off hd0 hd1).mono (fun e w' h => by rw [hz] at h; exact h)), rfl⟩)) <| c_ (un0 bF) <| e_) (k := fun E2 ac wd h_2 => ?_)
  clear h_1
  refine then_n ?_
  refine cT_ h_2 ?_
  refine wp_seq ?_
  refine rf_ h_2 [[0],[0,1]] [K_ (.pointer none), K_ (vI 10)] (fun E3 => [(0, .slice A0 l.length c0), (1, vI day), (2, vI off), (6, .pointer none), (7, vI 10)]) (hs := c_ mv_ <| c_ mv_ <| e_) (k := fun E3 ac wd h_3 => ?_)
  clear h_2
  refine then_n (wp_ret (then_ret ?_))
  have s6 := h_3.g (t := 6) rfl
  have s7 := h_3.g (t := 7) rfl
  refine leave (v := vT2 (.pointer none) (vI 10)) h_3.df (by simp [results, Try.results7, go_sem, Array.getD_eq_getD_getElem?, s6, s7]) ?_
  have hm : mayS l day off = false := by simp [mayS, hz]
  exact ⟨_, _, rfl, h_3.st.below, by rw [hm]; exact ⟨rfl, rfl⟩⟩
  have hL := szL_ok hz; have n0 := hL.n0; have n1 := hL.n1; have y0 := hL.y0; have y1 := hL.y1; have o0 := hL.o0; have o1 := hL.o1
  refine rf_ h_1 [[0],[1],[2],r_ 4,r_ 5] [K_ (.slice A0 l.length c0), K_ (vI day), K_ (vI off), K_ bT, K_ bF] (fun E2 => [(0, .slice A0 l.length c0), (1, vI day), (2, vI off), (6, .pointer none), (7, vI 0), (18, bF)]) (hs := c_ mv_ <| c_ mv_ <| c_ mv_ <| c_ (cw_ Try.func16 (h := fun _ env _ wd hA => ⟨_, ((sizes_any wd A0 c0 l (hl.grown hA.j.st.gr) day off hd0 hd1).mono (fun e w' h => by rw [hz] at h; exact h)), rfl⟩)) <| c_ (un0 bT) <| e_) (k := fun E2 ac wd h_2 => ?_)
  clear h_1
  refine then_n ?_
  refine cF_ h_2 ?_
  refine wp_skip (then_n (wp_seq ?_))
  refine rf_ h_2 (tri 3) [K_ (.agg #[.slice none 0 0]), KE_ fun env => vP (pb env 1) 0, KE_ fun env => vP (pb env 1) 0] (fun E3 => [(0, .slice A0 l.length c0), (1, vI day), (2, vI off), (6, .pointer none), (7, vI 0), (8, vP (pb E3 1) 0)]) (W := [{ i := 1, T := 57, c0 := [.slice none 0 0] }]) (M' := fun E3 => [((pb E3 1), 57, [.slice none 0 0])]) (hs := c_ (bd0 ([])) <| c_ (bx0 0 (.agg #[.slice none 0 0])) <| c_ mv_ <| e_) (k := fun E3 ac wd h_3 => ?_)
  clear h_2
  refine then_n (wp_seq (wp_seq ?_))
  refine rf_ h_3 [[0],[0,1],[2]] [K_ (.slice A0 l.length c0), K_ (vN l.length), K_ (vI 0)] (fun E4 => [(1, vI day), (2, vI off), (6, .pointer none), (7, vI 0), (8, vP (pb E3 1) 0), (21, .slice A0 l.length c0), (22, vN l.length), (23, vI 0)]) (hs := c_ mv_ <| c_ (ln_ Try.underlying22 fun _ env _ wd hA => (hl.grown hA.j.st.gr).els) <| c_ mv_ <| e_) (k := fun E4 ac wd h_4 => ?_)
  clear h_3
  refine then_n (wp_block ?_)
  refine wp_loop (fun ac wd => ∃ (v : Value) (i : Nat), i ≤ l.length ∧ Cur 98 w0 none none (Facts []) (fun w => OwnK 59 14 w w0.heap.size v i (rawL l i)) [(1, vI day), (2, vI off), (6, .pointer none), (7, vI 0), (8, vP (pb E3 1) 0), (21, .slice A0 l.length c0), (22, vN l.length), (23, vN i)] [((pb E3 1), 57, [v])] ac wd) (fun ac _ => ((l.length : Int) - sI ac 23).toNat) ⟨.slice none 0 0, 0, by omega, (h_4.re rfl).th (fun w _ => OwnK.nil w _)⟩ ?_
  rintro ac wd ⟨v, i, hi1, h_5⟩
  clear h_4
  have hmu : sI ac 23 = ((i : Nat) : Int) := sI_eq (h_5.g (t := 23) rfl)
  refine wp_seq ?_
  by_cases h1 : i < l.length
  have hs := hL.seg i h1; have b0 := hs.b0; have b1 := hs.b1; have f0 := hs.f0; have f1 := hs.f1; have r0 := hs.r0; have r1 := hs.r1; have d0 := hs.d0; have d1 := hs.d1
  refine rf_ h_5 [[0]] [K_ bT] (fun E6 => [(1, vI day), (2, vI off), (6, .pointer none), (7, vI 0), (8, vP (pb E3 1) 0), (21, .slice A0 l.length c0), (22, vN l.length), (23, vN i), (24, bT)]) (hs := c_ (bi0 (vN i) (vN l.length)) <| e_) (k := fun E6 ac wd h_6 => ?_)
  clear h_5
  refine then_n (wp_seq ?_)
  refine cT_ h_6 ?_
  refine wp_skip (then_n (wp_seq (wp_block (wp_seq ?_))))
  refine rf_ h_6 [[0],[0,1],[2],r_ 4] [K_ (elt (.slice A0 l.length c0) (i * 4)), K_ (vSg (sgi l i)), KE_ fun env => vP (pb env 2) 0, none] (fun E7 => [(1, vI day), (2, vI off), (6, .pointer none), (7, vI 0), (8, vP (pb E3 1) 0), (10, vP (pb E7 2) 0), (21, .slice A0 l.length c0), (22, vN l.length), (23, vN i), (24, bT), (25, elt (.slice A0 l.length c0) (i * 4)), (26, vSg (sgi l i))]) (W := [{ i := 2, T := 25, c0 := [vI 0, vI 0, vI 0, vI 0], s := some 3, c1 := fun _ => [vI ((sgi l i).d), vI ((sgi l i).b), vI ((sgi l i).f), vI ((sgi l i).r)] }]) (M' := fun E7 => [((pb E3 1), 57, [v]), ((pb E7 2), 25, [vI ((sgi l i).d), vI ((sgi l i).b), vI ((sgi l i).f), vI ((sgi l i).r)])]) (hs := c_ (ia_ Try.underlying22 sz25 i (i * 4) ((i : Nat) : Int) (fun _ env _ wd hA => (hl.grown hA.j.st.gr).els) (rfl) (by omega) rfl) <| c_ (le_ (i * 4) (fun _ env _ wd hA => (hl.grown hA.j.st.gr).els) (by omega) (le25 (by exact sgC_0 l i) (by exact sgC_1 l i) (by exact sgC_2 l i) (by exact sgC_3 l i))) <| c_ (al_ 1) <| c_ (sw_ 1 2 (hst := by exact fun _ _ _ hc => st25 rfl rfl rfl rfl rfl hc)) <| e_) (k := fun E7 ac wd h_7 => ?_)
  clear h_6
  refine then_n ?_
  refine rf_ h_7 [[0],[1],[1,2],[1,2,3],[1,2,3,4],[5],[5,6],[5,6,7],[1,2,3,4,5,6,7,8],r_ 10,r_ 11,r_ 12] [K_ (vP (pb E3 1) 0), K_ (vP (pb E3 1) 0), K_ (vP (pb E3 1) 0), K_ (vP (pb E3 1) 0), K_ v, K_ (vSg (sgi l i)), K_ (vPc ((sgi l i).d) ((sgi l i).b * 100000000000) (jn (sgi l i).f 0 0) ((sgi l i).r * 100000000000) 0 0), KE_ fun env => .slice (some ⟨(pb env 7), 0, none⟩) 1 1, KE_ fun env => .slice (sA (env 8)) (i + 1) (sC (env 8)), K_ (vP (pb E3 1) 0), K_ (vP (pb E3 1) 0), none] (fun E8 => [(1, vI day), (2, vI off), (6, .pointer none), (7, vI 0), (8, vP (pb E3 1) 0), (10, vP (pb E7 2) 0), (21, .slice A0 l.length c0), (22, vN l.length), (23, vN i), (24, bT), (25, elt (.slice A0 l.length c0) (i * 4)), (26, vSg (sgi l i)), (27, vP (pb E3 1) 0), (28, vP (pb E3 1) 0), (29, vP (pb E3 1) 0), (30, vP (pb E3 1) 0), (31, v), (32, vSg (sgi l i)), (33, vPc ((sgi l i).d) ((sgi l i).b * 100000000000) (jn (sgi l i).f 0 0) ((sgi l i).r * 100000000000) 0 0), (34, .slice (some ⟨(pb E8 7), 0, none⟩) 1 1), (35, .slice (sA (E8 8)) (i + 1) (sC (E8 8))), (36, vP (pb E3 1) 0), (37, vP (pb E3 1) 0)]) (S := [⟨0, 11, fun env => [.slice (sA (env 8)) (i + 1) (sC (env 8))]⟩]) (W := [{ i := 7, T := 59, c0 := [vI ((sgi l i).d), vI (hi ((sgi l i).b * 100000000000)), .int .u64 (lo ((sgi l i).b * 100000000000)), vI (hi (jn (sgi l i).f 0 0)), .int .u64 (lo (jn (sgi l i).f 0 0)), vI (hi (dayA)), .int .u64 (lo (dayA)), vI (hi (dayA + (sgi l i).r * 100000000000)), .int .u64 (lo (dayA + (sgi l i).r * 100000000000)), vI (hi ((sgi l i).r * 100000000000)), .int .u64 (lo ((sgi l i).r * 100000000000)), vI (hi (0)), .int .u64 (lo (0)), vI 0] }]) (th := (some (8, fun env w => OwnK 59 14 w w0.heap.size (.slice (sA (env 8)) (i + 1) (sC (env 8))) (i + 1) (rawL l i ++ [vI ((sgi l i).d), vI (hi ((sgi l i).b * 100000000000)), .int .u64 (lo ((sgi l i).b * 100000000000)), vI (hi (jn (sgi l i).f 0 0)), .int .u64 (lo (jn (sgi l i).f 0 0)), vI (hi (dayA)), .int .u64 (lo (dayA)), vI (hi (dayA + (sgi l i).r * 100000000000)), .int .u64 (lo (dayA + (sgi l i).r * 100000000000)), vI (hi ((sgi l i).r * 100000000000)), .int .u64 (lo ((sgi l i).r * 100000000000)), vI (hi (0)), .int .u64 (lo (0)), vI 0])))) (T := fun E8 => fun w => OwnK 59 14 w w0.heap.size (.slice (sA (E8 8)) (i + 1) (sC (E8 8))) (i + 1) (rawL l i ++ [vI ((sgi l i).d), vI (hi ((sgi l i).b * 100000000000)), .int .u64 (lo ((sgi l i).b * 100000000000)), vI (hi (jn (sgi l i).f 0 0)), .int .u64 (lo (jn (sgi l i).f 0 0)), vI (hi (dayA)), .int .u64 (lo (dayA)), vI (hi (dayA + (sgi l i).r * 100000000000)), .int .u64 (lo (dayA + (sgi l i).r * 100000000000)), vI (hi ((sgi l i).r * 100000000000)), .int .u64 (lo ((sgi l i).r * 100000000000)), vI (hi (0)), .int .u64 (lo (0)), vI 0])) (M' := fun E8 => [((pb E3 1), 57, [.slice (sA (E8 8)) (i + 1) (sC (E8 8))]), ((pb E7 2), 25, [vI ((sgi l i).d), vI ((sgi l i).b), vI ((sgi l i).f), vI ((sgi l i).r)]), ((pb E8 7), 59, [vI ((sgi l i).d), vI (hi ((sgi l i).b * 100000000000)), .int .u64 (lo ((sgi l i).b * 100000000000)), vI (hi (jn (sgi l i).f 0 0)), .int .u64 (lo (jn (sgi l i).f 0 0)), vI (hi (dayA)), .int .u64 (lo (dayA)), vI (hi (dayA + (sgi l i).r * 100000000000)), .int .u64 (lo (dayA + (sgi l i).r * 100000000000)), vI (hi ((sgi l i).r * 100000000000)), .int .u64 (lo ((sgi l i).r * 100000000000)), vI (hi (0)), .int .u64 (lo (0)), vI 0])]) (hs := c_ mv_ <| c_ mv_ <| c_ (nc0 (vP (pb E3 1) 0)) <| c_ (fa0 (vP (pb E3 1) 0)) <| c_ (ld_ 0 (hrd := by exact rd55 rfl)) <| c_ (ld_ 1 (hrd := by exact rd25 rfl rfl rfl rfl)) <| c_ (cl_ Try.func17 (h := fun env => ⟨_, (cut_core (sgi l i).d (sgi l i).b (sgi l i).f (sgi l i).r d0 d1 b0 b1 f0 f1 r0 r1), rfl⟩)) <| c_ (s_bsM rfl rfl 2 rfl rfl 1 rfl (fun {D env ac wd} hA => by have e33 : ac.tmps[33]? = some (vPc ((sgi l i).d) ((sgi l i).b * 100000000000) (jn (sgi l i).f 0 0) ((sgi l i).r * 100000000000) 0 0) := hA.g rfl; simp [go_sem, e33, Try.underlying55])) <| c_ (s_appS rfl rfl rfl rfl Try.underlying55 pc_info rfl (by omega) (by omega) rfl rfl (fun _ _ h => by cases h) rfl (fun _ h => h) [vI ((sgi l i).d), vI (hi ((sgi l i).b * 100000000000)), .int .u64 (lo ((sgi l i).b * 100000000000)), vI (hi (jn (sgi l i).f 0 0)), .int .u64 (lo (jn (sgi l i).f 0 0)), vI (hi (dayA)), .int .u64 (lo (dayA)), vI (hi (dayA + (sgi l i).r * 100000000000)), .int .u64 (lo (dayA + (sgi l i).r * 100000000000)), vI (hi ((sgi l i).r * 100000000000)), .int .u64 (lo ((sgi l i).r * 100000000000)), vI (hi (0)), .int .u64 (lo (0)), vI 0] rfl (by simp [Value.oneCell']) rfl (by omega) 7 2 rfl rfl rfl rfl rfl (fun _ => rfl) (fun hA => hA.e rfl)) <| c_ (nc0 (vP (pb E3 1) 0)) <| c_ (fa0 (vP (pb E3 1) 0)) <| c_ (se_ 0 (hst := by exact fun _ _ _ hc => st55 rfl rfl hc)) <| e_) (k := fun E8 ac wd h_8 => ?_)
  clear h_7
  refine blk_n (then_n ?_)
  refine rf_ h_8 [[0],[0,1]] [K_ (vI (((i : Nat) : Int) + 1)), K_ (vI (((i : Nat) : Int) + 1))] (fun E9 => [(1, vI day), (2, vI off), (6, .pointer none), (7, vI 0), (8, vP (pb E3 1) 0), (10, vP (pb E7 2) 0), (21, .slice A0 l.length c0), (22, vN l.length), (23, vI (((i : Nat) : Int) + 1)), (24, bT), (25, elt (.slice A0 l.length c0) (i * 4)), (26, vSg (sgi l i)), (27, vP (pb E3 1) 0), (28, vP (pb E3 1) 0), (29, vP (pb E3 1) 0), (30, vP (pb E3 1) 0), (31, v), (32, vSg (sgi l i)), (33, vPc ((sgi l i).d) ((sgi l i).b * 100000000000) (jn (sgi l i).f 0 0) ((sgi l i).r * 100000000000) 0 0), (34, .slice (some ⟨(pb E8 7), 0, none⟩) 1 1), (35, .slice (sA (E8 8)) (i + 1) (sC (E8 8))), (36, vP (pb E3 1) 0), (37, vP (pb E3 1) 0), (38, vI (((i : Nat) : Int) + 1))]) (hs := c_ (bi0 (vN i) (vI 1)) <| c_ mv_ <| e_) (k := fun E9 ac wd h_9 => ?_)
  clear h_8
  refine then_n ?_
  exact ⟨⟨.slice (sA (E8 8)) (i + 1) (sC (E8 8)), i + 1, by omega, ((h_9.take (M1 := [_]) rfl).re rfl).th (fun w hw => by rw [rawL_succ]; exact hw)⟩, by rw [sI_eq (h_9.g (t := 23) rfl), hmu]; omega⟩
  obtain rfl : i = l.length := by omega
  refine rf_ h_5 [[0]] [K_ bF] (fun E6 => [(1, vI day), (2, vI off), (6, .pointer none), (7, vI 0), (8, vP (pb E3 1) 0), (21, .slice A0 l.length c0), (22, vN l.length), (23, vN l.length), (24, bF)]) (hs := c_ (bi0 (vN l.length) (vN l.length)) <| e_) (k := fun E6 ac wd h_6 => ?_)
  clear h_5
  refine then_n (wp_seq ?_)
  refine cF_ h_6 ?_
  refine wp_exit (then_e (then_e (blk_x (then_n (wp_seq (wp_seq ?_))))))
  obtain ⟨g, c, rfl, hgB⟩ := OwnK.some h_6.st.nowT n0
  replace h_6 := Cur.exInK h_6 (fun _ h => h)
  rw [← pcS_zero l day off] at h_6
  refine rf_ h_6 [[0],[0,1],[0,1,2],r_ 4,r_ 5,[5]] [K_ (vP (pb E3 1) 0), K_ (vP (pb E3 1) 0), K_ (vP (pb E3 1) 0), K_ (.slice ((some ⟨g, 0, none⟩)) l.length c), K_ (vN l.length), K_ (vI 0)] (fun E7 => [(1, vI day), (2, vI off), (6, .pointer none), (7, vI 0), (8, vP (pb E3 1) 0), (43, vN l.length), (44, vI 0)]) (hs := c_ mv_ <| c_ (nc0 (vP (pb E3 1) 0)) <| c_ (fa0 (vP (pb E3 1) 0)) <| c_ (ld_ 0 (hrd := by exact rd55 rfl)) <| c_ (ln_ Try.underlying55 fun _ env _ wd hA => (OwnK.rowP (cellS_get l day off 0) (by omega) (hA.thO rfl)).els) <| c_ mv_ <| e_) (k := fun E7 ac wd h_7 => ?_)
  clear h_6
  refine then_n (wp_block ?_)
  refine wp_loop (fun ac wd => ∃ j : Nat, j ≤ l.length ∧ Cur 98 w0 none (some g) (Facts []) (fun w => OwnK 59 14 w w0.heap.size (.slice (some ⟨g, 0, none⟩) l.length c) l.length (pcS l day off j)) [(1, vI day), (2, vI off), (6, .pointer none), (7, vI 0), (8, vP (pb E3 1) 0), (43, vN l.length), (44, vN j)] [((pb E3 1), 57, [.slice ((some ⟨g, 0, none⟩)) l.length c])] ac wd) (fun ac _ => ((l.length : Int) - sI ac 44).toNat) ⟨0, by omega, (h_7.re rfl).th (fun _ h => h)⟩ ?_
  rintro ac wd ⟨j, hj1, h_8⟩
  clear h_7
  have hmu : sI ac 44 = ((j : Nat) : Int) := sI_eq (h_8.g (t := 44) rfl)
  refine wp_seq ?_
  by_cases h1 : j < l.length
  refine rf_ h_8 [[0]] [K_ bT] (fun E9 => [(1, vI day), (2, vI off), (6, .pointer none), (7, vI 0), (8, vP (pb E3 1) 0), (43, vN l.length), (44, vN j), (45, bT)]) (hs := c_ (bi0 (vN j) (vN l.length)) <| e_) (k := fun E9 ac wd h_9 => ?_)
  clear h_8
  refine then_n (wp_seq ?_)
  refine cT_ h_9 ?_
  refine wp_skip (then_n (wp_seq (wp_block (wp_seq ?_))))
  refine rf_ h_9 [[0],[0,1]] [K_ (vN j), K_ (vN j)] (fun E10 => [(1, vI day), (2, vI off), (6, .pointer none), (7, vI 0), (8, vP (pb E3 1) 0), (11, vN j), (43, vN l.length), (44, vN j), (45, bT), (46, vN j)]) (hs := c_ mv_ <| c_ mv_ <| e_) (k := fun E10 ac wd h_10 => ?_)
  clear h_9
  refine then_n (wp_seq ?_)
  refine rf_ h_10 [[0],[0,1],[0,1,2],r_ 4,[4],r_ 6,r_ 7] [K_ (vP (pb E3 1) 0), K_ (vP (pb E3 1) 0), K_ (vP (pb E3 1) 0), K_ (.slice ((some ⟨g, 0, none⟩)) l.length c), K_ (vN j), K_ (elt (.slice ((some ⟨g, 0, none⟩)) l.length c) (j * 14)), K_ (elt (.slice ((some ⟨g, 0, none⟩)) l.length c) (j * 14))] (fun E11 => [(1, vI day), (2, vI off), (6, .pointer none), (7, vI 0), (8, vP (pb E3 1) 0), (11, vN j), (12, elt (.slice ((some ⟨g, 0, none⟩)) l.length c) (j * 14)), (43, vN l.length), (44, vN j), (45, bT), (46, vN j), (47, vP (pb E3 1) 0), (48, vP (pb E3 1) 0), (49, vP (pb E3 1) 0), (50, .slice ((some ⟨g, 0, none⟩)) l.length c), (51, vN j), (52, elt (.slice ((some ⟨g, 0, none⟩)) l.length c) (j * 14))]) (hs := c_ mv_ <| c_ (nc0 (vP (pb E3 1) 0)) <| c_ (fa0 (vP (pb E3 1) 0)) <| c_ (ld_ 0 (hrd := by exact rd55 rfl)) <| c_ mv_ <| c_ (ia_ Try.underlying55 sz59 j (j * 14) ((j : Nat) : Int) (fun _ env _ wd hA => (OwnK.rowP (cellS_get l day off j) (by omega) (hA.thO rfl)).els) (rfl) (by omega) rfl) <| c_ mv_ <| e_) (k := fun E11 ac wd h_11 => ?_)
  clear h_10
  refine then_n (wp_seq (wp_seq ?_))
  by_cases h2 : j + 1 < l.length
  have hs := hL.seg (j + 1) h2; have d0 := hs.d0; have d1 := hs.d1; have hcn : Cn (jn (sgi l (j + 1)).d 0 0) := cn_jn (by omega) (by omega) (by omega) (by omega) (by omega) (by omega); have hnr := hcn.near; have eU : untS l day j = (sgi l (j + 1)).d := (by unfold untS; rw [if_pos h2]); have eE : endS l day off j = fS (sgi l (j + 1)) (jn (sgi l (j + 1)).d 0 0) := (by unfold endS; rw [if_pos h2])
  refine rf_ h_11 [[0],[0,1],[2],[2,3],[2,3,4],[2,3,4,5],[2,3,4,5,6],r_ 8] [K_ (vN j), K_ (vI (((j : Nat) : Int) + 1)), K_ (vP (pb E3 1) 0), K_ (vP (pb E3 1) 0), K_ (vP (pb E3 1) 0), K_ (.slice ((some ⟨g, 0, none⟩)) l.length c), K_ (vN l.length), K_ bT] (fun E12 => [(1, vI day), (2, vI off), (6, .pointer none), (7, vI 0), (8, vP (pb E3 1) 0), (11, vN j), (12, elt (.slice ((some ⟨g, 0, none⟩)) l.length c) (j * 14)), (43, vN l.length), (44, vN j), (45, bT), (46, vN j), (47, vP (pb E3 1) 0), (48, vP (pb E3 1) 0), (49, vP (pb E3 1) 0), (50, .slice ((some ⟨g, 0, none⟩)) l.length c), (51, vN j), (52, elt (.slice ((some ⟨g, 0, none⟩)) l.length c) (j * 14)), (53, vN j), (54, vI (((j : Nat) : Int) + 1)), (55, vP (pb E3 1) 0), (56, vP (pb E3 1) 0), (57, vP (pb E3 1) 0), (58, .slice ((some ⟨g, 0, none⟩)) l.length c), (59, vN l.length), (60, bT)]) (hs := c_ mv_ <| c_ (bi0 (vN j) (vI 1)) <| c_ mv_ <| c_ (nc0 (vP (pb E3 1) 0)) <| c_ (fa0 (vP (pb E3 1) 0)) <| c_ (ld_ 0 (hrd := by exact rd55 rfl)) <| c_ (ln_ Try.underlying55 fun _ env _ wd hA => (OwnK.rowP (cellS_get l day off j) (by omega) (hA.thO rfl)).els) <| c_ (bi0 (vI (((j : Nat) : Int) + 1)) (vN l.length)) <| e_) (k := fun E12 ac wd h_12 => ?_)
  clear h_11
  refine then_n ?_
  refine cT_ h_12 ?_
  refine wp_seq ?_
  refine rf_ h_12 [[0],[0,1],[0,1,2],r_ 4,[4],[4,5],r_ 7,r_ 8,[8],r_ 10] [K_ (vP (pb E3 1) 0), K_ (vP (pb E3 1) 0), K_ (vP (pb E3 1) 0), K_ (.slice ((some ⟨g, 0, none⟩)) l.length c), K_ (vN j), K_ (vI (((j : Nat) : Int) + 1)), K_ (elt (.slice ((some ⟨g, 0, none⟩)) l.length c) ((j + 1) * 14)), K_ (vPc ((sgi l (j + 1)).d) ((sgi l (j + 1)).b * 100000000000) (jn (sgi l (j + 1)).f 0 0) ((sgi l (j + 1)).r * 100000000000) 0 0), KE_ fun env => vP (pb env 8) 0, none] (fun E13 => [(1, vI day), (2, vI off), (6, .pointer none), (7, vI 0), (8, vP (pb E3 1) 0), (11, vN j), (12, elt (.slice ((some ⟨g, 0, none⟩)) l.length c) (j * 14)), (13, vP (pb E13 8) 0), (43, vN l.length), (44, vN j), (45, bT), (46, vN j), (47, vP (pb E3 1) 0), (48, vP (pb E3 1) 0), (49, vP (pb E3 1) 0), (50, .slice ((some ⟨g, 0, none⟩)) l.length c), (51, vN j), (52, elt (.slice ((some ⟨g, 0, none⟩)) l.length c) (j * 14)), (53, vN j), (54, vI (((j : Nat) : Int) + 1)), (55, vP (pb E3 1) 0), (56, vP (pb E3 1) 0), (57, vP (pb E3 1) 0), (58, .slice ((some ⟨g, 0, none⟩)) l.length c), (59, vN l.length), (60, bT), (61, vP (pb E3 1) 0), (62, vP (pb E3 1) 0), (63, vP (pb E3 1) 0), (64, .slice ((some ⟨g, 0, none⟩)) l.length c), (65, vN j), (66, vI (((j : Nat) : Int) + 1)), (67, elt (.slice ((some ⟨g, 0, none⟩)) l.length c) ((j + 1) * 14)), (68, vPc ((sgi l (j + 1)).d) ((sgi l (j + 1)).b * 100000000000) (jn (sgi l (j + 1)).f 0 0) ((sgi l (j + 1)).r * 100000000000) 0 0)]) (W := [{ i := 8, T := 59, c0 := [vI 0, vI 0, .int .u64 0, vI 0, .int .u64 0, vI 0, .int .u64 0, vI 0, .int .u64 0, vI 0, .int .u64 0, vI 0, .int .u64 0, vI 0], s := some 9, c1 := fun _ => [vI ((sgi l (j + 1)).d), vI (hi ((sgi l (j + 1)).b * 100000000000)), .int .u64 (lo ((sgi l (j + 1)).b * 100000000000)), vI (hi (jn (sgi l (j + 1)).f 0 0)), .int .u64 (lo (jn (sgi l (j + 1)).f 0 0)), vI (hi (dayA)), .int .u64 (lo (dayA)), vI (hi (dayA + (sgi l (j + 1)).r * 100000000000)), .int .u64 (lo (dayA + (sgi l (j + 1)).r * 100000000000)), vI (hi ((sgi l (j + 1)).r * 100000000000)), .int .u64 (lo ((sgi l (j + 1)).r * 100000000000)), vI (hi (0)), .int .u64 (lo (0)), vI 0] }]) (M' := fun E13 => [((pb E3 1), 57, [.slice ((some ⟨g, 0, none⟩)) l.length c]), ((pb E13 8), 59, [vI ((sgi l (j + 1)).d), vI (hi ((sgi l (j + 1)).b * 100000000000)), .int .u64 (lo ((sgi l (j + 1)).b * 100000000000)), vI (hi (jn (sgi l (j + 1)).f 0 0)), .int .u64 (lo (jn (sgi l (j + 1)).f 0 0)), vI (hi (dayA)), .int .u64 (lo (dayA)), vI (hi (dayA + (sgi l (j + 1)).r * 100000000000)), .int .u64 (lo (dayA + (sgi l (j + 1)).r * 100000000000)), vI (hi ((sgi l (j + 1)).r * 100000000000)), .int .u64 (lo ((sgi l (j + 1)).r * 100000000000)), vI (hi (0)), .int .u64 (lo (0)), vI 0])]) (hs := c_ mv_ <| c_ (nc0 (vP (pb E3 1) 0)) <| c_ (fa0 (vP (pb E3 1) 0)) <| c_ (ld_ 0 (hrd := by exact rd55 rfl)) <| c_ mv_ <| c_ (bi0 (vN j) (vI 1)) <| c_ (ia_ Try.underlying55 sz59 (j + 1) ((j + 1) * 14) (((j : Nat) : Int) + 1) (fun _ env _ wd hA => (OwnK.rowP (cellS_get l day off j) (by omega) (hA.thO rfl)).els) (by omega) (by omega) rfl) <| c_ (le_ ((j + 1) * 14) (fun _ env _ wd hA => (OwnK.rowP (cellS_get l day off j) (by omega) (hA.thO rfl)).els) (by omega) (le59 (by exact cellS_raw l day off (j := j) (i := (j + 1)) (by omega) 0 (by omega)) (by exact cellS_raw l day off (j := j) (i := (j + 1)) (by omega) 1 (by omega)) (by exact cellS_raw l day off (j := j) (i := (j + 1)) (by omega) 2 (by omega)) (by exact cellS_raw l day off (j := j) (i := (j + 1)) (by omega) 3 (by omega)) (by exact cellS_raw l day off (j := j) (i := (j + 1)) (by omega) 4 (by omega)) (by exact cellS_raw l day off (j := j) (i := (j + 1)) (by omega) 5 (by omega)) (by exact cellS_raw l day off (j := j) (i := (j + 1)) (by omega) 6 (by omega)) (by exact cellS_raw l day off (j := j) (i := (j + 1)) (by omega) 7 (by omega)) (by exact cellS_raw l day off (j := j) (i := (j + 1)) (by omega) 8 (by omega)) (by exact cellS_raw l day off (j := j) (i := (j + 1)) (by omega) 9 (by omega)) (by exact cellS_raw l day off (j := j) (i := (j + 1)) (by omega) 10 (by omega)) (by exact cellS_raw l day off (j := j) (i := (j + 1)) (by omega) 11 (by omega)) (by exact cellS_raw l day off (j := j) (i := (j + 1)) (by omega) 12 (by omega)) (by exact cellS_raw l day off (j := j) (i := (j + 1)) (by omega) 13 (by omega)))) <| c_ (al_ 1) <| c_ (sw_ 1 8 (hst := by exact fun _ _ _ hc => st59 rfl rfl rfl rfl rfl rfl rfl rfl rfl rfl rfl rfl rfl rfl rfl hc)) <| e_) (k := fun E13 ac wd h_13 => ?_)
  clear h_12
  refine then_n (wp_seq ?_)
  refine reg_cut mixed 12 [[0], [1], [2], [2, 3], [4], [5], [5, 6], [5, 6, 7], [4, 5, 6, 7, 8], [0, 2, 3, 4, 5, 6, 7, 8, 9], [0, 2, 3, 4, 5, 6, 7, 8, 9, 10], [0, 2, 3, 4, 5, 6, 7, 8, 9, 10, 11], [0, 1, 2, 3, 4, 5, 6, 7, 8, 9, 10, 11, 12], [0, 1, 2, 3, 4, 5, 6, 7, 8, 9, 10, 11, 12, 13], [0, 1, 2, 3, 4, 5, 6, 7, 8, 9, 10, 11, 12, 13, 14]] (by kernel_rfl) h_13 [some 69, some 70, some 71, some 72, some 73, some 74, some 75, some 76, some 77, some 78, some 79, none] [[0], [1], [2], [2, 3], [4], [5], [5, 6], [5, 6, 7], [4, 5, 6, 7, 8], [0, 2, 3, 4, 5, 6, 7, 8, 9], [0, 2, 3, 4, 5, 6, 7, 8, 9, 10], [0, 2, 3, 4, 5, 6, 7, 8, 9, 10, 11]] [] [] [some fun _ => elt (.slice ((some ⟨g, 0, none⟩)) l.length c) (j * 14), some fun _ => elt (.slice ((some ⟨g, 0, none⟩)) l.length c) (j * 14), some fun _ => vP (pb E13 8) 0, some fun _ => vI ((sgi l (j + 1)).d), some fun _ => vPc ((sgi l (j + 1)).d) ((sgi l (j + 1)).b * 100000000000) (jn (sgi l (j + 1)).f 0 0) ((sgi l (j + 1)).r * 100000000000) 0 0, some fun _ => vP (pb E13 8) 0, some fun _ => vI ((sgi l (j + 1)).d), some fun _ => vW (jn ((sgi l (j + 1)).d) 0 0), some fun _ => vW (fS (sgi l (j + 1)) (jn (sgi l (j + 1)).d 0 0)), some fun _ => elt (.slice ((some ⟨g, 0, none⟩)) l.length c) (j * 14), some fun _ => elt (.slice ((some ⟨g, 0, none⟩)) l.length c) (j * 14 + 13), none] [] (some (11, fun _ w => OwnK 59 14 w w0.heap.size (.slice ((some ⟨g, 0, none⟩)) l.length c) l.length ((pcS l day off j).set (0 + (j * 14 + 13)) (vI ((sgi l (j + 1)).d))))) rfl (by kernel_rfl) (by kernel_rfl) (sn (sn (sn (sn (sn (sn (sn (sn (sn (sn (sn (sn s0 ?_) ?_) ?_) ?_) ?_) ?_) ?_) ?_) ?_) ?_) ?_) ?_) ?_
  · exact mv_
  · exact mv_
  · exact (fa0 (vP (pb E13 8) 0))
  · exact (ld_ 1 (hrd := by exact rd3 rfl))
  · exact (ld_ 1 (hrd := by exact rd59 rfl rfl rfl rfl rfl rfl rfl rfl rfl rfl rfl rfl rfl rfl))
  · exact (fa0 (vP (pb E13 8) 0))
  · exact (ld_ 1 (hrd := by exact rd3 rfl))
  · exact (cl_ Try.func19 (h := fun env => ⟨_, (begin_any ((sgi l (j + 1)).d) (by omega) (by omega)), rfl⟩))
  · exact (cl_ Try.func18 (h := fun env => ⟨_, (pat_any (sgi l (j + 1)).d ((sgi l (j + 1)).b * 100000000000) (jn (sgi l (j + 1)).f 0 0) ((sgi l (j + 1)).r * 100000000000) 0 0 (jn (sgi l (j + 1)).d 0 0) hs.pc hnr), rfl⟩))
  · exact (nc0 (elt (.slice ((some ⟨g, 0, none⟩)) l.length c) (j * 14)))
  · exact s_fa rfl rfl rfl (fun _ => wanted_none rfl _) (j * 14) 13 (j * 14 + 13) rfl (s := fun _ => .slice ((some ⟨g, 0, none⟩)) l.length c) rfl (fun _ => rfl) (fun {D env ac wd} hA => OwnK.elsX (hA.thO rfl)) (by omega) (fun b q w => by simp [go_sem, Try.underlying59])
  · exact s_srK rfl rfl rfl rfl rfl rfl rfl (fun _ h => h) (0 + (j * 14 + 13)) rfl (fun _ => rfl) (fun _ => rfl) (by simp) (stK_int (by simp [pcS_len]) (by omega) ((sgi l (j + 1)).d))
  intro E14 ac wd hJ
  have h_14 : Cur 98 w0 none (some g) (Facts []) (fun w => OwnK 59 14 w w0.heap.size (.slice ((some ⟨g, 0, none⟩)) l.length c) l.length ((pcS l day off j).set (0 + (j * 14 + 13)) (vI ((sgi l (j + 1)).d)))) [(1, vI day), (2, vI off), (6, .pointer none), (7, vI 0), (8, vP (pb E3 1) 0), (11, vI (((j : Nat) : Int))), (12, elt (.slice ((some ⟨g, 0, none⟩)) l.length c) (j * 14)), (13, vP (pb E13 8) 0), (43, vI ((l.length : Int))), (44, vI (((j : Nat) : Int))), (45, .bool true), (46, vI (((j : Nat) : Int))), (47, vP (pb E3 1) 0), (48, vP (pb E3 1) 0), (49, vP (pb E3 1) 0), (50, .slice ((some ⟨g, 0, none⟩)) l.length c), (51, vI (((j : Nat) : Int))), (52, elt (.slice ((some ⟨g, 0, none⟩)) l.length c) (j * 14)), (53, vI (((j : Nat) : Int))), (54, vI (((j : Nat) : Int) + 1)), (55, vP (pb E3 1) 0), (56, vP (pb E3 1) 0), (57, vP (pb E3 1) 0), (58, .slice ((some ⟨g, 0, none⟩)) l.length c), (59, vI ((l.length : Int))), (60, .bool true), (61, vP (pb E3 1) 0), (62, vP (pb E3 1) 0), (63, vP (pb E3 1) 0), (64, .slice ((some ⟨g, 0, none⟩)) l.length c), (65, vI (((j : Nat) : Int))), (66, vI (((j : Nat) : Int) + 1)), (67, elt (.slice ((some ⟨g, 0, none⟩)) l.length c) ((j + 1) * 14)), (68, vPc ((sgi l (j + 1)).d) ((sgi l (j + 1)).b * 100000000000) (jn (sgi l (j + 1)).f 0 0) ((sgi l (j + 1)).r * 100000000000) 0 0), (69, elt (.slice ((some ⟨g, 0, none⟩)) l.length c) (j * 14)), (70, elt (.slice ((some ⟨g, 0, none⟩)) l.length c) (j * 14)), (71, vP (pb E13 8) 0), (72, vI ((sgi l (j + 1)).d)), (73, vPc ((sgi l (j + 1)).d) ((sgi l (j + 1)).b * 100000000000) (jn (sgi l (j + 1)).f 0 0) ((sgi l (j + 1)).r * 100000000000) 0 0), (74, vP (pb E13 8) 0), (75, vI ((sgi l (j + 1)).d)), (76, vW (jn ((sgi l (j + 1)).d) 0 0)), (77, vW (fS (sgi l (j + 1)) (jn (sgi l (j + 1)).d 0 0))), (78, elt (.slice ((some ⟨g, 0, none⟩)) l.length c) (j * 14)), (79, elt (.slice ((some ⟨g, 0, none⟩)) l.length c) (j * 14 + 13))] [((pb E3 1), 57, [.slice ((some ⟨g, 0, none⟩)) l.length c]), ((pb E13 8), 59, [vI ((sgi l (j + 1)).d), vI (hi ((sgi l (j + 1)).b * 100000000000)), .int .u64 (lo ((sgi l (j + 1)).b * 100000000000)), vI (hi (jn (sgi l (j + 1)).f 0 0)), .int .u64 (lo (jn (sgi l (j + 1)).f 0 0)), vI (hi (dayA)), .int .u64 (lo (dayA)), vI (hi (dayA + (sgi l (j + 1)).r * 100000000000)), .int .u64 (lo (dayA + (sgi l (j + 1)).r * 100000000000)), vI (hi ((sgi l (j + 1)).r * 100000000000)), .int .u64 (lo ((sgi l (j + 1)).r * 100000000000)), vI (hi (0)), .int .u64 (lo (0)), vI 0])] ac wd := hJ.curF rfl rfl rfl (fun _ h => h) rfl rfl rfl
  clear hJ h_13
  refine reg_rest h_14 [some 80, some 81, none] [[0], [0, 1], [0, 1, 2]] [] [] [some fun _ => elt (.slice ((some ⟨g, 0, none⟩)) l.length c) (j * 14), some fun _ => elt (.slice ((some ⟨g, 0, none⟩)) l.length c) (j * 14 + 11), none] [] (some (2, fun _ w => OwnK 59 14 w w0.heap.size (.slice ((some ⟨g, 0, none⟩)) l.length c) l.length ((((pcS l day off j).set (0 + (j * 14 + 13)) (vI ((sgi l (j + 1)).d))).set (0 + (j * 14 + 11)) (vI (hi (fS (sgi l (j + 1)) (jn (sgi l (j + 1)).d 0 0))))).set ((0 + (j * 14 + 11)) + 1) (.int .u64 (lo (fS (sgi l (j + 1)) (jn (sgi l (j + 1)).d 0 0))))))) rfl (by kernel_rfl) (by kernel_rfl) (by kernel_rfl) (sn (sn (sn s0 ?_) ?_) ?_) ?_
  · exact (nc0 (elt (.slice ((some ⟨g, 0, none⟩)) l.length c) (j * 14)))
  · exact s_fa rfl rfl rfl (fun _ => wanted_none rfl _) (j * 14) 11 (j * 14 + 11) rfl (s := fun _ => .slice ((some ⟨g, 0, none⟩)) l.length c) rfl (fun _ => rfl) (fun {D env ac wd} hA => OwnK.elsX (hA.thO rfl)) (by omega) (fun b q w => by simp [go_sem, Try.underlying59])
  · exact s_srK rfl rfl rfl rfl rfl rfl rfl (fun _ h => h) (0 + (j * 14 + 11)) rfl (fun _ => rfl) (fun _ => rfl) (by simp) (stK_wide (by simp [pcS_len]) (by omega) (fS (sgi l (j + 1)) (jn (sgi l (j + 1)).d 0 0)))
  intro E15 ac wd hJ
  have h_15 : Cur 98 w0 none (some g) (Facts []) (fun w => OwnK 59 14 w w0.heap.size (.slice ((some ⟨g, 0, none⟩)) l.length c) l.length ((((pcS l day off j).set (0 + (j * 14 + 13)) (vI ((sgi l (j + 1)).d))).set (0 + (j * 14 + 11)) (vI (hi (fS (sgi l (j + 1)) (jn (sgi l (j + 1)).d 0 0))))).set ((0 + (j * 14 + 11)) + 1) (.int .u64 (lo (fS (sgi l (j + 1)) (jn (sgi l (j + 1)).d 0 0)))))) [(1, vI day), (2, vI off), (6, .pointer none), (7, vI 0), (8, vP (pb E3 1) 0), (11, vI (((j : Nat) : Int))), (12, elt (.slice ((some ⟨g, 0, none⟩)) l.length c) (j * 14)), (13, vP (pb E13 8) 0), (43, vI ((l.length : Int))), (44, vI (((j : Nat) : Int))), (45, .bool true), (46, vI (((j : Nat) : Int))), (47, vP (pb E3 1) 0), (48, vP (pb E3 1) 0), (49, vP (pb E3 1) 0), (50, .slice ((some ⟨g, 0, none⟩)) l.length c), (51, vI (((j : Nat) : Int))), (52, elt (.slice ((some ⟨g, 0, none⟩)) l.length c) (j * 14)), (53, vI (((j : Nat) : Int))), (54, vI (((j : Nat) : Int) + 1)), (55, vP (pb E3 1) 0), (56, vP (pb E3 1) 0), (57, vP (pb E3 1) 0), (58, .slice ((some ⟨g, 0, none⟩)) l.length c), (59, vI ((l.length : Int))), (60, .bool true), (61, vP (pb E3 1) 0), (62, vP (pb E3 1) 0), (63, vP (pb E3 1) 0), (64, .slice ((some ⟨g, 0, none⟩)) l.length c), (65, vI (((j : Nat) : Int))), (66, vI (((j : Nat) : Int) + 1)), (67, elt (.slice ((some ⟨g, 0, none⟩)) l.length c) ((j + 1) * 14)), (68, vPc ((sgi l (j + 1)).d) ((sgi l (j + 1)).b * 100000000000) (jn (sgi l (j + 1)).f 0 0) ((sgi l (j + 1)).r * 100000000000) 0 0), (69, elt (.slice ((some ⟨g, 0, none⟩)) l.length c) (j * 14)), (70, elt (.slice ((some ⟨g, 0, none⟩)) l.length c) (j * 14)), (71, vP (pb E13 8) 0), (72, vI ((sgi l (j + 1)).d)), (73, vPc ((sgi l (j + 1)).d) ((sgi l (j + 1)).b * 100000000000) (jn (sgi l (j + 1)).f 0 0) ((sgi l (j + 1)).r * 100000000000) 0 0), (74, vP (pb E13 8) 0), (75, vI ((sgi l (j + 1)).d)), (76, vW (jn ((sgi l (j + 1)).d) 0 0)), (77, vW (fS (sgi l (j + 1)) (jn (sgi l (j + 1)).d 0 0))), (78, elt (.slice ((some ⟨g, 0, none⟩)) l.length c) (j * 14)), (79, elt (.slice ((some ⟨g, 0, none⟩)) l.length c) (j * 14 + 13)), (80, elt (.slice ((some ⟨g, 0, none⟩)) l.length c) (j * 14)), (81, elt (.slice ((some ⟨g, 0, none⟩)) l.length c) (j * 14 + 11))] [((pb E3 1), 57, [.slice ((some ⟨g, 0, none⟩)) l.length c]), ((pb E13 8), 59, [vI ((sgi l (j + 1)).d), vI (hi ((sgi l (j + 1)).b * 100000000000)), .int .u64 (lo ((sgi l (j + 1)).b * 100000000000)), vI (hi (jn (sgi l (j + 1)).f 0 0)), .int .u64 (lo (jn (sgi l (j + 1)).f 0 0)), vI (hi (dayA)), .int .u64 (lo (dayA)), vI (hi (dayA + (sgi l (j + 1)).r * 100000000000)), .int .u64 (lo (dayA + (sgi l (j + 1)).r * 100000000000)), vI (hi ((sgi l (j + 1)).r * 100000000000)), .int .u64 (lo ((sgi l (j + 1)).r * 100000000000)), vI (hi (0)), .int .u64 (lo (0)), vI 0])] ac wd := hJ.curF rfl rfl rfl (fun _ h => h) rfl rfl rfl
  clear hJ h_14
  refine then_n (wp_exit (then_e (blk_x (then_n ?_))))
  refine rf_ h_15 [[0],[0,1]] [K_ (vI (((j : Nat) : Int) + 1)), K_ (vI (((j : Nat) : Int) + 1))] (fun E16 => [(1, vI day), (2, vI off), (6, .pointer none), (7, vI 0), (8, vP (pb E3 1) 0), (11, vN j), (12, elt (.slice ((some ⟨g, 0, none⟩)) l.length c) (j * 14)), (13, vP (pb E13 8) 0), (43, vN l.length), (44, vI (((j : Nat) : Int) + 1)), (45, bT), (46, vN j), (47, vP (pb E3 1) 0), (48, vP (pb E3 1) 0), (49, vP (pb E3 1) 0), (50, .slice ((some ⟨g, 0, none⟩)) l.length c), (51, vN j), (52, elt (.slice ((some ⟨g, 0, none⟩)) l.length c) (j * 14)), (53, vN j), (54, vI (((j : Nat) : Int) + 1)), (55, vP (pb E3 1) 0), (56, vP (pb E3 1) 0), (57, vP (pb E3 1) 0), (58, .slice ((some ⟨g, 0, none⟩)) l.length c), (59, vN l.length), (60, bT), (61, vP (pb E3 1) 0), (62, vP (pb E3 1) 0), (63, vP (pb E3 1) 0), (64, .slice ((some ⟨g, 0, none⟩)) l.length c), (65, vN j), (66, vI (((j : Nat) : Int) + 1)), (67, elt (.slice ((some ⟨g, 0, none⟩)) l.length c) ((j + 1) * 14)), (68, vPc ((sgi l (j + 1)).d) ((sgi l (j + 1)).b * 100000000000) (jn (sgi l (j + 1)).f 0 0) ((sgi l (j + 1)).r * 100000000000) 0 0), (69, elt (.slice ((some ⟨g, 0, none⟩)) l.length c) (j * 14)), (70, elt (.slice ((some ⟨g, 0, none⟩)) l.length c) (j * 14)), (71, vP (pb E13 8) 0), (72, vI ((sgi l (j + 1)).d)), (73, vPc ((sgi l (j + 1)).d) ((sgi l (j + 1)).b * 100000000000) (jn (sgi l (j + 1)).f 0 0) ((sgi l (j + 1)).r * 100000000000) 0 0), (74, vP (pb E13 8) 0), (75, vI ((sgi l (j + 1)).d)), (76, vW (jn ((sgi l (j + 1)).d) 0 0)), (77, vW (fS (sgi l (j + 1)) (jn (sgi l (j + 1)).d 0 0))), (78, elt (.slice ((some ⟨g, 0, none⟩)) l.length c) (j * 14)), (79, elt (.slice ((some ⟨g, 0, none⟩)) l.length c) (j * 14 + 13)), (80, elt (.slice ((some ⟨g, 0, none⟩)) l.length c) (j * 14)), (81, elt (.slice ((some ⟨g, 0, none⟩)) l.length c) (j * 14 + 11)), (93, vI (((j : Nat) : Int) + 1))]) (hs := c_ (bi0 (vN j) (vI 1)) <| c_ mv_ <| e_) (k := fun E16 ac wd h_16 => ?_)
  clear h_15
  refine then_n ?_
  exact ⟨⟨j + 1, by omega, ((h_16.take (M1 := [_]) rfl).re rfl).th (fun w hw => by rw [← pcS_step, eU, eE]; exact hw)⟩, by rw [sI_eq (h_16.g (t := 44) rfl), hmu]; omega⟩
  have eU : untS l day j = day := (by unfold untS; rw [if_neg h2]); have eE : endS l day off j = jn day off 0 := (by unfold endS; rw [if_neg h2])
  refine rf_ h_11 [[0],[0,1],[2],[2,3],[2,3,4],[2,3,4,5],[2,3,4,5,6],r_ 8] [K_ (vN j), K_ (vI (((j : Nat) : Int) + 1)), K_ (vP (pb E3 1) 0), K_ (vP (pb E3 1) 0), K_ (vP (pb E3 1) 0), K_ (.slice ((some ⟨g, 0, none⟩)) l.length c), K_ (vN l.length), K_ bF] (fun E12 => [(1, vI day), (2, vI off), (6, .pointer none), (7, vI 0), (8, vP (pb E3 1) 0), (11, vN j), (12, elt (.slice ((some ⟨g, 0, none⟩)) l.length c) (j * 14)), (43, vN l.length), (44, vN j), (45, bT), (46, vN j), (47, vP (pb E3 1) 0), (48, vP (pb E3 1) 0), (49, vP (pb E3 1) 0), (50, .slice ((some ⟨g, 0, none⟩)) l.length c), (51, vN j), (52, elt (.slice ((some ⟨g, 0, none⟩)) l.length c) (j * 14)), (53, vN j), (54, vI (((j : Nat) : Int) + 1)), (55, vP (pb E3 1) 0), (56, vP (pb E3 1) 0), (57, vP (pb E3 1) 0), (58, .slice ((some ⟨g, 0, none⟩)) l.length c), (59, vN l.length), (60, bF)]) (hs := c_ mv_ <| c_ (bi0 (vN j) (vI 1)) <| c_ mv_ <| c_ (nc0 (vP (pb E3 1) 0)) <| c_ (fa0 (vP (pb E3 1) 0)) <| c_ (ld_ 0 (hrd := by exact rd55 rfl)) <| c_ (ln_ Try.underlying55 fun _ env _ wd hA => (OwnK.rowP (cellS_get l day off j) (by omega) (hA.thO rfl)).els) <| c_ (bi0 (vI (((j : Nat) : Int) + 1)) (vN l.length)) <| e_) (k := fun E12 ac wd h_12 => ?_)
  clear h_11
  refine then_n ?_
  refine cF_ h_12 ?_
  refine wp_skip (then_n ?_)
  refine reg_cut mixed 10 [[0], [1], [2], [3], [4], [3, 4, 5], [3, 4, 5, 6], [0, 2, 3, 4, 5, 6, 7], [0, 2, 3, 4, 5, 6, 7, 8], [0, 2, 3, 4, 5, 6, 7, 8, 9], [0, 1, 2, 3, 4, 5, 6, 7, 8, 9, 10], [0, 1, 2, 3, 4, 5, 6, 7, 8, 9, 10, 11], [0, 1, 2, 3, 4, 5, 6, 7, 8, 9, 10, 11, 12]] (by kernel_rfl) h_12 [some 82, some 83, some 84, some 85, some 86, some 87, some 88, some 89, some 90, none] [[0], [1], [2], [3], [4], [3, 4, 5], [3, 4, 5, 6], [0, 2, 3, 4, 5, 6, 7], [0, 2, 3, 4, 5, 6, 7, 8], [0, 2, 3, 4, 5, 6, 7, 8, 9]] [] [] [some fun _ => elt (.slice ((some ⟨g, 0, none⟩)) l.length c) (j * 14), some fun _ => elt (.slice ((some ⟨g, 0, none⟩)) l.length c) (j * 14), some fun _ => vI day, some fun _ => vI day, some fun _ => vI off, some fun _ => vL day off 0, some fun _ => vW (jn day off 0), some fun _ => elt (.slice ((some ⟨g, 0, none⟩)) l.length c) (j * 14), some fun _ => elt (.slice ((some ⟨g, 0, none⟩)) l.length c) (j * 14 + 13), none] [] (some (9, fun _ w => OwnK 59 14 w w0.heap.size (.slice ((some ⟨g, 0, none⟩)) l.length c) l.length ((pcS l day off j).set (0 + (j * 14 + 13)) (vI day)))) rfl (by kernel_rfl) (by kernel_rfl) (sn (sn (sn (sn (sn (sn (sn (sn (sn (sn s0 ?_) ?_) ?_) ?_) ?_) ?_) ?_) ?_) ?_) ?_) ?_
  · exact mv_
  · exact mv_
  · exact mv_
  · exact mv_
  · exact mv_
  · exact (bd0 ([vI day, vI off]))
  · exact (cl_ Try.func20 (h := fun env => ⟨_, (rcount_any day off 0 (by omega) (by omega) (by omega) (by omega) (by omega) (by omega)), rfl⟩))
  · exact (nc0 (elt (.slice ((some ⟨g, 0, none⟩)) l.length c) (j * 14)))
  · exact s_fa rfl rfl rfl (fun _ => wanted_none rfl _) (j * 14) 13 (j * 14 + 13) rfl (s := fun _ => .slice ((some ⟨g, 0, none⟩)) l.length c) rfl (fun _ => rfl) (fun {D env ac wd} hA => OwnK.elsX (hA.thO rfl)) (by omega) (fun b q w => by simp [go_sem, Try.underlying59])
  · exact s_srK rfl rfl rfl rfl rfl rfl rfl (fun _ h => h) (0 + (j * 14 + 13)) rfl (fun _ => rfl) (fun _ => rfl) (by simp) (stK_int (by simp [pcS_len]) (by omega) day)
  intro E13 ac wd hJ
  have h_13 : Cur 98 w0 none (some g) (Facts []) (fun w => OwnK 59 14 w w0.heap.size (.slice ((some ⟨g, 0, none⟩)) l.length c) l.length ((pcS l day off j).set (0 + (j * 14 + 13)) (vI day))) [(1, vI day), (2, vI off), (6, .pointer none), (7, vI 0), (8, vP (pb E3 1) 0), (11, vI (((j : Nat) : Int))), (12, elt (.slice ((some ⟨g, 0, none⟩)) l.length c) (j * 14)), (43, vI ((l.length : Int))), (44, vI (((j : Nat) : Int))), (45, .bool true), (46, vI (((j : Nat) : Int))), (47, vP (pb E3 1) 0), (48, vP (pb E3 1) 0), (49, vP (pb E3 1) 0), (50, .slice ((some ⟨g, 0, none⟩)) l.length c), (51, vI (((j : Nat) : Int))), (52, elt (.slice ((some ⟨g, 0, none⟩)) l.length c) (j * 14)), (53, vI (((j : Nat) : Int))), (54, vI (((j : Nat) : Int) + 1)), (55, vP (pb E3 1) 0), (56, vP (pb E3 1) 0), (57, vP (pb E3 1) 0), (58, .slice ((some ⟨g, 0, none⟩)) l.length c), (59, vI ((l.length : Int))), (60, .bool false), (82, elt (.slice ((some ⟨g, 0, none⟩)) l.length c) (j * 14)), (83, elt (.slice ((some ⟨g, 0, none⟩)) l.length c) (j * 14)), (84, vI day), (85, vI day), (86, vI off), (87, vL day off 0), (88, vW (jn day off 0)), (89, elt (.slice ((some ⟨g, 0, none⟩)) l.length c) (j * 14)), (90, elt (.slice ((some ⟨g, 0, none⟩)) l.length c) (j * 14 + 13))] [((pb E3 1), 57, [.slice ((some ⟨g, 0, none⟩)) l.length c])] ac wd := hJ.curF rfl rfl rfl (fun _ h => h) rfl rfl rfl
  clear hJ h_12
  refine reg_rest h_13 [some 91, some 92, none] [[0], [0, 1], [0, 1, 2]] [] [] [some fun _ => elt (.slice ((some ⟨g, 0, none⟩)) l.length c) (j * 14), some fun _ => elt (.slice ((some ⟨g, 0, none⟩)) l.length c) (j * 14 + 11), none] [] (some (2, fun _ w => OwnK 59 14 w w0.heap.size (.slice ((some ⟨g, 0, none⟩)) l.length c) l.length ((((pcS l day off j).set (0 + (j * 14 + 13)) (vI day)).set (0 + (j * 14 + 11)) (vI (hi (jn day off 0)))).set ((0 + (j * 14 + 11)) + 1) (.int .u64 (lo (jn day off 0)))))) rfl (by kernel_rfl) (by kernel_rfl) (by kernel_rfl) (sn (sn (sn s0 ?_) ?_) ?_) ?_
  · exact (nc0 (elt (.slice ((some ⟨g, 0, none⟩)) l.length c) (j * 14)))
  · exact s_fa rfl rfl rfl (fun _ => wanted_none rfl _) (j * 14) 11 (j * 14 + 11) rfl (s := fun _ => .slice ((some ⟨g, 0, none⟩)) l.length c) rfl (fun _ => rfl) (fun {D env ac wd} hA => OwnK.elsX (hA.thO rfl)) (by omega) (fun b q w => by simp [go_sem, Try.underlying59])
  · exact s_srK rfl rfl rfl rfl rfl rfl rfl (fun _ h => h) (0 + (j * 14 + 11)) rfl (fun _ => rfl) (fun _ => rfl) (by simp) (stK_wide (by simp [pcS_len]) (by omega) (jn day off 0))
  intro E14 ac wd hJ
  have h_14 : Cur 98 w0 none (some g) (Facts []) (fun w => OwnK 59 14 w w0.heap.size (.slice ((some ⟨g, 0, none⟩)) l.length c) l.length ((((pcS l day off j).set (0 + (j * 14 + 13)) (vI day)).set (0 + (j * 14 + 11)) (vI (hi (jn day off 0)))).set ((0 + (j * 14 + 11)) + 1) (.int .u64 (lo (jn day off 0))))) [(1, vI day), (2, vI off), (6, .pointer none), (7, vI 0), (8, vP (pb E3 1) 0), (11, vI (((j : Nat) : Int))), (12, elt (.slice ((some ⟨g, 0, none⟩)) l.length c) (j * 14)), (43, vI ((l.length : Int))), (44, vI (((j : Nat) : Int))), (45, .bool true), (46, vI (((j : Nat) : Int))), (47, vP (pb E3 1) 0), (48, vP (pb E3 1) 0), (49, vP (pb E3 1) 0), (50, .slice ((some ⟨g, 0, none⟩)) l.length c), (51, vI (((j : Nat) : Int))), (52, elt (.slice ((some ⟨g, 0, none⟩)) l.length c) (j * 14)), (53, vI (((j : Nat) : Int))), (54, vI (((j : Nat) : Int) + 1)), (55, vP (pb E3 1) 0), (56, vP (pb E3 1) 0), (57, vP (pb E3 1) 0), (58, .slice ((some ⟨g, 0, none⟩)) l.length c), (59, vI ((l.length : Int))), (60, .bool false), (82, elt (.slice ((some ⟨g, 0, none⟩)) l.length c) (j * 14)), (83, elt (.slice ((some ⟨g, 0, none⟩)) l.length c) (j * 14)), (84, vI day), (85, vI day), (86, vI off), (87, vL day off 0), (88, vW (jn day off 0)), (89, elt (.slice ((some ⟨g, 0, none⟩)) l.length c) (j * 14)), (90, elt (.slice ((some ⟨g, 0, none⟩)) l.length c) (j * 14 + 13)), (91, elt (.slice ((some ⟨g, 0, none⟩)) l.length c) (j * 14)), (92, elt (.slice ((some ⟨g, 0, none⟩)) l.length c) (j * 14 + 11))] [((pb E3 1), 57, [.slice ((some ⟨g, 0, none⟩)) l.length c])] ac wd := hJ.curF rfl rfl rfl (fun _ h => h) rfl rfl rfl
  clear hJ h_13
  refine blk_n (then_n ?_)
  refine rf_ h_14 [[0],[0,1]] [K_ (vI (((j : Nat) : Int) + 1)), K_ (vI (((j : Nat) : Int) + 1))] (fun E15 => [(1, vI day), (2, vI off), (6, .pointer none), (7, vI 0), (8, vP (pb E3 1) 0), (11, vN j), (12, elt (.slice ((some ⟨g, 0, none⟩)) l.length c) (j * 14)), (43, vN l.length), (44, vI (((j : Nat) : Int) + 1)), (45, bT), (46, vN j), (47, vP (pb E3 1) 0), (48, vP (pb E3 1) 0), (49, vP (pb E3 1) 0), (50, .slice ((some ⟨g, 0, none⟩)) l.length c), (51, vN j), (52, elt (.slice ((some ⟨g, 0, none⟩)) l.length c) (j * 14)), (53, vN j), (54, vI (((j : Nat) : Int) + 1)), (55, vP (pb E3 1) 0), (56, vP (pb E3 1) 0), (57, vP (pb E3 1) 0), (58, .slice ((some ⟨g, 0, none⟩)) l.length c), (59, vN l.length), (60, bF), (82, elt (.slice ((some ⟨g, 0, none⟩)) l.length c) (j * 14)), (83, elt (.slice ((some ⟨g, 0, none⟩)) l.length c) (j * 14)), (84, vI day), (85, vI day), (86, vI off), (87, vL day off 0), (88, vW (jn day off 0)), (89, elt (.slice ((some ⟨g, 0, none⟩)) l.length c) (j * 14)), (90, elt (.slice ((some ⟨g, 0, none⟩)) l.length c) (j * 14 + 13)), (91, elt (.slice ((some ⟨g, 0, none⟩)) l.length c) (j * 14)), (92, elt (.slice ((some ⟨g, 0, none⟩)) l.length c) (j * 14 + 11)), (93, vI (((j : Nat) : Int) + 1))]) (hs := c_ (bi0 (vN j) (vI 1)) <| c_ mv_ <| e_) (k := fun E15 ac wd h_15 => ?_)
  clear h_14
  refine then_n ?_
  exact ⟨⟨j + 1, by omega, ((h_15.take (M1 := [_]) rfl).re rfl).th (fun w hw => by rw [← pcS_step, eU, eE]; exact hw)⟩, by rw [sI_eq (h_15.g (t := 44) rfl), hmu]; omega⟩
  obtain rfl : j = l.length := by omega
  refine rf_ h_8 [[0]] [K_ bF] (fun E9 => [(1, vI day), (2, vI off), (6, .pointer none), (7, vI 0), (8, vP (pb E3 1) 0), (43, vN l.length), (44, vN l.length), (45, bF)]) (hs := c_ (bi0 (vN l.length) (vN l.length)) <| e_) (k := fun E9 ac wd h_9 => ?_)
  clear h_8
  refine then_n (wp_seq ?_)
  refine cF_ h_9 ?_
  refine wp_exit (then_e (then_e (blk_x (then_n (wp_seq (wp_seq ?_))))))
  cases hst2 : (List.range l.length).all (stB l day off)
  refine rf_ h_9 (tri 3) [K_ (vP (pb E3 1) 0), K_ bF, K_ bT] (fun E10 => [(6, .pointer none), (7, vI 0), (8, vP (pb E3 1) 0), (96, bT)]) (hs := c_ mv_ <| c_ (cw_ Try.func21 (h := fun _ env _ wd hA => ⟨_, ((steps_any wd (pb E3 1) g c l day off ⟨hA.own 0 rfl rfl trivial, OwnK.rowP (cellS_all l day off) (by omega) (hA.thO rfl)⟩ hL).mono (fun e w' h => by rw [hst2] at h; exact h)), rfl⟩)) <| c_ (un0 bF) <| e_) (k := fun E10 ac wd h_10 => ?_)
  clear h_9
  refine then_n ?_
  refine cT_ h_10 ?_
  refine wp_seq ?_
  refine rf_ h_10 [[0],[0,1]] [K_ (.pointer none), K_ (vI 10)] (fun E11 => [(6, .pointer none), (7, vI 10), (8, vP (pb E3 1) 0)]) (hs := c_ mv_ <| c_ mv_ <| e_) (k := fun E11 ac wd h_11 => ?_)
  clear h_10
  refine then_n (wp_ret (then_ret ?_))
  have s6 := h_11.g (t := 6) rfl
  have s7 := h_11.g (t := 7) rfl
  refine leave (v := vT2 (.pointer none) (vI 10)) h_11.df (by simp [results, Try.results7, go_sem, Array.getD_eq_getD_getElem?, s6, s7]) ?_
  have hm : mayS l day off = false := by simp [mayS, hst2]
  exact ⟨_, _, rfl, h_11.st.below, by rw [hm]; exact ⟨rfl, rfl⟩⟩
  refine rf_ h_9 (tri 3) [K_ (vP (pb E3 1) 0), K_ bT, K_ bF] (fun E10 => [(6, .pointer none), (7, vI 0), (8, vP (pb E3 1) 0), (96, bF)]) (hs := c_ mv_ <| c_ (cw_ Try.func21 (h := fun _ env _ wd hA => ⟨_, ((steps_any wd (pb E3 1) g c l day off ⟨hA.own 0 rfl rfl trivial, OwnK.rowP (cellS_all l day off) (by omega) (hA.thO rfl)⟩ hL).mono (fun e w' h => by rw [hst2] at h; exact h)), rfl⟩)) <| c_ (un0 bT) <| e_) (k := fun E10 ac wd h_10 => ?_)
  clear h_9
  refine then_n ?_
  refine cF_ h_10 ?_
  refine wp_skip (then_n (wp_seq ?_))
  refine rf_ h_10 (tri 3) [K_ (vP (pb E3 1) 0), K_ (vP (pb E3 1) 0), K_ (vI 0)] (fun E11 => [(6, vP (pb E3 1) 0), (7, vI 0)]) (hs := c_ mv_ <| c_ mv_ <| c_ mv_ <| e_) (k := fun E11 ac wd h_11 => ?_)
  clear h_10
  refine then_n (wp_ret ?_)
  have s6 := h_11.g (t := 6) rfl
  have s7 := h_11.g (t := 7) rfl
  refine leave (v := vT2 (vP (pb E3 1) 0) (vI 0)) h_11.df (by simp [results, Try.results7, go_sem, Array.getD_eq_getD_getElem?, s6, s7]) ?_
  have hm : mayS l day off = true := by simp [mayS, hz, hst2]
  exact ⟨_, _, rfl, h_11.st.below, by rw [hm]; exact ⟨rfl, _, g, c, rfl, ⟨(h_11.st.own 0 _ rfl).2, OwnK.rowP (cellS_all l day off) (by omega) h_11.st.nowT⟩, (h_11.st.own 0 _ rfl).1, hgB⟩⟩
end Go.Proofs.Ytdfkghpgekmmlaa
/- A Rubber as a call yields it; the published segments in memory. Own work. -/
namespace Go.Proofs.Ytdfkghpgekmmlaa
open Go.RowKit
set_option linter.unusedVariables false
set_option linter.unusedSimpArgs false
def NewX (ex : Option Nat) (w : World) (v : Value) (l : List Sg) (day off : Int) : Prop := v = .tuple #[tp v 0, vI 0] ∧ IsR ex w (tp v 0) l day off
def newF (v : Value) : Value := .tuple #[vP (ptrB (tp v 0)) 0, vI 0]
theorem NewX.form {ex : Option Nat} {w : World} {v : Value} {l : List Sg} {day off : Int} (h : NewX ex w v l day off) : v = newF v := by
  unfold newF
  rw [← h.2.form]
  exact h.1
theorem NewX.keep {ex : Option Nat} {w w' : World} {v : Value} {l : List Sg} {day off : Int} (h : NewX ex w v l day off) (hk : KeepT [57, 59] ex w w') : NewX ex w' v l day off := ⟨h.1, h.2.keep hk⟩
theorem Facts.isR {L : List (World → Prop)} {w : World} {ex : Option Nat} {v : Value} {l : List Sg} {day off : Int} (h : Facts L w) (k : Nat) (hk : L[k]? = some (fun w => NewX ex w v l day off)) : IsR ex w (tp v 0) l day off := (show NewX ex w v l day off from h.get k hk).2
theorem At.isR {R : Reg} {i : Nat} {D : Nat → Bool} {env : Env} {a : Act} {w : World} (h : At R i D env a w) (j : Nat) {ex : Option Nat} {l : List Sg} {day off : Int} (hj : ((R.cl.getD i []).contains j && !(j == i)) = true) (hs : ((R.cl.getD j []).contains j) = true) (hF : R.F.filter (fun p => Nat.beq p.1 j) = [(j, fun env w => NewX ex w (env j) l day off)]) : IsR ex w (tp (env j) 0) l day off := (h.fact j (φ := fun v w => NewX ex w v l day off) hj hs hF).2
theorem rNew_yes (w0 : World) (A0 : Option Addr) (c0 : Nat) (l : List Sg) (hl : SegU w0 (.slice A0 l.length c0) l) (day off : Int) (hd0 : -9223372036854775808 ≤ day) (hd1 : day < 9223372036854775808) (hm : mayS l day off = true) {ex : Option Nat} (hx : ∀ k, ex = some k → k < w0.heap.size) :
    Calls Try.prog 7 #[.slice A0 l.length c0, vI day, vI off] w0 fun e w' => ∃ v, e = .returned v ∧ Below w0.heap.size w0 w' ∧ NewX ex w' v l day off := by
  refine (rNew_any w0 A0 c0 l hl day off hd0 hd1).mono ?_
  rintro e w' ⟨v, x, rfl, hb, h⟩
  rw [if_pos hm] at h
  obtain ⟨rfl, h⟩ := h
  exact ⟨_, rfl, hb, rfl, h.x hx⟩
theorem rNew_no (w0 : World) (A0 : Option Addr) (c0 : Nat) (l : List Sg) (hl : SegU w0 (.slice A0 l.length c0) l) (day off : Int) (hd0 : -9223372036854775808 ≤ day) (hd1 : day < 9223372036854775808) (hm : mayS l day off = false) :
    Calls Try.prog 7 #[.slice A0 l.length c0, vI day, vI off] w0 fun e w' => e = .returned (vT2 (.pointer none) (vI 10)) ∧ Below w0.heap.size w0 w' := by
  refine (rNew_any w0 A0 c0 l hl day off hd0 hd1).mono ?_
  rintro e w' ⟨v, x, rfl, hb, h⟩
  rw [if_neg (by rw [hm]; simp)] at h
  obtain ⟨rfl, rfl⟩ := h
  exact ⟨rfl, hb⟩
section
variable {w0 : World} {ex : Option Nat} {v : Value} {l : List Sg} {day off : Int} (h : IsR ex w0 v l day off) (hL : LOk l day off)
include h hL
theorem first_X : Calls Try.prog 15 #[vP (ptrB v) 0] w0 fun e w' => e = .returned (vI (sgi l 0).d) ∧ Below w0.heap.size w0 w' := by
  obtain ⟨g, c, hR⟩ := h.at
  exact rFirst_any w0 _ g c l day off hR hL.n0
theorem tai_X (d s a : Int) (hd0 : -9223372036854775808 ≤ d) (hd1 : d < 9223372036854775808) : Calls Try.prog 10 #[vP (ptrB v) 0, vL d s a] w0 fun e w' => e = .returned (vT2 (vW (taiV l day off d s a)) (vI (taiE l day off d s a))) ∧ Below w0.heap.size w0 w' := by
  obtain ⟨g, c, hR⟩ := h.at
  exact tai_any w0 _ g c l day off hR hL d s a hd0 hd1
theorem label_X (t : Int) (ht : InW t) : Calls Try.prog 11 #[vP (ptrB v) 0, vW t] w0 fun e w' => e = .returned (vT2 (vL (labD l day off t) (labS l day off t) (labA l day off t)) (vI (labE l day off t))) ∧ Below w0.heap.size w0 w' := by
  obtain ⟨g, c, hR⟩ := h.at
  exact label_any w0 _ g c l day off hR hL t ht
end
/-- what a result comes to -/
theorem res_eq {P : Program} {f : FuncId} {args : Array Value} {w0 : World} {v v' : Value} (h : Calls P f args w0 fun e w' => e = .returned v ∧ Below w0.heap.size w0 w') (e : v = v') : Calls P f args w0 fun e w' => e = .returned v' ∧ Below w0.heap.size w0 w' := by subst e; exact h
/-- segments in memory that is new -/
def SegN (B : Nat) (w : World) (v : Value) (l : List Sg) : Prop := SegT w v l ∧ ∀ b, v.ownBlock = some b → B ≤ b
def segF (l : List Sg) (v : Value) : Value := .slice (sA v) l.length (sC v)
theorem SegN.form {B : Nat} {w : World} {v : Value} {l : List Sg} (h : SegN B w v l) : v = segF l v := h.1.form
theorem SegN.keep {B : Nat} {w w' : World} {v : Value} {l : List Sg} (h : SegN B w v l) (hk : KeepT [25] none w w') : SegN B w' v l := ⟨h.1.keep (Ts := [25]) rfl hk (fun _ h => by cases h), h.2⟩
theorem SegN.u {B : Nat} {w : World} {v : Value} {l : List Sg} (h : SegN B w v l) : SegU w (.slice (sA v) l.length (sC v)) l := h.1.u.re
theorem Facts.segN {L : List (World → Prop)} {w : World} {B : Nat} {v : Value} {l : List Sg} (h : Facts L w) (k : Nat) (hk : L[k]? = some (fun w => SegN B w v l)) : SegU w (.slice (sA v) l.length (sC v)) l := (show SegN B w v l from h.get k hk).u
theorem At.segN {R : Reg} {i : Nat} {D : Nat → Bool} {env : Env} {a : Act} {w : World} (h : At R i D env a w) (j : Nat) {B : Nat} {l : List Sg} (hj : ((R.cl.getD i []).contains j && !(j == i)) = true) (hs : ((R.cl.getD j []).contains j) = true) (hF : R.F.filter (fun p => Nat.beq p.1 j) = [(j, fun env w => SegN B w (env j) l)]) : SegU w (.slice (sA (env j)) l.length (sC (env j))) l := (h.fact j (φ := fun v w => SegN B w v l) hj hs hF).u
def pubC : Array Value := ((List.range 52).map (sgC pubS)).toArray
theorem pub_new (w : World) : SegN w.heap.size (w.alloc (.cells pubC 25)) (.slice (some ⟨w.heap.size, 0, none⟩) 13 13) pubS := by
  refine ⟨⟨_, 13, rfl, by decide, by decide, .inr ⟨w.heap.size, 0, pubC, _, rfl, heap_alloc_new w _, fun i hi => ?_⟩⟩, fun b hb => ?_⟩
  · have hi' : i < 52 := by have : pubS.length = 13 := rfl; omega
    simp [pubC, hi']
  · simp only [Value.ownBlock, Option.some.injEq] at hb; omega
theorem pub_new' (w : World) (c : Array Value) (hc : c = pubC) : SegN w.heap.size (w.alloc (.cells c 25)) (.slice (some ⟨w.heap.size, 0, none⟩) 13 13) pubS := by subst hc; exact pub_new w
set_option maxRecDepth 100000 in
set_option maxHeartbeats 4000000 in
theorem segments_any (w : World) : Calls Try.prog 5 #[] w fun e w' => ∃ v, e = .returned v ∧ Below w.heap.size w w' ∧ SegN w.heap.size w' v pubS := by
  go_enter Try.func5, Try.ntmps5
  go_wp2
  go_ret
  exact ⟨_, rfl, (by repeat (first | exact Below.refl _ _ | assumption | refine below_al ?_ _ | refine below_dr ?_ | refine below_drN ?_ _ | refine below_set ?_ (by simp; try omega) _ | (refine below_to ?_ (by assumption)))), pub_new' w _ (by kernel_rfl)⟩
theorem pub_may : mayS pubS 41317 10 = true := by decide +kernel
theorem pub_ok : MOk pubS 41317 10 := mayS_ok pub_may
end Go.Proofs.Ytdfkghpgekmmlaa
/- What the laws of layer 14 want of the answers. Own work. -/
namespace Go.Proofs.Ytdfkghpgekmmlaa
open Go.RowKit
set_option linter.unusedVariables false
set_option linter.unusedSimpArgs false
/-- a number and an error -/
def TaiX (B : Nat) (w : World) (v : Value) (z e : Int) : Prop := v = .tuple #[tp v 0, vI e] ∧ BigN B w (tp v 0) z
def taiF (z e : Int) (v : Value) : Value := .tuple #[bigF z (tp v 0), vI e]
theorem TaiX.form {B : Nat} {w : World} {v : Value} {z e : Int} (h : TaiX B w v z e) : v = taiF z e v := by
  unfold taiF
  rw [← h.2.form]
  exact h.1
theorem TaiX.keep {B : Nat} {w w' : World} {v : Value} {z e : Int} (h : TaiX B w v z e) (hk : Keep none w w') : TaiX B w' v z e := ⟨h.1, h.2.keep hk⟩
theorem Facts.taiX {L : List (World → Prop)} {w : World} {B : Nat} {v : Value} {z e : Int} (h : Facts L w) (k : Nat) (hk : L[k]? = some (fun w => TaiX B w v z e)) : Row w (.slice (bA (tp v 0)) (digs z).length (bC (tp v 0))) (digs z) := (BigN.row (show TaiX B w v z e from h.get k hk).2).1
theorem At.taiX {R : Reg} {i : Nat} {D : Nat → Bool} {env : Env} {a : Act} {w : World} (h : At R i D env a w) (j : Nat) {B : Nat} {z e : Int} (hj : ((R.cl.getD i []).contains j && !(j == i)) = true) (hs : ((R.cl.getD j []).contains j) = true) (hF : R.F.filter (fun p => Nat.beq p.1 j) = [(j, fun env w => TaiX B w (env j) z e)]) : Row w (.slice (bA (tp (env j) 0)) (digs z).length (bC (tp (env j) 0))) (digs z) := (BigN.row (h.fact j (φ := fun v w => TaiX B w v z e) hj hs hF).2).1
theorem toTaiX {P : Program} {f : FuncId} {args : Array Value} {w : World} {z e : Int} {B : Nat} (hB : B ≤ w.heap.size) (h : Calls P f args w fun x w' => ∃ v, x = .returned (.tuple #[v, vI e]) ∧ Below w.heap.size w w' ∧ BigN w.heap.size w' v z) : Calls P f args w fun x w' => ∃ v, x = .returned v ∧ Below w.heap.size w w' ∧ TaiX B w' v z e := by
  refine h.mono ?_
  rintro x w' ⟨v, rfl, hb, h1⟩
  obtain ⟨A, c, rfl, h2, h3⟩ := h1
  exact ⟨_, rfl, hb, rfl, A, c, rfl, h2, fun b hb' => Nat.le_trans hB (h3 b hb')⟩
section
variable {l : List Sg} {day off : Int}
theorem taiV_bd (h : MOk l day off) (d s a : Int) : -100000000000000000000000000000 ≤ taiV l day off d s a ∧ taiV l day off d s a ≤ 100000000000000000000000000000 := by
  by_cases he : taiE l day off d s a = 0
  · obtain ⟨hs, ha, hk, h1, h2, h3, h4, h5⟩ := tai_ok h he
    have hb := begS_bd h.toLOk hk
    have hc := h.toLOk.end_bd hk
    have h6 : begS l (kS l d l.length) ≤ fS (sgi l (kS l d l.length)) (jn d s a) := (fS_le (h.seg _ hk)).2 (by unfold jn; omega)
    rw [h5]; omega
  · unfold taiV; rw [if_neg he]; omega
theorem taiV_in (h : MOk l day off) (d s a : Int) : InW (taiV l day off d s a) := by
  have := taiV_bd h d s a
  unfold InW; omega
theorem taiV_no {d s a : Int} (he : ¬ taiE l day off d s a = 0) : taiV l day off d s a = 0 := by unfold taiV; rw [if_neg he]
theorem lab_64 (h : MOk l day off) (t : Int) : (-9223372036854775808 ≤ labD l day off t ∧ labD l day off t < 9223372036854775808) := by
  by_cases he : labE l day off t = 0
  · obtain ⟨h1, h2⟩ := lab_tai h he
    obtain ⟨hs, ha, hk, h3, h4, h5, h6, h7⟩ := tai_ok h h1
    have := h.toLOk.unt_day hk
    have := (h.seg _ hk).d0
    have := h.y1
    omega
  · unfold labD; rw [if_neg he]; omega
end
theorem segments_up {B : Nat} {w : World} (hB : B ≤ w.heap.size) : Calls Try.prog 5 #[] w fun e w' => ∃ v, e = .returned v ∧ Below w.heap.size w w' ∧ SegN B w' v pubS := by
  refine (segments_any w).mono ?_
  rintro e w' ⟨v, rfl, hb, h1, h2⟩
  exact ⟨v, rfl, hb, h1, fun b hb' => Nat.le_trans hB (h2 b hb')⟩
theorem tt_eq {a b a' b' : Value} (h1 : a = a') (h2 : b = b') : vT2 a b = vT2 a' b' := by rw [h1, h2]
theorem lab_val {l : List Sg} {day off : Int} (h : MOk l day off) {d s a : Int} (he : taiE l day off d s a = 0) : vT2 (vL (labD l day off (taiV l day off d s a)) (labS l day off (taiV l day off d s a)) (labA l day off (taiV l day off d s a))) (vI (labE l day off (taiV l day off d s a))) = vT2 (vL d s a) (vI 0) := by
  obtain ⟨q1, q2, q3, q4⟩ := tai_lab h he
  rw [q1, q2, q3, q4]
theorem pub_t1 : vT2 (vW (taiV pubS 41317 10 37300 0 0)) (vI (taiE pubS 41317 10 37300 0 0)) = vT2 (vW 3222720001422818000000000000) (vI 0) := by
  rw [show taiV pubS 41317 10 37300 0 0 = 3222720001422818000000000000 by decide +kernel, show taiE pubS 41317 10 37300 0 0 = 0 by decide +kernel]
theorem pub_t2 : taiE pubS 41317 10 41316 86400 107759000000000000 = 6 := by decide +kernel
theorem pub_l1 : vT2 (vL (labD pubS 41317 10 3222720001422818000000000000) (labS pubS 41317 10 3222720001422818000000000000) (labA pubS 41317 10 3222720001422818000000000000)) (vI (labE pubS 41317 10 3222720001422818000000000000)) = vT2 (vL 37300 0 0) (vI 0) := by
  rw [show labD pubS 41317 10 3222720001422818000000000000 = 37300 by decide +kernel, show labS pubS 41317 10 3222720001422818000000000000 = 0 by decide +kernel, show labA pubS 41317 10 3222720001422818000000000000 = 0 by decide +kernel, show labE pubS 41317 10 3222720001422818000000000000 = 0 by decide +kernel]
end Go.Proofs.Ytdfkghpgekmmlaa
/- layer 14's answers (printed by my walk.py) -/
namespace Go.Proofs.Ytdfkghpgekmmlaa
open Go.RowKit
set_option linter.unusedVariables false
set_option linter.unusedSimpArgs false
attribute [local go_sem] vN bT bF rS vSg vW vM vL vT2 vT3 vP vI execOp Act.eval evC bigF vB hi_zero lo_zero Try.underlying36 Try.underlying39

set_option maxRecDepth 100000 in
set_option maxHeartbeats 8000000 in
theorem answers14_any  : Ret 8 #[] (.bool true) := by
  intro w0
  have hst := St.start w0 (Θ := fun _ => True) (fun _ _ => trivial)
  refine en_ Try.func8 hst 60 [] (fun ac h => ?_)
  replace h := h.facts
  refine wp_seq ?_
  refine rf_ h [[0]] [K_ bF] (fun E1 => [(0, bF)]) (hs := c_ mv_ <| e_) (k := fun E1 ac wd h_1 => ?_)
  clear h
  refine then_n (wp_seq ?_)
  refine rf_ h_1 [[0],[0,1],[0,1,2],r_ 4,[0,1,2,4],[0,1,2,3,5],r_ 7] [KE_ fun env => .slice ((sA (env 0))) pubS.length ((sC (env 0))), KE_ fun env => vT2 (vP (ptrB (tp (env 1) 0)) 0) (vI 0), KE_ fun env => vT2 (vP (ptrB (tp (env 1) 0)) 0) (vI 0), KE_ fun env => vP (ptrB (tp (env 1) 0)) 0, K_ (vI 0), KE_ fun env => vP (ptrB (tp (env 1) 0)) 0, K_ (vI 0)] (fun E2 => [(0, bF), (1, vP (ptrB (tp (E2 1) 0)) 0), (2, vI 0)]) (F := [(0, fun env w => SegN w0.heap.size w (env 0) pubS), (1, fun env w => NewX none w (env 1) pubS 41317 10)]) (L1 := fun E2 => [fun w => SegN w0.heap.size w (E2 0) pubS, fun w => NewX none w (E2 1) pubS 41317 10]) (hs := c_ (s_factT rfl rfl rfl Try.func5 (by kernel_rfl) rfl (fun _ => wanted_none rfl _) (fun v w => SegN w0.heap.size w v pubS) (segF pubS) rfl rfl [25] rfl (fun v w h => h.form) (fun v w w' hk h => h.keep hk) (fun {D env ac wd} hA => ⟨_, hA.args (vs := []) rfl, segments_up hA.j.st.gr.size⟩)) <| c_ (s_factT rfl rfl rfl Try.func7 (by kernel_rfl) rfl (fun _ => wanted_none rfl _) (fun v w => NewX none w v pubS 41317 10) newF rfl rfl [57, 59] rfl (fun v w h => h.form) (fun v w w' hk h => h.keep hk) (fun {D env ac wd} hA => ⟨_, hA.args (vs := [.slice ((sA (env 0))) pubS.length ((sC (env 0))), vI 41317, vI 10]) rfl, rNew_yes wd ((sA (env 0))) ((sC (env 0))) pubS (At.segN hA 0 rfl rfl rfl) 41317 10 (by omega) (by omega) pub_may (fun k h => by cases h)⟩)) <| c_ mv_ <| c_ ext_ <| c_ ext_ <| c_ mv_ <| c_ mv_ <| e_) (k := fun E2 ac wd h_2 => ?_)
  clear h_1
  refine then_n (wp_seq ?_)
  refine rf_ h_2 [[0],[1],[0,1,2],r_ 4,r_ 5,[0,1,2,3,5],[6],[0,1,2,3,4,6,7],r_ 9] [K_ (vP (ptrB (tp (E2 1) 0)) 0), K_ (vL 37300 0 0), K_ (vT2 (vW 3222720001422818000000000000) (vI 0)), K_ (vT2 (vW 3222720001422818000000000000) (vI 0)), K_ (vW 3222720001422818000000000000), K_ (vI 0), KE_ fun env => vP (pb env 6) 0, none, K_ (vI 0)] (fun E3 => [(0, bF), (1, vP (ptrB (tp (E2 1) 0)) 0), (2, vI 0), (3, vP (pb E3 6) 0), (4, vI 0)]) (W := [{ i := 6, T := 39, c0 := [vI 0, .int .u64 0], s := some 7, c1 := fun _ => [vI (hi (3222720001422818000000000000)), .int .u64 (lo (3222720001422818000000000000))] }]) (M' := fun E3 => [((pb E3 6), 39, [vI (hi (3222720001422818000000000000)), .int .u64 (lo (3222720001422818000000000000))])]) (hs := c_ mv_ <| c_ (bd0 ([vI 37300])) <| c_ (cw_ Try.func10 (h := fun _ env _ wd hA => ⟨_, (res_eq (tai_X (Facts.isR (hA.j.st.now).1 1 rfl) pub_ok.toLOk 37300 0 0 (by omega) (by omega)) pub_t1), rfl⟩)) <| c_ mv_ <| c_ ext_ <| c_ ext_ <| c_ (al_ 0) <| c_ (sw_ 0 6 (hst := by exact fun _ _ _ hc => st39 rfl rfl rfl hc)) <| c_ mv_ <| e_) (k := fun E3 ac wd h_3 => ?_)
  clear h_2
  refine then_n (wp_seq ?_)
  refine rf_ h_3 [[0],[1],[0,1,2],r_ 4,r_ 5,[0,1,2,3,5],[6],[0,1,2,3,4,6,7],r_ 9] [K_ (vP (ptrB (tp (E2 1) 0)) 0), K_ (vW 3222720001422818000000000000), K_ (vT2 (vL 37300 0 0) (vI 0)), K_ (vT2 (vL 37300 0 0) (vI 0)), K_ (vL 37300 0 0), K_ (vI 0), KE_ fun env => vP (pb env 6) 0, none, K_ (vI 0)] (fun E4 => [(0, bF), (1, vP (ptrB (tp (E2 1) 0)) 0), (2, vI 0), (3, vP (pb E3 6) 0), (4, vI 0), (5, vP (pb E4 6) 0), (6, vI 0)]) (W := [{ i := 6, T := 36, c0 := [vI 0, vI 0, vI 0], s := some 7, c1 := fun _ => [vI 37300, vI 0, vI 0] }]) (M' := fun E4 => [((pb E3 6), 39, [vI (hi (3222720001422818000000000000)), .int .u64 (lo (3222720001422818000000000000))]), ((pb E4 6), 36, [vI 37300, vI 0, vI 0])]) (hs := c_ mv_ <| c_ (ld_ 0 (hrd := by exact rd39 rfl rfl)) <| c_ (cw_ Try.func11 (h := fun _ env _ wd hA => ⟨_, (res_eq (label_X (Facts.isR (hA.j.st.now).1 1 rfl) pub_ok.toLOk 3222720001422818000000000000 (by unfold InW; omega)) pub_l1), rfl⟩)) <| c_ mv_ <| c_ ext_ <| c_ ext_ <| c_ (al_ 1) <| c_ (sw_ 1 6 (hst := by exact fun _ _ _ hc => st36 rfl rfl rfl rfl hc)) <| c_ mv_ <| e_) (k := fun E4 ac wd h_4 => ?_)
  clear h_3
  refine then_n (wp_seq ?_)
  refine rf_ h_4 [[0],[1],[0,1,2],r_ 4,r_ 5,[0,1,2,3,5],[6],[0,1,2,3,4,6,7],r_ 9] [K_ (vP (ptrB (tp (E2 1) 0)) 0), K_ (vL 41316 86400 107759000000000000), K_ (vT2 (vW (taiV pubS 41317 10 41316 86400 107759000000000000)) (vI 6)), K_ (vT2 (vW (taiV pubS 41317 10 41316 86400 107759000000000000)) (vI 6)), K_ (vW (taiV pubS 41317 10 41316 86400 107759000000000000)), K_ (vI 6), KE_ fun env => vP (pb env 6) 0, none, K_ (vI 6)] (fun E5 => [(0, bF), (2, vI 0), (3, vP (pb E3 6) 0), (4, vI 0), (5, vP (pb E4 6) 0), (6, vI 0), (8, vI 6)]) (W := [{ i := 6, T := 39, c0 := [vI 0, .int .u64 0], s := some 7, c1 := fun _ => [vI (hi (taiV pubS 41317 10 41316 86400 107759000000000000)), .int .u64 (lo (taiV pubS 41317 10 41316 86400 107759000000000000))] }]) (M' := fun E5 => [((pb E3 6), 39, [vI (hi (3222720001422818000000000000)), .int .u64 (lo (3222720001422818000000000000))]), ((pb E4 6), 36, [vI 37300, vI 0, vI 0]), ((pb E5 6), 39, [vI (hi (taiV pubS 41317 10 41316 86400 107759000000000000)), .int .u64 (lo (taiV pubS 41317 10 41316 86400 107759000000000000))])]) (hs := c_ mv_ <| c_ (bd0 ([vI 41316, vI 86400, vI 107759000000000000])) <| c_ (cw_ Try.func10 (h := fun _ env _ wd hA => ⟨_, (res_eq (tai_X (Facts.isR (hA.j.st.now).1 1 rfl) pub_ok.toLOk 41316 86400 107759000000000000 (by omega) (by omega)) (tt_eq rfl (congrArg vI pub_t2))), rfl⟩)) <| c_ mv_ <| c_ ext_ <| c_ ext_ <| c_ (al_ 2) <| c_ (sw_ 2 6 (hst := by exact fun _ _ _ hc => st39 rfl rfl rfl hc)) <| c_ mv_ <| e_) (k := fun E5 ac wd h_5 => ?_)
  clear h_4
  refine then_n (wp_seq ?_)
  refine rf_ h_5 [[0],[0,1],[0,1,2],r_ 4,r_ 5,r_ 6,r_ 7,r_ 8,r_ 9,[0,1,2,3,4,5,6,9],r_ 11,r_ 12,r_ 13,r_ 14,r_ 15,r_ 16,r_ 17,r_ 18,r_ 19,r_ 20,r_ 21,[0,1,2,3,4,5,6,7,8,9,10,11,12,13,14,15,16,17,18,19,21],r_ 23,r_ 24,r_ 25,r_ 26,r_ 27,r_ 28,r_ 29] [K_ (vI 0), K_ bT, K_ bT, K_ (vI 0), K_ bT, K_ bT, K_ bT, K_ (vW 3222720001422818000000000000), KE_ fun env => bigF 3222720001422818000000000000 (env 8), K_ (vL 37300 0 0), KE_ fun env => bigF (jn 37300 0 0) (env 10), KE_ fun env => bigF 1422818000000000000 (env 11), KE_ fun env => bigF ((jn 37300 0 0) + 1422818000000000000) (env 12), K_ bT, K_ bT, K_ bT, K_ (vI 0), K_ bT, K_ bT, K_ bT, K_ (vL 37300 0 0), K_ (vL 37300 0 0), K_ bT, K_ bT, K_ bT, K_ (vI 6), K_ bT, K_ bT, K_ bT] (fun E6 => [(0, bT)]) (F := [(8, fun env w => BigN w0.heap.size w (env 8) 3222720001422818000000000000), (10, fun env w => BigN w0.heap.size w (env 10) (jn 37300 0 0)), (11, fun env w => BigN w0.heap.size w (env 11) 1422818000000000000), (12, fun env w => BigN w0.heap.size w (env 12) ((jn 37300 0 0) + 1422818000000000000))]) (L1 := fun E6 => [fun w => SegN w0.heap.size w (E2 0) pubS, fun w => NewX none w (E2 1) pubS 41317 10, fun w => BigN w0.heap.size w (E6 8) 3222720001422818000000000000, fun w => BigN w0.heap.size w (E6 10) (jn 37300 0 0), fun w => BigN w0.heap.size w (E6 11) 1422818000000000000, fun w => BigN w0.heap.size w (E6 12) ((jn 37300 0 0) + 1422818000000000000)]) (hs := c_ mv_ <| c_ (bi0 (vI 0) (vI 0) (h := by intro env w; (first | (simp [go_sem]; done) | (simp [go_sem]; rfl)))) <| c_ mv_ <| c_ (gm0 (vI 0)) <| c_ (bi0 (vI 0) (vI 0) (h := by intro env w; (first | (simp [go_sem]; done) | (simp [go_sem]; rfl)))) <| c_ (pk0 bT bT bF (h := by intro env w; (first | (simp [go_sem]; done) | (simp [go_sem]; rfl)))) <| c_ mv_ <| c_ (ld_ 0 (hrd := by exact rd39 rfl rfl)) <| c_ (cb_ Try.func14 3222720001422818000000000000 (h := fun _ env _ wd hA => ⟨_, Of_any wd 3222720001422818000000000000 (by unfold InW; omega), rfl⟩)) <| c_ (bd0 ([vI 37300])) <| c_ (cb_ Try.func23 (jn 37300 0 0) (h := fun _ env _ wd hA => ⟨_, Join_any wd 37300 0 0 (by omega) (by omega) (by omega) (by omega) (by omega) (by omega), rfl⟩)) <| c_ (cb_ Try.func24 1422818000000000000 (h := fun _ env _ wd hA => ⟨_, Int_any wd 1422818000000000000 (by omega) (by omega), rfl⟩)) <| c_ (cb_ Try.func22 ((jn 37300 0 0) + 1422818000000000000) (h := fun _ env _ wd hA => ⟨_, Add_any wd (decide (jn 37300 0 0 < 0)) (bA (env 10)) (bC (env 10)) (jn 37300 0 0) rfl (At.bigN hA 10 rfl rfl rfl) (by unfold jn Sm; omega) (decide (1422818000000000000 < 0)) (bA (env 11)) (bC (env 11)) 1422818000000000000 rfl (At.bigN hA 11 rfl rfl rfl) (by unfold Sm; omega), rfl⟩)) <| c_ (cw_ Try.func13 (h := fun _ env _ wd hA => ⟨_, (res_eq (Same_any wd (decide (3222720001422818000000000000 < 0)) (bA (env 8)) (bC (env 8)) 3222720001422818000000000000 rfl (At.bigN hA 8 rfl rfl rfl)  (decide ((jn 37300 0 0) + 1422818000000000000 < 0)) (bA (env 12)) (bC (env 12)) ((jn 37300 0 0) + 1422818000000000000) rfl (At.bigN hA 12 rfl rfl rfl) ) (congrArg Value.bool (decide_eq_true (by decide +kernel)))), rfl⟩)) <| c_ (pk0 bT bT bF) <| c_ mv_ <| c_ (gm0 (vI 0)) <| c_ (bi0 (vI 0) (vI 0) (h := by intro env w; (first | (simp [go_sem]; done) | (simp [go_sem]; rfl)))) <| c_ (pk0 bT bT bF (h := by intro env w; (first | (simp [go_sem]; done) | (simp [go_sem]; rfl)))) <| c_ mv_ <| c_ (ld_ 1 (hrd := by exact rd36 rfl rfl rfl)) <| c_ (bd0 ([vI 37300])) <| c_ (bi0 (vL 37300 0 0) (vL 37300 0 0) (h := by intro env w; (first | (simp [go_sem]; done) | (simp [go_sem]; rfl)))) <| c_ (pk0 bT bT bF (h := by intro env w; (first | (simp [go_sem]; done) | (simp [go_sem]; rfl)))) <| c_ mv_ <| c_ (gm0 (vI 6)) <| c_ (bi0 (vI 6) (vI 6) (h := by intro env w; (first | (simp [go_sem]; done) | (simp [go_sem]; rfl)))) <| c_ (pk0 bT bT bF (h := by intro env w; (first | (simp [go_sem]; done) | (simp [go_sem]; rfl)))) <| c_ mv_ <| e_) (k := fun E6 ac wd h_6 => ?_)
  clear h_5
  refine then_n (wp_ret ?_)
  refine lvT Try.results8 h_6 ?_
  exact ⟨rfl, h_6.st.below⟩
end Go.Proofs.Ytdfkghpgekmmlaa
/- epactref14: Segments (printed by my walk.py) -/
namespace Go.Proofs.Ytdfkghpgekmmlaa
open Go.RowKit
set_option linter.unusedVariables false
set_option linter.unusedSimpArgs false
attribute [local go_sem] vN bT bF rS vW vM vL vT2 vT3 vP vI execOp Act.eval evC bigF vB hi_zero lo_zero Try.underlying25 Try.underlying53

def sgL (s : Sg) : List Value := [vI s.d, vI s.b, vI s.f, vI s.r]
def sgR (k : Nat) : List Value := (List.range (k * 4)).map (sgC pubS)
theorem sgR_succ (k : Nat) : sgR (k + 1) = sgR k ++ [vI (sgi pubS k).d, vI (sgi pubS k).b, vI (sgi pubS k).f, vI (sgi pubS k).r] := by
  unfold sgR
  rw [show (k + 1) * 4 = k * 4 + 4 by omega, List.range_add, List.map_append]
  congr 1
  rw [show List.range 4 = [0, 1, 2, 3] from rfl]
  simp only [List.map_cons, List.map_nil, Nat.add_zero, sgC_0, sgC_1, sgC_2, sgC_3]
theorem seg_info : (Try.prog.info? 25).map (fun i => (i.zero, i.size, i.bytes)) = some (some (.agg #[vI 0, vI 0, vI 0, vI 0]), 4, 32) := by kernel_rfl
def rowcF (n : Nat) (v : Value) : Value := .slice (sA v) n n
/-- rows written out, in a block of their own -/
def RowC (T : TypeId) (cs : Array Value) (n : Nat) (w : World) (v : Value) : Prop := ∃ b, v = .slice (some ⟨b, 0, none⟩) n n ∧ w.heap[b]? = some (Obj.cells cs T (0, 0))
theorem RowC.form {T : TypeId} {cs : Array Value} {n : Nat} {w : World} {v : Value} (h : RowC T cs n w v) : v = rowcF n v := by obtain ⟨b, rfl, _⟩ := h; rfl
theorem RowC.keep {T : TypeId} {cs : Array Value} {n : Nat} {w w' : World} {v : Value} (h : RowC T cs n w v) (hk : KeepT [T] none w w') : RowC T cs n w' v := by
  obtain ⟨b, rfl, hb⟩ := h
  exact ⟨b, rfl, (hk _ _ _ _ hb (by simp) (by simp)).trans hb⟩
theorem RowC.seg {T : TypeId} {w : World} {v : Value} (h : RowC T pubC 13 w v) : SegU w (.slice (sA v) 13 13) pubS := by
  obtain ⟨b, rfl, hb⟩ := h
  exact ⟨_, 13, rfl, by decide, by decide, .inr ⟨b, 0, T, pubC, _, rfl, hb, fun i hi => by
    have hi' : i < 52 := by have : pubS.length = 13 := rfl; omega
    simp [pubC, hi']⟩⟩
section
variable {P : Program} {R : Reg} {Q : Exit → Act → World → Prop} {i : Nat} {o : Oper}
theorem s_bsC (ho : R.ops[i]? = some o) (hf : free' R i = true) (hw : ∀ {D env a w}, At R i D env a w → Region.wanted o (yielded R.ops a.tmps) = true) (T : TypeId) (n : Nat) (cs cs' : Array Value) (hcs : cs = cs') (hV : R.v? i = some fun env => rowcF n (env i)) (hF : R.F.filter (fun p => Nat.beq p.1 i) = [(i, fun env w => RowC T cs' n w (env i))]) (hint : tFree [T] R = true) (hx : R.ex = none)
    (hrun : ∀ {D env a w}, At R i D env a w → (execOp a.eval o).run P w = .ok (.value (.slice (some ⟨w.heap.size, 0, none⟩) n n)) (w.alloc (.cells cs T (0, 0)))) : SR P Q R i :=
  s_gen ho hf (fun {D env a w} hA K hK => by
    subst hcs
    rw [if_pos (hw hA)]
    unfold Oper.wp
    rw [hrun hA]
    have hs' := hA.j.st.call (w' := w.alloc (.cells cs T (0, 0))) ⟨rfl, rfl, rfl, by simp, fun k hk => Below.heap_alloc _ _ _ hk⟩
    have hkt := fun w'' (ha : Apart (R.mem _ _) none _ w'') => apart_keepT (w' := w'') hint hs' (.inl hx.symm) ha
    rw [hx] at hkt
    refine hK _ _ hs' (fun w'' ha => f_fact (φ := fun v w => RowC T cs n w v) (form := rowcF n) hV (fun v w h => h.form) hF hA.ok ho (RowC.keep ⟨w.heap.size, rfl, heap_alloc_new w _⟩ (hkt w'' (by rw [hx] at ha; exact ha)))))
/-- a cell of an array that is an element -/
theorem s_ra (ho : R.ops[i]? = some o) (hf : free' R i = true) {T : TypeId} {x y : Operand} (hop : o.op = .indexAddr T x y) (hw : ∀ {D env a w}, At R i D env a w → Region.wanted o (yielded R.ops a.tmps) = true)
    {n k : Nat} {f : Nat → Value} (q off q' : Nat) (hq : q + off = q') {s : Env → Value} (hV : R.v? i = some fun env => elt (s env) q')
    (hx : ∀ env, opAt R i env x = some (elt (s env) q)) (hy : ∀ env, opAt R i env y = some (vI (off : Int))) (hs : ∀ {D env a w}, At R i D env a w → Els w (s env) n k f) (hj : 0 < n) (hrd : ∀ (b q : Nat) (w : World), (Instr.indexAt T (.pointer (some ⟨b, q, none⟩)) (vI (off : Int))).run Try.prog w = .ok (.pointer (some ⟨b, q + off, none⟩)) w) (hn : noF R i = true := by rfl) (hr : ∀ env x, s (restr (R.cl.getD i []) (upd env i x)) = s env := by intros; rfl) : SR Try.prog Q R i :=
  s_val ho hf hV (fun {D env a w} hA => ⟨hw hA, by
    subst hq
    obtain ⟨A, c, e, h1, h2⟩ := hs hA
    have e1 := hA.e (hx env)
    have e2 := hA.e (hy env)
    rw [e] at e1
    rcases h2 with h2 | ⟨b, off', rfl, _⟩
    · omega
    · simp only [elt] at e1
      rw [e]
      simp [execOp, hop, e1, e2, hrd, elt, Nat.add_assoc]⟩) hn (fun env x => by simp only [hr])
end
theorem Facts.rowC {L : List (World → Prop)} {w : World} {T : TypeId} {v : Value} (h : Facts L w) (k : Nat) (hk : L[k]? = some (fun w => RowC T pubC 13 w v)) : SegU w (.slice (sA v) 13 13) pubS := (show RowC T pubC 13 w v from h.get k hk).seg
theorem gr_below {w w' : World} (h : w.grownBy w' none) : Below w.heap.size w w' := ⟨h.os, h.tape, h.output, h.size, fun i hi => h.block i hi (by simp)⟩
theorem own_ge {T : TypeId} {k : Nat} {w : World} {B : Nat} {v : Value} {n : Nat} {cs : List Value} (h : OwnK T k w B v n cs) {b : Nat} (hb : v.ownBlock = some b) : B ≤ b := by
  obtain ⟨_, h2⟩ := h
  rcases h2 with ⟨rfl, _⟩ | ⟨g, cap, cur, rfl, hB, _⟩
  · cases hb
  · simp only [Value.ownBlock, Option.some.injEq] at hb; omega
set_option maxRecDepth 100000 in
set_option maxHeartbeats 8000000 in
theorem rsegments_w (w0 : World)  : Calls Try.prog 6 #[] w0 fun e w' => ∃ v, e = .returned v ∧ Below w0.heap.size w0 w' ∧ SegN w0.heap.size w' v pubS := by
  have hpl : pubS.length = 13 := rfl
  have hst := St.start w0 (Θ := fun _ => True) (fun _ _ => trivial)
  refine en_ Try.func6 hst 49 [] (fun ac h => ?_)
  replace h := h.facts
  refine wp_seq ?_
  refine rf_ h [[0]] [K_ (.slice none 0 0)] (fun E1 => [(0, .slice none 0 0)]) (hs := c_ mv_ <| e_) (k := fun E1 ac wd h_1 => ?_)
  clear h
  refine then_n (wp_seq ?_)
  refine rf_ h_1 [[0],[1],[2],[3],[4],[5],[6],[7],[8],[9],[10],[11],[12],r_ 14,r_ 15] [K_ (.agg #[vI 37300, vI 14228180, vI 37300, vI 12960]), K_ (.agg #[vI 37512, vI 13728180, vI 37300, vI 12960]), K_ (.agg #[vI 37665, vI 18458580, vI 37665, vI 11232]), K_ (.agg #[vI 38334, vI 19458580, vI 37665, vI 11232]), K_ (.agg #[vI 38395, vI 32401300, vI 38761, vI 12960]), K_ (.agg #[vI 38486, vI 33401300, vI 38761, vI 12960]), K_ (.agg #[vI 38639, vI 34401300, vI 38761, vI 12960]), K_ (.agg #[vI 38761, vI 35401300, vI 38761, vI 12960]), K_ (.agg #[vI 38820, vI 36401300, vI 38761, vI 12960]), K_ (.agg #[vI 38942, vI 37401300, vI 38761, vI 12960]), K_ (.agg #[vI 39004, vI 38401300, vI 38761, vI 12960]), K_ (.agg #[vI 39126, vI 43131700, vI 39126, vI 25920]), K_ (.agg #[vI 39887, vI 42131700, vI 39126, vI 25920]), KE_ fun env => .slice ((sA (env 13))) 13 13, KE_ fun env => .slice ((sA (env 13))) 13 13] (fun E2 => [(0, .slice none 0 0), (1, .slice ((sA (E2 13))) 13 13)]) (F := [(13, fun env w => RowC 53 pubC 13 w (env 13))]) (L1 := fun E2 => [fun w => RowC 53 pubC 13 w (E2 13)]) (hs := c_ (by refine s_v rfl rfl rfl rfl (fun {D env ac wd} hA => ?_); simp [go_sem, Try.underlying53]) <| c_ (by refine s_v rfl rfl rfl rfl (fun {D env ac wd} hA => ?_); simp [go_sem, Try.underlying53]) <| c_ (by refine s_v rfl rfl rfl rfl (fun {D env ac wd} hA => ?_); simp [go_sem, Try.underlying53]) <| c_ (by refine s_v rfl rfl rfl rfl (fun {D env ac wd} hA => ?_); simp [go_sem, Try.underlying53]) <| c_ (by refine s_v rfl rfl rfl rfl (fun {D env ac wd} hA => ?_); simp [go_sem, Try.underlying53]) <| c_ (by refine s_v rfl rfl rfl rfl (fun {D env ac wd} hA => ?_); simp [go_sem, Try.underlying53]) <| c_ (by refine s_v rfl rfl rfl rfl (fun {D env ac wd} hA => ?_); simp [go_sem, Try.underlying53]) <| c_ (by refine s_v rfl rfl rfl rfl (fun {D env ac wd} hA => ?_); simp [go_sem, Try.underlying53]) <| c_ (by refine s_v rfl rfl rfl rfl (fun {D env ac wd} hA => ?_); simp [go_sem, Try.underlying53]) <| c_ (by refine s_v rfl rfl rfl rfl (fun {D env ac wd} hA => ?_); simp [go_sem, Try.underlying53]) <| c_ (by refine s_v rfl rfl rfl rfl (fun {D env ac wd} hA => ?_); simp [go_sem, Try.underlying53]) <| c_ (by refine s_v rfl rfl rfl rfl (fun {D env ac wd} hA => ?_); simp [go_sem, Try.underlying53]) <| c_ (by refine s_v rfl rfl rfl rfl (fun {D env ac wd} hA => ?_); simp [go_sem, Try.underlying53]) <| c_ (s_bsC rfl rfl (fun _ => wanted_none rfl _) 53 13 #[vI 37300, vI 14228180, vI 37300, vI 12960, vI 37512, vI 13728180, vI 37300, vI 12960, vI 37665, vI 18458580, vI 37665, vI 11232, vI 38334, vI 19458580, vI 37665, vI 11232, vI 38395, vI 32401300, vI 38761, vI 12960, vI 38486, vI 33401300, vI 38761, vI 12960, vI 38639, vI 34401300, vI 38761, vI 12960, vI 38761, vI 35401300, vI 38761, vI 12960, vI 38820, vI 36401300, vI 38761, vI 12960, vI 38942, vI 37401300, vI 38761, vI 12960, vI 39004, vI 38401300, vI 38761, vI 12960, vI 39126, vI 43131700, vI 39126, vI 25920, vI 39887, vI 42131700, vI 39126, vI 25920] pubC (by kernel_rfl) rfl rfl rfl rfl (fun {D env ac wd} hA => by have e4 : ac.tmps[4]? = some (.agg #[vI 37300, vI 14228180, vI 37300, vI 12960]) := hA.g rfl; have e5 : ac.tmps[5]? = some (.agg #[vI 37512, vI 13728180, vI 37300, vI 12960]) := hA.g rfl; have e6 : ac.tmps[6]? = some (.agg #[vI 37665, vI 18458580, vI 37665, vI 11232]) := hA.g rfl; have e7 : ac.tmps[7]? = some (.agg #[vI 38334, vI 19458580, vI 37665, vI 11232]) := hA.g rfl; have e8 : ac.tmps[8]? = some (.agg #[vI 38395, vI 32401300, vI 38761, vI 12960]) := hA.g rfl; have e9 : ac.tmps[9]? = some (.agg #[vI 38486, vI 33401300, vI 38761, vI 12960]) := hA.g rfl; have e10 : ac.tmps[10]? = some (.agg #[vI 38639, vI 34401300, vI 38761, vI 12960]) := hA.g rfl; have e11 : ac.tmps[11]? = some (.agg #[vI 38761, vI 35401300, vI 38761, vI 12960]) := hA.g rfl; have e12 : ac.tmps[12]? = some (.agg #[vI 38820, vI 36401300, vI 38761, vI 12960]) := hA.g rfl; have e13 : ac.tmps[13]? = some (.agg #[vI 38942, vI 37401300, vI 38761, vI 12960]) := hA.g rfl; have e14 : ac.tmps[14]? = some (.agg #[vI 39004, vI 38401300, vI 38761, vI 12960]) := hA.g rfl; have e15 : ac.tmps[15]? = some (.agg #[vI 39126, vI 43131700, vI 39126, vI 25920]) := hA.g rfl; have e16 : ac.tmps[16]? = some (.agg #[vI 39887, vI 42131700, vI 39126, vI 25920]) := hA.g rfl; simp [go_sem, e4, e5, e6, e7, e8, e9, e10, e11, e12, e13, e14, e15, e16, Try.underlying54])) <| c_ mv_ <| e_) (k := fun E2 ac wd h_2 => ?_)
  clear h_1
  have hq := Facts.rowC h_2.st.now 0 rfl
  have hg0 := h_2.st.gr
  obtain ⟨w1, rfl⟩ : ∃ x, x = wd := ⟨_, rfl⟩
  replace h_2 : Cur 49 w1 none none (fun _ => True) (fun _ => True) [(0, .slice none 0 0), (1, .slice ((sA (E2 13))) 13 13)] [] ac w1 := (⟨h_2.sz, h_2.df, St.start w1 (fun _ _ => trivial), h_2.sl⟩ : Cur 49 w1 none none (fun _ => True) (fun _ => True) _ [] ac w1).re rfl
  refine then_n (wp_seq ?_)
  refine rg_ h_2 [[0]] [K_ (.slice none 0 0)] (fun E3 => [(0, .slice none 0 0), (1, .slice ((sA (E2 13))) 13 13), (2, .slice none 0 0)]) (hs := c_ mv_ <| e_) (k := fun E3 ac wd h_3 => ?_)
  clear h_2
  refine then_n (wp_seq (wp_seq ?_))
  refine rg_ h_3 [[0]] [K_ (vI 0)] (fun E4 => [(0, .slice none 0 0), (1, .slice ((sA (E2 13))) 13 13), (2, .slice none 0 0), (3, vI 0)]) (hs := c_ mv_ <| e_) (k := fun E4 ac wd h_4 => ?_)
  clear h_3
  refine then_n (wp_block ?_)
  refine wp_loop (fun ac wd => ∃ (v : Value) (i : Nat), i ≤ 13 ∧ Cur 49 w1 none none (fun _ => True) (fun w => OwnK 25 4 w w1.heap.size v i (sgR i)) [(0, .slice none 0 0), (1, .slice ((sA (E2 13))) 13 13), (2, v), (3, vN i)] [] ac wd) (fun ac _ => ((13 : Int) - sI ac 3).toNat) ⟨.slice none 0 0, 0, by omega, (h_4.re rfl).th (fun w _ => OwnK.nil w _)⟩ ?_
  rintro ac wd ⟨v, i, hi1, h_5⟩
  clear h_4
  have hmu : sI ac 3 = ((i : Nat) : Int) := sI_eq (h_5.g (t := 3) rfl)
  refine wp_seq (wp_seq ?_)
  by_cases h1 : i < 13
  refine rg_ h_5 [[0],[1],[1,2],r_ 4] [K_ (vN i), K_ (.slice ((sA (E2 13))) 13 13), K_ (vI ((13 : Int))), K_ bT] (fun E6 => [(0, .slice none 0 0), (1, .slice ((sA (E2 13))) 13 13), (2, v), (3, vN i), (18, vN i), (19, .slice ((sA (E2 13))) 13 13), (20, vI ((13 : Int))), (21, bT)]) (hs := c_ mv_ <| c_ mv_ <| c_ (ln_ Try.underlying54 fun _ env _ wd hA => (hq.grown hA.j.st.gr).els) <| c_ (bi0 (vN i) (vI ((13 : Int)))) <| e_) (k := fun E6 ac wd h_6 => ?_)
  clear h_5
  refine then_n ?_
  refine cT_ h_6 ?_
  refine wp_skip (then_n (wp_seq (wp_block ?_)))
  refine rg_ h_6 [[0],[1],[2],[1,2,3],[1,2,3,4],[1,2,3,4,5],[6],[7],[6,7,8],[6,7,8,9],[6,7,8,9,10],[11],[12],[11,12,13],[11,12,13,14],[11,12,13,14,15],[16],[17],[16,17,18],[16,17,18,19],[16,17,18,19,20],[1,2,3,4,5,6,7,8,9,10,11,12,13,14,15,16,17,18,19,20,21],[1,2,3,4,5,6,7,8,9,10,11,12,13,14,15,16,17,18,19,20,21,22],r_ 24,r_ 25] [K_ v, K_ (.slice ((sA (E2 13))) 13 13), K_ (vN i), K_ (elt (.slice ((sA (E2 13))) 13 13) (i * 4)), K_ (elt (.slice ((sA (E2 13))) 13 13) (i * 4)), K_ (vI ((sgi pubS i).d)), K_ (.slice ((sA (E2 13))) 13 13), K_ (vN i), K_ (elt (.slice ((sA (E2 13))) 13 13) (i * 4)), K_ (elt (.slice ((sA (E2 13))) 13 13) (i * 4 + 1)), K_ (vI ((sgi pubS i).b)), K_ (.slice ((sA (E2 13))) 13 13), K_ (vN i), K_ (elt (.slice ((sA (E2 13))) 13 13) (i * 4)), K_ (elt (.slice ((sA (E2 13))) 13 13) (i * 4 + 2)), K_ (vI ((sgi pubS i).f)), K_ (.slice ((sA (E2 13))) 13 13), K_ (vN i), K_ (elt (.slice ((sA (E2 13))) 13 13) (i * 4)), K_ (elt (.slice ((sA (E2 13))) 13 13) (i * 4 + 3)), K_ (vI ((sgi pubS i).r)), K_ (vSg (sgi pubS i)), KE_ fun env => .slice (some ⟨(pb env 22), 0, none⟩) 1 1, KE_ fun env => .slice (sA (env 23)) (i + 1) (sC (env 23)), KE_ fun env => .slice (sA (env 23)) (i + 1) (sC (env 23))] (fun E7 => [(0, .slice none 0 0), (1, .slice ((sA (E2 13))) 13 13), (2, .slice (sA (E7 23)) (i + 1) (sC (E7 23))), (3, vN i), (18, vN i), (19, .slice ((sA (E2 13))) 13 13), (20, vI ((13 : Int))), (21, bT), (24, v), (25, .slice ((sA (E2 13))) 13 13), (26, vN i), (27, elt (.slice ((sA (E2 13))) 13 13) (i * 4)), (28, elt (.slice ((sA (E2 13))) 13 13) (i * 4)), (29, vI ((sgi pubS i).d)), (30, .slice ((sA (E2 13))) 13 13), (31, vN i), (32, elt (.slice ((sA (E2 13))) 13 13) (i * 4)), (33, elt (.slice ((sA (E2 13))) 13 13) (i * 4 + 1)), (34, vI ((sgi pubS i).b)), (35, .slice ((sA (E2 13))) 13 13), (36, vN i), (37, elt (.slice ((sA (E2 13))) 13 13) (i * 4)), (38, elt (.slice ((sA (E2 13))) 13 13) (i * 4 + 2)), (39, vI ((sgi pubS i).f)), (40, .slice ((sA (E2 13))) 13 13), (41, vN i), (42, elt (.slice ((sA (E2 13))) 13 13) (i * 4)), (43, elt (.slice ((sA (E2 13))) 13 13) (i * 4 + 3)), (44, vI ((sgi pubS i).r)), (45, vSg (sgi pubS i)), (46, .slice (some ⟨(pb E7 22), 0, none⟩) 1 1), (47, .slice (sA (E7 23)) (i + 1) (sC (E7 23)))]) (W := [{ i := 22, T := 25, c0 := [vI ((sgi pubS i).d), vI ((sgi pubS i).b), vI ((sgi pubS i).f), vI ((sgi pubS i).r)] }]) (th := (some (23, fun env w => OwnK 25 4 w w1.heap.size (.slice (sA (env 23)) (i + 1) (sC (env 23))) (i + 1) (sgR i ++ [vI ((sgi pubS i).d), vI ((sgi pubS i).b), vI ((sgi pubS i).f), vI ((sgi pubS i).r)])))) (T := fun E7 => fun w => OwnK 25 4 w w1.heap.size (.slice (sA (E7 23)) (i + 1) (sC (E7 23))) (i + 1) (sgR i ++ [vI ((sgi pubS i).d), vI ((sgi pubS i).b), vI ((sgi pubS i).f), vI ((sgi pubS i).r)])) (M' := fun E7 => [((pb E7 22), 25, [vI ((sgi pubS i).d), vI ((sgi pubS i).b), vI ((sgi pubS i).f), vI ((sgi pubS i).r)])]) (hs := c_ mv_ <| c_ mv_ <| c_ mv_ <| c_ (ia_ Try.underlying54 sz53 i (i * 4) ((i : Nat) : Int) (fun _ env _ wd hA => (hq.grown hA.j.st.gr).els) (rfl) (by omega) rfl) <| c_ (s_ra rfl rfl rfl (fun _ => wanted_none rfl _) (i * 4) 0 (i * 4) rfl (s := fun _ => .slice ((sA (E2 13))) 13 13) rfl (fun _ => rfl) (fun _ => rfl) (fun {D env ac wd} hA => (hq.grown hA.j.st.gr).els) (by omega) (fun b q w => by simp [go_sem, Try.underlying53, sz3])) <| c_ (le_ (i * 4) (fun _ env _ wd hA => (hq.grown hA.j.st.gr).els) (by omega) (le3 (by exact sgC_0 pubS i))) <| c_ mv_ <| c_ mv_ <| c_ (ia_ Try.underlying54 sz53 i (i * 4) ((i : Nat) : Int) (fun _ env _ wd hA => (hq.grown hA.j.st.gr).els) (rfl) (by omega) rfl) <| c_ (s_ra rfl rfl rfl (fun _ => wanted_none rfl _) (i * 4) 1 (i * 4 + 1) rfl (s := fun _ => .slice ((sA (E2 13))) 13 13) rfl (fun _ => rfl) (fun _ => rfl) (fun {D env ac wd} hA => (hq.grown hA.j.st.gr).els) (by omega) (fun b q w => by simp [go_sem, Try.underlying53, sz3])) <| c_ (le_ (i * 4 + 1) (fun _ env _ wd hA => (hq.grown hA.j.st.gr).els) (by omega) (le3 (by exact sgC_1 pubS i))) <| c_ mv_ <| c_ mv_ <| c_ (ia_ Try.underlying54 sz53 i (i * 4) ((i : Nat) : Int) (fun _ env _ wd hA => (hq.grown hA.j.st.gr).els) (rfl) (by omega) rfl) <| c_ (s_ra rfl rfl rfl (fun _ => wanted_none rfl _) (i * 4) 2 (i * 4 + 2) rfl (s := fun _ => .slice ((sA (E2 13))) 13 13) rfl (fun _ => rfl) (fun _ => rfl) (fun {D env ac wd} hA => (hq.grown hA.j.st.gr).els) (by omega) (fun b q w => by simp [go_sem, Try.underlying53, sz3])) <| c_ (le_ (i * 4 + 2) (fun _ env _ wd hA => (hq.grown hA.j.st.gr).els) (by omega) (le3 (by exact sgC_2 pubS i))) <| c_ mv_ <| c_ mv_ <| c_ (ia_ Try.underlying54 sz53 i (i * 4) ((i : Nat) : Int) (fun _ env _ wd hA => (hq.grown hA.j.st.gr).els) (rfl) (by omega) rfl) <| c_ (s_ra rfl rfl rfl (fun _ => wanted_none rfl _) (i * 4) 3 (i * 4 + 3) rfl (s := fun _ => .slice ((sA (E2 13))) 13 13) rfl (fun _ => rfl) (fun _ => rfl) (fun {D env ac wd} hA => (hq.grown hA.j.st.gr).els) (by omega) (fun b q w => by simp [go_sem, Try.underlying53, sz3])) <| c_ (le_ (i * 4 + 3) (fun _ env _ wd hA => (hq.grown hA.j.st.gr).els) (by omega) (le3 (by exact sgC_3 pubS i))) <| c_ (bd0 ([vI ((sgi pubS i).d), vI ((sgi pubS i).b), vI ((sgi pubS i).f), vI ((sgi pubS i).r)])) <| c_ (s_bsM rfl rfl 0 rfl rfl 1 rfl (fun {D env ac wd} hA => by have e45 : ac.tmps[45]? = some (vSg (sgi pubS i)) := hA.g rfl; simp [go_sem, e45, Try.underlying22])) <| c_ (s_appS rfl rfl rfl rfl Try.underlying22 seg_info rfl (by omega) (by omega) rfl rfl (fun _ => trivial) rfl (fun _ h => h) [vI ((sgi pubS i).d), vI ((sgi pubS i).b), vI ((sgi pubS i).f), vI ((sgi pubS i).r)] rfl (by simp [Value.oneCell']) rfl (by omega) 22 0 rfl rfl rfl rfl rfl (fun _ => rfl) (fun hA => hA.e rfl)) <| c_ mv_ <| e_) (k := fun E7 ac wd h_7 => ?_)
  clear h_6
  refine blk_n (then_n ?_)
  refine rg_ h_7 (tri 3) [K_ (vN i), K_ (vI (((i : Nat) : Int) + 1)), K_ (vI (((i : Nat) : Int) + 1))] (fun E8 => [(0, .slice none 0 0), (1, .slice ((sA (E2 13))) 13 13), (2, .slice (sA (E7 23)) (i + 1) (sC (E7 23))), (3, vI (((i : Nat) : Int) + 1)), (18, vN i), (19, .slice ((sA (E2 13))) 13 13), (20, vI ((13 : Int))), (21, bT), (22, vN i), (23, vI (((i : Nat) : Int) + 1)), (24, v), (25, .slice ((sA (E2 13))) 13 13), (26, vN i), (27, elt (.slice ((sA (E2 13))) 13 13) (i * 4)), (28, elt (.slice ((sA (E2 13))) 13 13) (i * 4)), (29, vI ((sgi pubS i).d)), (30, .slice ((sA (E2 13))) 13 13), (31, vN i), (32, elt (.slice ((sA (E2 13))) 13 13) (i * 4)), (33, elt (.slice ((sA (E2 13))) 13 13) (i * 4 + 1)), (34, vI ((sgi pubS i).b)), (35, .slice ((sA (E2 13))) 13 13), (36, vN i), (37, elt (.slice ((sA (E2 13))) 13 13) (i * 4)), (38, elt (.slice ((sA (E2 13))) 13 13) (i * 4 + 2)), (39, vI ((sgi pubS i).f)), (40, .slice ((sA (E2 13))) 13 13), (41, vN i), (42, elt (.slice ((sA (E2 13))) 13 13) (i * 4)), (43, elt (.slice ((sA (E2 13))) 13 13) (i * 4 + 3)), (44, vI ((sgi pubS i).r)), (45, vSg (sgi pubS i)), (46, .slice (some ⟨(pb E7 22), 0, none⟩) 1 1), (47, .slice (sA (E7 23)) (i + 1) (sC (E7 23)))]) (hs := c_ mv_ <| c_ (bi0 (vN i) (vI 1)) <| c_ mv_ <| e_) (k := fun E8 ac wd h_8 => ?_)
  clear h_7
  refine then_n ?_
  exact ⟨⟨.slice (sA (E7 23)) (i + 1) (sC (E7 23)), i + 1, by omega, ((h_8.take (M1 := []) rfl).re rfl).th (fun w hw => by rw [sgR_succ]; exact hw)⟩, by rw [sI_eq (h_8.g (t := 3) rfl), hmu]; omega⟩
  obtain rfl : i = 13 := by omega
  refine rg_ h_5 [[0],[1],[1,2],r_ 4] [K_ (vN 13), K_ (.slice ((sA (E2 13))) 13 13), K_ (vI ((13 : Int))), K_ bF] (fun E6 => [(0, .slice none 0 0), (1, .slice ((sA (E2 13))) 13 13), (2, v), (3, vN 13), (18, vN 13), (19, .slice ((sA (E2 13))) 13 13), (20, vI ((13 : Int))), (21, bF)]) (hs := c_ mv_ <| c_ mv_ <| c_ (ln_ Try.underlying54 fun _ env _ wd hA => (hq.grown hA.j.st.gr).els) <| c_ (bi0 (vN 13) (vI ((13 : Int)))) <| e_) (k := fun E6 ac wd h_6 => ?_)
  clear h_5
  refine then_n ?_
  refine cF_ h_6 ?_
  refine wp_exit (then_e (then_e (blk_x (then_n (wp_seq ?_)))))
  refine rg_ h_6 [[0],[0,1]] [K_ v, K_ v] (fun E7 => [(0, v)]) (hs := c_ mv_ <| c_ mv_ <| e_) (k := fun E7 ac wd h_7 => ?_)
  clear h_6
  refine then_n (wp_ret ?_)
  refine lvT Try.results6 h_7 ?_
  have hO : OwnK 25 4 _ w1.heap.size v 13 (sgR 13) := h_7.st.nowT
  exact ⟨_, rfl, below_to (gr_below hg0) h_7.st.below, OwnK.rowP (by intro i hi; have hi2 : i < 52 := hi; simp [sgR, hi2]) (by omega) hO, fun b hb => Nat.le_trans hg0.size (own_ge hO hb)⟩
theorem rsegments_up {B : Nat} {w : World} (hB : B ≤ w.heap.size) : Calls Try.prog 6 #[] w fun e w' => ∃ v, e = .returned v ∧ Below w.heap.size w w' ∧ SegN B w' v pubS := by
  refine (rsegments_w w).mono ?_
  rintro e w' ⟨v, rfl, hb, h1, h2⟩
  exact ⟨v, rfl, hb, h1, fun b hb' => Nat.le_trans hB (h2 b hb')⟩
end Go.Proofs.Ytdfkghpgekmmlaa
/- the law RubberSegments (printed by my walk.py) -/
namespace Go.Proofs.Ytdfkghpgekmmlaa
open Go.RowKit
set_option linter.unusedVariables false
set_option linter.unusedSimpArgs false
attribute [local go_sem] vN bT bF rS vSg vW vM vL vT2 vT3 vP vI execOp Act.eval evC bigF vB hi_zero lo_zero Try.underlying25

set_option maxRecDepth 100000 in
set_option maxHeartbeats 8000000 in
theorem rubberSegments_walk (w0 : World) (day : Int) (hd0 : -9223372036854775808 ≤ day) (hd1 : day < 9223372036854775808) (off : Int) : Calls Try.prog 3 #[vI day, vI off] w0 fun e w' => e = .returned (.bool true) ∧ Below w0.heap.size w0 w' := by
  have hpl : pubS.length = 13 := rfl
  have hst := St.start w0 (Θ := fun _ => True) (fun _ _ => trivial)
  refine en_ Try.func3 hst 49 [(0, vI day), (1, vI off)] (fun ac h => ?_)
  replace h := h.facts
  refine wp_seq ?_
  refine rf_ h [[0]] [K_ bF] (fun E1 => [(0, vI day), (1, vI off), (4, bF)]) (hs := c_ mv_ <| e_) (k := fun E1 ac wd h_1 => ?_)
  clear h
  refine then_n (wp_seq ?_)
  refine rf_ h_1 (tri 4) [KE_ fun env => .slice ((sA (env 0))) pubS.length ((sC (env 0))), KE_ fun env => .slice ((sA (env 1))) pubS.length ((sC (env 1))), KE_ fun env => .slice ((sA (env 0))) pubS.length ((sC (env 0))), KE_ fun env => .slice ((sA (env 1))) pubS.length ((sC (env 1)))] (fun E2 => [(0, vI day), (1, vI off), (4, bF), (5, .slice ((sA (E2 0))) pubS.length ((sC (E2 0)))), (6, .slice ((sA (E2 1))) pubS.length ((sC (E2 1))))]) (F := [(0, fun env w => SegN w0.heap.size w (env 0) pubS), (1, fun env w => SegN w0.heap.size w (env 1) pubS)]) (L1 := fun E2 => [fun w => SegN w0.heap.size w (E2 0) pubS, fun w => SegN w0.heap.size w (E2 1) pubS]) (hs := c_ (s_factT rfl rfl rfl Try.func5 (by kernel_rfl) rfl (fun _ => wanted_none rfl _) (fun v w => SegN w0.heap.size w v pubS) (segF pubS) rfl rfl [25] rfl (fun v w h => h.form) (fun v w w' hk h => h.keep hk) (fun {D env ac wd} hA => ⟨_, hA.args (vs := []) rfl, segments_up hA.j.st.gr.size⟩)) <| c_ (s_factT rfl rfl rfl Try.func6 (by kernel_rfl) rfl (fun _ => wanted_none rfl _) (fun v w => SegN w0.heap.size w v pubS) (segF pubS) rfl rfl [25] rfl (fun v w h => h.form) (fun v w w' hk h => h.keep hk) (fun {D env ac wd} hA => ⟨_, hA.args (vs := []) rfl, rsegments_up hA.j.st.gr.size⟩)) <| c_ mv_ <| c_ mv_ <| e_) (k := fun E2 ac wd h_2 => ?_)
  clear h_1
  refine then_n (wp_seq (wp_seq ?_))
  refine rf_ h_2 [[0],[0,1],[2],[2,3],r_ 5] [K_ (.slice ((sA (E2 0))) pubS.length ((sC (E2 0)))), K_ (vN pubS.length), K_ (.slice ((sA (E2 1))) pubS.length ((sC (E2 1)))), K_ (vN pubS.length), K_ bF] (fun E3 => [(0, vI day), (1, vI off), (4, bF), (5, .slice ((sA (E2 0))) pubS.length ((sC (E2 0)))), (6, .slice ((sA (E2 1))) pubS.length ((sC (E2 1)))), (16, bF)]) (hs := c_ mv_ <| c_ (ln_ Try.underlying22 fun _ env _ wd hA => (Facts.segN (hA.j.st.now).1 0 rfl).els) <| c_ mv_ <| c_ (ln_ Try.underlying22 fun _ env _ wd hA => (Facts.segN (hA.j.st.now).1 1 rfl).els) <| c_ (bi0 (vN pubS.length) (vN pubS.length) (h := by intro env w; (first | (simp [go_sem]; done) | (simp [go_sem]; rfl)))) <| e_) (k := fun E3 ac wd h_3 => ?_)
  clear h_2
  refine then_n ?_
  refine cF_ h_3 ?_
  refine wp_skip (then_n (wp_seq (wp_seq ?_)))
  refine rf_ h_3 [[0]] [K_ (vI 0)] (fun E4 => [(0, vI day), (1, vI off), (4, bF), (5, .slice ((sA (E2 0))) pubS.length ((sC (E2 0)))), (6, .slice ((sA (E2 1))) pubS.length ((sC (E2 1)))), (7, vI 0)]) (hs := c_ mv_ <| e_) (k := fun E4 ac wd h_4 => ?_)
  clear h_3
  refine then_n (wp_block ?_)
  refine wp_loop (fun ac wd => ∃ i : Nat, i ≤ pubS.length ∧ Cur 49 w0 none none (Facts [fun w => SegN w0.heap.size w (E2 0) pubS, fun w => SegN w0.heap.size w (E2 1) pubS]) (fun _ => True) [(0, vI day), (1, vI off), (5, .slice ((sA (E2 0))) pubS.length ((sC (E2 0)))), (6, .slice ((sA (E2 1))) pubS.length ((sC (E2 1)))), (7, vN i)] [] ac wd) (fun ac _ => ((pubS.length : Int) - sI ac 7).toNat) ⟨0, by omega, h_4.re rfl⟩ ?_
  rintro ac wd ⟨i, hi1, h_5⟩
  clear h_4
  have hmu : sI ac 7 = ((i : Nat) : Int) := sI_eq (h_5.g (t := 7) rfl)
  refine wp_seq (wp_seq ?_)
  by_cases h1 : i < pubS.length
  refine rf_ h_5 [[0],[1],[1,2],r_ 4] [K_ (vN i), K_ (.slice ((sA (E2 0))) pubS.length ((sC (E2 0)))), K_ (vN pubS.length), K_ bT] (fun E6 => [(0, vI day), (1, vI off), (5, .slice ((sA (E2 0))) pubS.length ((sC (E2 0)))), (6, .slice ((sA (E2 1))) pubS.length ((sC (E2 1)))), (7, vN i), (17, vN i), (18, .slice ((sA (E2 0))) pubS.length ((sC (E2 0)))), (19, vN pubS.length), (20, bT)]) (hs := c_ mv_ <| c_ mv_ <| c_ (ln_ Try.underlying22 fun _ env _ wd hA => (Facts.segN (hA.j.st.now).1 0 rfl).els) <| c_ (bi0 (vN i) (vN pubS.length)) <| e_) (k := fun E6 ac wd h_6 => ?_)
  clear h_5
  refine then_n ?_
  refine cT_ h_6 ?_
  refine wp_skip (then_n (wp_seq (wp_block (wp_seq ?_))))
  refine rf_ h_6 [[0],[1],[0,1,2],r_ 4,[4],[5],[4,5,6],[4,5,6,7],r_ 9] [K_ (.slice ((sA (E2 0))) pubS.length ((sC (E2 0)))), K_ (vN i), K_ (elt (.slice ((sA (E2 0))) pubS.length ((sC (E2 0)))) (i * 4)), K_ (vSg (sgi pubS i)), K_ (.slice ((sA (E2 1))) pubS.length ((sC (E2 1)))), K_ (vN i), K_ (elt (.slice ((sA (E2 1))) pubS.length ((sC (E2 1)))) (i * 4)), K_ (vSg (sgi pubS i)), K_ bF] (fun E7 => [(0, vI day), (1, vI off), (5, .slice ((sA (E2 0))) pubS.length ((sC (E2 0)))), (6, .slice ((sA (E2 1))) pubS.length ((sC (E2 1)))), (7, vN i), (17, vN i), (18, .slice ((sA (E2 0))) pubS.length ((sC (E2 0)))), (19, vN pubS.length), (20, bT), (23, .slice ((sA (E2 0))) pubS.length ((sC (E2 0)))), (24, vN i), (25, elt (.slice ((sA (E2 0))) pubS.length ((sC (E2 0)))) (i * 4)), (26, vSg (sgi pubS i)), (27, .slice ((sA (E2 1))) pubS.length ((sC (E2 1)))), (28, vN i), (29, elt (.slice ((sA (E2 1))) pubS.length ((sC (E2 1)))) (i * 4)), (30, vSg (sgi pubS i)), (31, bF)]) (hs := c_ mv_ <| c_ mv_ <| c_ (ia_ Try.underlying22 sz25 i (i * 4) ((i : Nat) : Int) (fun _ env _ wd hA => (Facts.segN (hA.j.st.now).1 0 rfl).els) (rfl) (by omega) rfl) <| c_ (le_ (i * 4) (fun _ env _ wd hA => (Facts.segN (hA.j.st.now).1 0 rfl).els) (by omega) (le25 (by exact sgC_0 pubS i) (by exact sgC_1 pubS i) (by exact sgC_2 pubS i) (by exact sgC_3 pubS i))) <| c_ mv_ <| c_ mv_ <| c_ (ia_ Try.underlying22 sz25 i (i * 4) ((i : Nat) : Int) (fun _ env _ wd hA => (Facts.segN (hA.j.st.now).1 1 rfl).els) (rfl) (by omega) rfl) <| c_ (le_ (i * 4) (fun _ env _ wd hA => (Facts.segN (hA.j.st.now).1 1 rfl).els) (by omega) (le25 (by exact sgC_0 pubS i) (by exact sgC_1 pubS i) (by exact sgC_2 pubS i) (by exact sgC_3 pubS i))) <| c_ (bi0 (vSg (sgi pubS i)) (vSg (sgi pubS i)) (h := by intro env w; (first | (simp [go_sem]; done) | (simp [go_sem]; rfl)))) <| e_) (k := fun E7 ac wd h_7 => ?_)
  clear h_6
  refine then_n ?_
  refine cF_ h_7 ?_
  refine wp_skip (blk_n (then_n ?_))
  refine rf_ h_7 (tri 3) [K_ (vN i), K_ (vI (((i : Nat) : Int) + 1)), K_ (vI (((i : Nat) : Int) + 1))] (fun E8 => [(0, vI day), (1, vI off), (5, .slice ((sA (E2 0))) pubS.length ((sC (E2 0)))), (6, .slice ((sA (E2 1))) pubS.length ((sC (E2 1)))), (7, vI (((i : Nat) : Int) + 1)), (17, vN i), (18, .slice ((sA (E2 0))) pubS.length ((sC (E2 0)))), (19, vN pubS.length), (20, bT), (21, vN i), (22, vI (((i : Nat) : Int) + 1)), (23, .slice ((sA (E2 0))) pubS.length ((sC (E2 0)))), (24, vN i), (25, elt (.slice ((sA (E2 0))) pubS.length ((sC (E2 0)))) (i * 4)), (26, vSg (sgi pubS i)), (27, .slice ((sA (E2 1))) pubS.length ((sC (E2 1)))), (28, vN i), (29, elt (.slice ((sA (E2 1))) pubS.length ((sC (E2 1)))) (i * 4)), (30, vSg (sgi pubS i)), (31, bF)]) (hs := c_ mv_ <| c_ (bi0 (vN i) (vI 1)) <| c_ mv_ <| e_) (k := fun E8 ac wd h_8 => ?_)
  clear h_7
  refine then_n ?_
  exact ⟨⟨i + 1, by omega, h_8.re rfl⟩, by rw [sI_eq (h_8.g (t := 7) rfl), hmu]; omega⟩
  obtain rfl : i = pubS.length := by omega
  refine rf_ h_5 [[0],[1],[1,2],r_ 4] [K_ (vN pubS.length), K_ (.slice ((sA (E2 0))) pubS.length ((sC (E2 0)))), K_ (vN pubS.length), K_ bF] (fun E6 => [(0, vI day), (1, vI off), (5, .slice ((sA (E2 0))) pubS.length ((sC (E2 0)))), (6, .slice ((sA (E2 1))) pubS.length ((sC (E2 1)))), (7, vN pubS.length), (17, vN pubS.length), (18, .slice ((sA (E2 0))) pubS.length ((sC (E2 0)))), (19, vN pubS.length), (20, bF)]) (hs := c_ mv_ <| c_ mv_ <| c_ (ln_ Try.underlying22 fun _ env _ wd hA => (Facts.segN (hA.j.st.now).1 0 rfl).els) <| c_ (bi0 (vN pubS.length) (vN pubS.length)) <| e_) (k := fun E6 ac wd h_6 => ?_)
  clear h_5
  refine then_n ?_
  refine cF_ h_6 ?_
  refine wp_exit (then_e (then_e (blk_x (then_n (wp_seq ?_)))))
  cases hm : mayS pubS day off
  refine rf_ h_6 [[0],[1],[2],r_ 4,r_ 5,r_ 6,[0,1,2,3,4,6],[0,1,2,3,4,5,7],r_ 9] [K_ (.slice ((sA (E2 0))) pubS.length ((sC (E2 0)))), K_ (vI day), K_ (vI off), K_ (vT2 (.pointer none) (vI 10)), K_ (vT2 (.pointer none) (vI 10)), K_ (.pointer none), K_ (vI 10), K_ (.pointer none), K_ (vI 10)] (fun E7 => [(0, vI day), (1, vI off), (6, .slice ((sA (E2 1))) pubS.length ((sC (E2 1)))), (9, vI 10)]) (hs := c_ mv_ <| c_ mv_ <| c_ mv_ <| c_ (cw_ Try.func7 (h := fun _ env _ wd hA => ⟨_, rNew_no wd ((sA (E2 0))) ((sC (E2 0))) pubS (Facts.segN (hA.j.st.now).1 0 rfl) day off hd0 hd1 hm, rfl⟩)) <| c_ mv_ <| c_ ext_ <| c_ ext_ <| c_ mv_ <| c_ mv_ <| e_) (k := fun E7 ac wd h_7 => ?_)
  clear h_6
  refine then_n (wp_seq ?_)
  refine rf_ h_7 [[0],[0,1],[0,1,2],r_ 4,[0,1,4],[0,1,5],[0,1,6],[0,1,4,5,6,7],r_ 9,r_ 10,r_ 11] [K_ bT, K_ bT, K_ (vI 10), K_ bF, K_ (.slice ((sA (E2 1))) pubS.length ((sC (E2 1)))), K_ (vI day), K_ (vI off), K_ bF, K_ bT, K_ bT, K_ bT] (fun E8 => [(4, bT)]) (hs := c_ (cl_ Try.func8 (h := fun env => ⟨_, answers14_any, rfl⟩)) <| c_ mv_ <| c_ (gm0 (vI 10)) <| c_ (bi0 (vI 10) (vI 0)) <| c_ (gm0 (.slice ((sA (E2 1))) pubS.length ((sC (E2 1))))) <| c_ (gm0 (vI day)) <| c_ (gm0 (vI off)) <| c_ (cw_ Try.func9 (h := fun _ env _ wd hA => ⟨_, (res_eq (May_any wd ((sA (E2 1))) ((sC (E2 1))) pubS (Facts.segN (hA.j.st.now).1 1 rfl) day off) (congrArg Value.bool hm)), rfl⟩)) <| c_ (bi0 bF bF (h := by intro env w; (first | (simp [go_sem]; done) | (simp [go_sem]; rfl)))) <| c_ (pk0 bT bT bF (h := by intro env w; (first | (simp [go_sem]; done) | (simp [go_sem]; rfl)))) <| c_ mv_ <| e_) (k := fun E8 ac wd h_8 => ?_)
  clear h_7
  refine then_n (wp_ret ?_)
  refine lvT Try.results3 h_8 ?_
  exact ⟨rfl, h_8.st.below⟩
  refine rf_ h_6 [[0],[1],[2],r_ 4,r_ 5,r_ 6,[0,1,2,3,4,6],[0,1,2,3,4,5,7],r_ 9] [K_ (.slice ((sA (E2 0))) pubS.length ((sC (E2 0)))), K_ (vI day), K_ (vI off), KE_ fun env => vT2 (vP (ptrB (tp (env 3) 0)) 0) (vI 0), KE_ fun env => vT2 (vP (ptrB (tp (env 3) 0)) 0) (vI 0), KE_ fun env => vP (ptrB (tp (env 3) 0)) 0, K_ (vI 0), KE_ fun env => vP (ptrB (tp (env 3) 0)) 0, K_ (vI 0)] (fun E7 => [(0, vI day), (1, vI off), (6, .slice ((sA (E2 1))) pubS.length ((sC (E2 1)))), (9, vI 0)]) (F := [(3, fun env w => NewX none w (env 3) pubS day off)]) (L1 := fun E7 => [fun w => SegN w0.heap.size w (E2 0) pubS, fun w => SegN w0.heap.size w (E2 1) pubS, fun w => NewX none w (E7 3) pubS day off]) (hs := c_ mv_ <| c_ mv_ <| c_ mv_ <| c_ (s_factT rfl rfl rfl Try.func7 (by kernel_rfl) rfl (fun _ => wanted_none rfl _) (fun v w => NewX none w v pubS day off) newF rfl rfl [57, 59] rfl (fun v w h => h.form) (fun v w w' hk h => h.keep hk) (fun {D env ac wd} hA => ⟨_, hA.args (vs := [.slice ((sA (E2 0))) pubS.length ((sC (E2 0))), vI day, vI off]) rfl, rNew_yes wd ((sA (E2 0))) ((sC (E2 0))) pubS (Facts.segN (hA.j.st.now).1 0 rfl) day off hd0 hd1 hm (fun k h => by cases h)⟩)) <| c_ mv_ <| c_ ext_ <| c_ ext_ <| c_ mv_ <| c_ mv_ <| e_) (k := fun E7 ac wd h_7 => ?_)
  clear h_6
  refine then_n (wp_seq ?_)
  refine rf_ h_7 [[0],[0,1],[0,1,2],r_ 4,[0,1,4],[0,1,5],[0,1,6],[0,1,4,5,6,7],r_ 9,r_ 10,r_ 11] [K_ bT, K_ bT, K_ (vI 0), K_ bT, K_ (.slice ((sA (E2 1))) pubS.length ((sC (E2 1)))), K_ (vI day), K_ (vI off), K_ bT, K_ bT, K_ bT, K_ bT] (fun E8 => [(4, bT)]) (hs := c_ (cl_ Try.func8 (h := fun env => ⟨_, answers14_any, rfl⟩)) <| c_ mv_ <| c_ (gm0 (vI 0)) <| c_ (bi0 (vI 0) (vI 0) (h := by intro env w; (first | (simp [go_sem]; done) | (simp [go_sem]; rfl)))) <| c_ (gm0 (.slice ((sA (E2 1))) pubS.length ((sC (E2 1))))) <| c_ (gm0 (vI day)) <| c_ (gm0 (vI off)) <| c_ (cw_ Try.func9 (h := fun _ env _ wd hA => ⟨_, (res_eq (May_any wd ((sA (E2 1))) ((sC (E2 1))) pubS (Facts.segN (hA.j.st.now).1 1 rfl) day off) (congrArg Value.bool hm)), rfl⟩)) <| c_ (bi0 bT bT (h := by intro env w; (first | (simp [go_sem]; done) | (simp [go_sem]; rfl)))) <| c_ (pk0 bT bT bF (h := by intro env w; (first | (simp [go_sem]; done) | (simp [go_sem]; rfl)))) <| c_ mv_ <| e_) (k := fun E8 ac wd h_8 => ?_)
  clear h_7
  refine then_n (wp_ret ?_)
  refine lvT Try.results3 h_8 ?_
  exact ⟨rfl, h_8.st.below⟩
end Go.Proofs.Ytdfkghpgekmmlaa

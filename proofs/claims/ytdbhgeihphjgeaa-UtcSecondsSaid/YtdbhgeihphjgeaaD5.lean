/- Walks of package leaps: the marks, made when they are wanted first; counting; the search. -/
import Derived.Test.YtdbhgeihphjgeaaD4
import Derived.Deep.Onto
import Derived.Shelf.SlSorted.Search
namespace Go.Proofs.Ytdbhgeihphjgeaa
open Go.RowKit
set_option linter.unusedVariables false
set_option linter.unusedSimpArgs false

set_option maxRecDepth 100000 in
set_option maxHeartbeats 1600000 in
theorem do_any (g ge : Nat) (u x a7 mv : Value) (d : Int) (es : List (Int × Int)) (w : World) (hok : okPre es es.length = true)
    (hg : Blk w g 111 #[u, x, .slice (some ⟨ge, 0, none⟩) es.length es.length, .int .u32 d, .int .i32 0, .int .u32 0, mv, a7]) (he : Blk w ge 43 (es.flatMap entC).toArray) (hm : marksOf w 0 es d mv) :
    Calls Try.prog 100 #[.pointer (some ⟨g, 3, none⟩), .func (.func 101) #[.pointer (some ⟨g, 0, none⟩)] #[]] w fun e w' => e = .returned (.tuple #[]) ∧ ∃ mv', Blk w' g 111 #[u, x, .slice (some ⟨ge, 0, none⟩) es.length es.length, .int .u32 1, .int .i32 0, .int .u32 0, mv', a7] ∧
      w'.ownsRow 0 115 3 mv' es.length (es.flatMap markC) ∧ w.grownBy w' (some g) := by
  have hnot : ∀ (x : Bool) (w : World), (Op.unary .not (.bool x)).run Try.prog w = .ok (.bool (!x)) w := fun _ _ => rfl
  have h3 := hg.cell 3
  simp at h3
  rcases hm with ⟨rfl, rfl⟩ | ⟨rfl, hown⟩
  · have hl := run_call_load (P := Try.prog) Try.func137 (by kernel_rfl) (by kernel_rfl) (by kernel_rfl) .u32 (by kernel_rfl) h3
    have hs := slow_any g ge u x a7 es w hok hg he
    have HS := Lib.hid hs
    clear hs hg he hok
    go_enter Try.func100, Try.ntmps100
    go_wp2_with (first | (go_at_call 122; refine HS.out.mono ?_; rintro e w2 ⟨rfl, mv, hm1, hm2, hm3⟩) | (go_at_call 121; go_in))
    go_end0
    exact ⟨rfl, mv, hm1, hm2.mono (Nat.zero_le _), hm3⟩
  · have hl := run_call_load (P := Try.prog) Try.func137 (by kernel_rfl) (by kernel_rfl) (by kernel_rfl) .u32 (by kernel_rfl) h3
    have HG := Lib.hid hg
    have HO := Lib.hid hown
    clear hg hown he hok
    go_enter Try.func100, Try.ntmps100
    go_wp2
    go_end0
    exact ⟨rfl, mv, HG.out, HO.out, World.grownBy.refl _ _⟩

theorem okT_pre {u x : Int} {es : List (Int × Int)} (h : okT u x es = true) : okPre es es.length = true ∧ 0 < es.length ∧ es.length ≤ 64 := by
  simp only [okT, Bool.and_eq_true, Bool.not_eq_true', List.isEmpty_eq_false_iff] at h
  exact ⟨h.1.1.1, List.length_pos_iff.2 h.1.1.2, okPre_len h.1.1.1⟩

set_option maxRecDepth 100000 in
set_option maxHeartbeats 1600000 in
theorem all_any (g : Nat) (u x q : Int) (es : List (Int × Int)) (w : World) (h : IsL w g u x es q) :
    Calls Try.prog 59 #[.pointer (some ⟨g, 0, none⟩)] w fun e w' => ∃ mv, e = .returned mv ∧ IsLM w' g u x es q mv ∧ w.grownBy w' (some g) := by
  obtain ⟨hok, ge, d, mv, hlt, hg, he, hm⟩ := h
  have hp := (okT_pre hok).1
  have hd := do_any g ge (.int .i64 u) (.int .i64 x) (.int .i64 q) mv d es w hp hg he hm
  have HD := Lib.hid hd
  have HE := Lib.hid he
  have HOK := Lib.hid hok
  have hgl := hg.lt
  have hfn : ∀ (fn : Fn) (first cap : Array Value) (w : World), (Instr.makeFunc fn first cap).run Try.prog w = .ok (.func fn first cap) w := fun _ _ _ _ => rfl
  clear hd he hok hg hm hp
  go_enter Try.func59, Try.ntmps59
  go_wp2_with (go_at_call 100; refine HD.out.mono ?_; rintro e w2 ⟨rfl, mv', hm1, hm2, hm3⟩; have k6 := hm1.cell 6; simp at k6; have HM1 := Lib.hid hm1; clear hm1)
  go_ret
  exact ⟨mv', rfl, ⟨HOK.out, ge, hlt, HM1.out, HE.out.grown hm3 (by simp; omega), hm2⟩, hm3⟩

theorem IsLM.isL {w : World} {g : Nat} {u x q : Int} {es : List (Int × Int)} {mv : Value} (h : IsLM w g u x es q mv) : IsL w g u x es q := by
  obtain ⟨hok, ge, hlt, hg, he, ho⟩ := h
  exact ⟨hok, ge, 1, mv, hlt, hg, he, .inr ⟨rfl, ho⟩⟩

/-! ### the search -/
def search_ren : Go.Shelf.Ren := ⟨fun | 16 => 60 | n => n, fun | 3 => 3 | 4 => 4 | 35 => 49 | 38 => 151 | n => n, fun n => n⟩
theorem search_lays : SlLaysO.n16 Try.prog search_ren := { mixed := by kernel_rfl, f16 := Try.func60.trans (congrArg some (by kernel_rfl)), t3 := Try.underlying3, a3 := Try.isAgg3, z3 := Try.sizeOf3, v3 := Try.zeroValue3, t4 := Try.underlying4, a4 := Try.isAgg4, z4 := Try.sizeOf4, v4 := Try.zeroValue4, t35 := Try.underlying49, a35 := Try.isAgg49, z35 := Try.sizeOf49, v35 := Try.zeroValue49, t38 := Try.underlying151, a38 := Try.isAgg151, z38 := Try.sizeOf151, v38 := Try.zeroValue151 }

theorem grow_below (w : World) (q : Nat) (os : Array Obj) : Below w.heap.size w (Go.Sort.grow (w.drewN q) os) := below_grown_sl w.heap.size w q os (Nat.le_refl _)

theorem search_any (g : Nat) (cb : Array Value) (n : Nat) (p : Nat → Bool) (w : World) (eg : ∀ args w, (callFunc g args).run Try.prog w = .ok (.enter g args) w) (hsz : n < 4611686018427387904)
    (hf : ∀ (W : World), Below w.heap.size w W → ∀ i : Nat, i < n → Calls Try.prog g (#[.int .i64 i] ++ cb) W fun e w' => e = .returned (.bool (p i)) ∧ ∃ q, w' = W.drewN q)
    (hmono : ∀ a b, a ≤ b → b < n → p a = true → p b = true) :
    Calls Try.prog 60 #[.int .i64 n, .func (.func g) #[] cb] w fun e w' => e = .returned (.int .i64 ((List.range n).countP (fun i => !p i) : Nat)) ∧ Below w.heap.size w w' := by
  have h := Any.sort_Search search_lays g cb n p w eg hsz (fun m os i hi => (hf _ (grow_below w m os) i hi).mono (fun e w' ⟨h1, q, h2⟩ => ⟨h1, q, #[], by rw [h2]; exact (Go.Sort.grow_empty _).symm⟩)) hmono
  exact h.mono (fun e w' ⟨h1, q, os, h2⟩ => ⟨h1, by rw [h2]; exact grow_below w q os⟩)
end Go.Proofs.Ytdbhgeihphjgeaa

/- Walks of package leaps: the marks, made when they are wanted first; counting; the search. -/
import Derived.Test.YtibdhpffdkiggaaGreatD4
import Derived.Deep.Onto
import Derived.Shelf.SlSorted.Search
namespace Go.Proofs.YtibdhpffdkiggaaGreat
open Go.RowKit
set_option linter.unusedVariables false
set_option linter.unusedSimpArgs false

set_option maxRecDepth 100000 in
set_option maxHeartbeats 1600000 in
theorem do_any (g ge : Nat) (u x a7 mv : Value) (d : Int) (es : List (Int × Int)) (w : World) (hok : okPre es es.length = true)
    (hg : Blk w g 70 #[u, x, .slice (some ⟨ge, 0, none⟩) es.length es.length, .int .u32 d, .int .i32 0, .int .u32 0, mv, a7]) (he : Blk w ge 72 (es.flatMap entC).toArray) (hm : marksOf w 0 es d mv) :
    Calls Tryz.prog 63 #[.pointer (some ⟨g, 3, none⟩), .func (.func 64) #[.pointer (some ⟨g, 0, none⟩)] #[]] w fun e w' => e = .returned (.tuple #[]) ∧ ∃ mv', Blk w' g 70 #[u, x, .slice (some ⟨ge, 0, none⟩) es.length es.length, .int .u32 1, .int .i32 0, .int .u32 0, mv', a7] ∧
      w'.ownsRow 0 101 3 mv' es.length (es.flatMap markC) ∧ w.grownBy w' (some g) := by
  have hnot : ∀ (x : Bool) (w : World), (Op.unary .not (.bool x)).run Tryz.prog w = .ok (.bool (!x)) w := fun _ _ => rfl
  have h3 := hg.cell 3
  simp at h3
  rcases hm with ⟨rfl, rfl⟩ | ⟨rfl, hown⟩
  · have hl := run_call_load (P := Tryz.prog) Tryz.func90 (by kernel_rfl) (by kernel_rfl) (by kernel_rfl) .u32 (by kernel_rfl) h3
    have hs := slow_any g ge u x a7 es w hok hg he
    have HS := Lib.hid hs
    clear hs hg he hok
    go_enter Tryz.func63, Tryz.ntmps63
    go_wp2_with (first | (go_at_call 81; refine HS.out.mono ?_; rintro e w2 ⟨rfl, mv, hm1, hm2, hm3⟩) | (go_at_call 80; go_in))
    go_end0
    exact ⟨rfl, mv, hm1, hm2.mono (Nat.zero_le _), hm3⟩
  · have hl := run_call_load (P := Tryz.prog) Tryz.func90 (by kernel_rfl) (by kernel_rfl) (by kernel_rfl) .u32 (by kernel_rfl) h3
    have HG := Lib.hid hg
    have HO := Lib.hid hown
    clear hg hown he hok
    go_enter Tryz.func63, Tryz.ntmps63
    go_wp2
    go_end0
    exact ⟨rfl, mv, HG.out, HO.out, World.grownBy.refl _ _⟩

theorem okT_pre {u x : Int} {es : List (Int × Int)} (h : okT u x es = true) : okPre es es.length = true ∧ 0 < es.length ∧ es.length ≤ 64 := by
  simp only [okT, Bool.and_eq_true, Bool.not_eq_true', List.isEmpty_eq_false_iff] at h
  exact ⟨h.1.1.1, List.length_pos_iff.2 h.1.1.2, okPre_len h.1.1.1⟩

set_option maxRecDepth 100000 in
set_option maxHeartbeats 1600000 in
theorem all_any (g : Nat) (u x q : Int) (es : List (Int × Int)) (w : World) (h : IsL w g u x es q) :
    Calls Tryz.prog 46 #[.pointer (some ⟨g, 0, none⟩)] w fun e w' => ∃ mv, e = .returned mv ∧ IsLM w' g u x es q mv ∧ w.grownBy w' (some g) := by
  obtain ⟨hok, ge, d, mv, hlt, hg, he, hm⟩ := h
  have hp := (okT_pre hok).1
  have hd := do_any g ge (.int .i64 u) (.int .i64 x) (.int .i64 q) mv d es w hp hg he hm
  have HD := Lib.hid hd
  have HE := Lib.hid he
  have HOK := Lib.hid hok
  have hgl := hg.lt
  have hfn : ∀ (fn : Fn) (first cap : Array Value) (w : World), (Instr.makeFunc fn first cap).run Tryz.prog w = .ok (.func fn first cap) w := fun _ _ _ _ => rfl
  clear hd he hok hg hm hp
  go_enter Tryz.func46, Tryz.ntmps46
  go_wp2_with (go_at_call 63; refine HD.out.mono ?_; rintro e w2 ⟨rfl, mv', hm1, hm2, hm3⟩; have k6 := hm1.cell 6; simp at k6; have HM1 := Lib.hid hm1; clear hm1)
  go_ret
  exact ⟨mv', rfl, ⟨HOK.out, ge, hlt, HM1.out, HE.out.grown hm3 (by simp; omega), hm2⟩, hm3⟩

theorem IsLM.isL {w : World} {g : Nat} {u x q : Int} {es : List (Int × Int)} {mv : Value} (h : IsLM w g u x es q mv) : IsL w g u x es q := by
  obtain ⟨hok, ge, hlt, hg, he, ho⟩ := h
  exact ⟨hok, ge, 1, mv, hlt, hg, he, .inr ⟨rfl, ho⟩⟩

/-! ### the search -/
def search_ren : Go.Shelf.Ren := ⟨fun | 16 => 47 | n => n, fun | 3 => 3 | 4 => 4 | 35 => 77 | 38 => 107 | n => n, fun n => n⟩
theorem search_lays : SlLaysO.n16 Tryz.prog search_ren := { mixed := by kernel_rfl, f16 := Tryz.func47.trans (congrArg some (by kernel_rfl)), t3 := Tryz.underlying3, a3 := Tryz.isAgg3, z3 := Tryz.sizeOf3, v3 := Tryz.zeroValue3, t4 := Tryz.underlying4, a4 := Tryz.isAgg4, z4 := Tryz.sizeOf4, v4 := Tryz.zeroValue4, t35 := Tryz.underlying77, a35 := Tryz.isAgg77, z35 := Tryz.sizeOf77, v35 := Tryz.zeroValue77, t38 := Tryz.underlying107, a38 := Tryz.isAgg107, z38 := Tryz.sizeOf107, v38 := Tryz.zeroValue107 }

theorem grow_below (w : World) (q : Nat) (os : Array Obj) : Below w.heap.size w (Go.Sort.grow (w.drewN q) os) := below_grown_sl w.heap.size w q os (Nat.le_refl _)

theorem search_any (g : Nat) (cb : Array Value) (n : Nat) (p : Nat → Bool) (w : World) (eg : ∀ args w, (callFunc g args).run Tryz.prog w = .ok (.enter g args) w) (hsz : n < 4611686018427387904)
    (hf : ∀ (W : World), Below w.heap.size w W → ∀ i : Nat, i < n → Calls Tryz.prog g (#[.int .i64 i] ++ cb) W fun e w' => e = .returned (.bool (p i)) ∧ ∃ q, w' = W.drewN q)
    (hmono : ∀ a b, a ≤ b → b < n → p a = true → p b = true) :
    Calls Tryz.prog 47 #[.int .i64 n, .func (.func g) #[] cb] w fun e w' => e = .returned (.int .i64 ((List.range n).countP (fun i => !p i) : Nat)) ∧ Below w.heap.size w w' := by
  have h := Any.sort_Search search_lays g cb n p w eg hsz (fun m os i hi => (hf _ (grow_below w m os) i hi).mono (fun e w' ⟨h1, q, h2⟩ => ⟨h1, q, #[], by rw [h2]; exact (Go.Sort.grow_empty _).symm⟩)) hmono
  exact h.mono (fun e w' ⟨h1, q, os, h2⟩ => ⟨h1, by rw [h2]; exact grow_below w q os⟩)
end Go.Proofs.YtibdhpffdkiggaaGreat

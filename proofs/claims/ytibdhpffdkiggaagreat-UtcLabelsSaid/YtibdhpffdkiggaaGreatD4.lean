/- Walks of package leaps: the marks are made once (sync.Once, in one goroutine). The parts follow the guide's worked text Lazy. -/
import Derived.Test.YtibdhpffdkiggaaGreatD3
import Derived.Defers
import Derived.Laws.Pointers
import Derived.Laws.LoneSync
import Derived.RegionTactic
import Derived.RegionCalls
namespace Go.Proofs.YtibdhpffdkiggaaGreat
open Go.RowKit
set_option linter.unusedVariables false
set_option linter.unusedSimpArgs false

theorem disable (w : World) : (callFunc 101 #[]).run Tryz.prog w = .ok (.value (.tuple #[])) w := run_call_mark0 Tryz.func101 (by kernel_rfl) (by kernel_rfl) (by kernel_rfl) .disable (by kernel_rfl) w
theorem enable (w : World) : (callFunc 103 #[]).run Tryz.prog w = .ok (.value (.tuple #[])) w := run_call_mark0 Tryz.func103 (by kernel_rfl) (by kernel_rfl) (by kernel_rfl) .enable (by kernel_rfl) w
theorem acquire (a : Addr) (w : World) : (callFunc 104 #[.pointer (some a)]).run Tryz.prog w = .ok (.value (.tuple #[])) w := run_call_marked Tryz.func104 (by kernel_rfl) (by kernel_rfl) (by kernel_rfl) .acquire (by kernel_rfl) a w
theorem releaseMerge (a : Addr) (w : World) : (callFunc 106 #[.pointer (some a)]).run Tryz.prog w = .ok (.value (.tuple #[])) w := run_call_marked Tryz.func106 (by kernel_rfl) (by kernel_rfl) (by kernel_rfl) .releaseMerge (by kernel_rfl) a w

theorem store_deferred (a : Addr) (x : Value) (u : FrameMode) (w : World) (hc : w.cell? a = some x) (hz : w.frozen? a = false) :
    CallsD Tryz.prog 93 #[.pointer (some a), .bool true] u w fun e u' w' => u' = u ∧ (e = .returned (.tuple #[]) ∧ w' = w.drew.setCell a (.int .u32 1)) := by
  have hc' : w.drew.cell? a = some x := by go_simp
  have hz' : w.drew.frozen? a = false := by go_simp
  have hst := run_call_store (P := Tryz.prog) Tryz.func98 (by kernel_rfl) (by kernel_rfl) (by kernel_rfl) (by kernel_rfl) (k := .u32) (y := 1) hc' hz'
  go_enter_d Tryz.func93, Tryz.ntmps93
  go_wp2
  go_region_calls
  all_goals (go_end0; exact ⟨rfl, rfl⟩)

set_option maxRecDepth 100000 in
theorem unlock_deferred (a : Addr) (u : FrameMode) (w : World) (hc : w.cell? a = some (.int .i32 1)) (hz : w.frozen? a = false) :
    CallsD Tryz.prog 92 #[.pointer (some a)] u w fun e u' w' => u' = u ∧ (e = .returned (.tuple #[]) ∧ w' = w.setCell a (.int .i32 0)) := by
  have hd := disable
  have he := enable
  have hr := releaseMerge
  have hadd := run_call_add (P := Tryz.prog) Tryz.func107 (by kernel_rfl) (by kernel_rfl) (by kernel_rfl) .i32 (by kernel_rfl) (y := -1) (s := 0) hc hz (by simp [go_sem]; rfl)
  have hcv := run_convert_to_unsafe (P := Tryz.prog) (src := 156) (dst := 160) Tryz.underlying156 Tryz.underlying160 (by kernel_rfl) hc
  go_enter_d Tryz.func92, Tryz.ntmps92
  go_wp2
  go_end0
  go_wp2
  go_end0
  exact ⟨rfl, rfl⟩

set_option maxRecDepth 100000 in
theorem lock_free (a : Addr) (w : World) (hc : w.cell? a = some (.int .i32 0)) (hz : w.frozen? a = false) :
    Calls Tryz.prog 91 #[.pointer (some a)] w fun e w' => e = .returned (.tuple #[]) ∧ w' = w.setCell a (.int .i32 1) := by
  have hd := disable
  have he := enable
  have ha := acquire
  have hcas := run_call_cas_hit (P := Tryz.prog) Tryz.func102 (by kernel_rfl) (by kernel_rfl) (by kernel_rfl) .i32 (by kernel_rfl) (y := 1) hc hz
  have hc' : (w.setCell a (.int .i32 1)).cell? a = some (.int .i32 1) := World.cell?_setCell_same w a _ hc
  have hcv := run_convert_to_unsafe (P := Tryz.prog) (src := 156) (dst := 160) Tryz.underlying156 Tryz.underlying160 (by kernel_rfl) hc'
  go_enter Tryz.func91, Tryz.ntmps91
  go_wp2
  first | go_end0 | (simp only [Exit.inBlock, Exit.then]; refine bodyPost_ret (results_none rfl _ _ _) rfl ?_) | refine bodyPost_ret (results_none rfl _ _ _) rfl ?_
  go_wp2
  go_end0
  exact ⟨rfl, rfl⟩

set_option maxRecDepth 100000 in
set_option maxHeartbeats 1600000 in
theorem slow_any (g ge : Nat) (u x a7 : Value) (es : List (Int × Int)) (w : World) (hok : okPre es es.length = true)
    (hg : Blk w g 70 #[u, x, .slice (some ⟨ge, 0, none⟩) es.length es.length, .int .u32 0, .int .i32 0, .int .u32 0, .slice none 0 0, a7]) (he : Blk w ge 72 (es.flatMap entC).toArray) :
    Calls Tryz.prog 81 #[.pointer (some ⟨g, 3, none⟩), .func (.func 64) #[.pointer (some ⟨g, 0, none⟩)] #[]] w fun e w' => e = .returned (.tuple #[]) ∧ ∃ mv, Blk w' g 70 #[u, x, .slice (some ⟨ge, 0, none⟩) es.length es.length, .int .u32 1, .int .i32 0, .int .u32 0, mv, a7] ∧
      w'.ownsRow w.heap.size 101 3 mv es.length (es.flatMap markC) ∧ w.grownBy w' (some g) := by
  have h4 := hg.cell 4
  have f4 := hg.frozen 4
  simp at h4
  have hg1 := hg.set_ 4 (.int .i32 1)
  have hgl := hg.lt
  have hge : g ≠ ge := by
    intro h; subst h
    unfold Blk at he hg
    rw [he] at hg
    simp at hg
  have he1 := he.far (p := ⟨g, 4, none⟩) (Ne.symm hge) (.int .i32 1)
  have hgr : w.grownBy (w.setCell ⟨g, 4, none⟩ (.int .i32 1)) (some g) := gr_set (World.grownBy.refl w _) (.inl rfl) _
  have hsz1 : (w.setCell ⟨g, 4, none⟩ (.int .i32 1)).heap.size = w.heap.size := by simp [World.setCell]
  have hl := run_call_load (P := Tryz.prog) Tryz.func90 (by kernel_rfl) (by kernel_rfl) (by kernel_rfl) .u32 (by kernel_rfl) (w := w.setCell ⟨g, 4, none⟩ (.int .i32 1)) (a := ⟨g, 3, none⟩) (x := 0) (by have := hg1.cell 3; simpa using this)
  have hmk := make_any g ge u x (.int .u32 0) (.int .i32 1) (.int .u32 0) a7 es (w.setCell ⟨g, 4, none⟩ (.int .i32 1)) hok (by simpa using hg1) he1
  rw [hsz1] at hmk
  have hlock := lock_free ⟨g, 4, none⟩ w h4 f4
  have HG1 := Lib.hid hg1
  have HE := Lib.hid he1
  have HGR := Lib.hid hgr
  have HMK := Lib.hid hmk
  have HL := Lib.hid hlock
  clear hg hg1 he he1 hgr hmk hlock h4 f4 hok hsz1
  have hnot : ∀ (x : Bool) (w : World), (Op.unary .not (.bool x)).run Tryz.prog w = .ok (.bool (!x)) w := fun _ _ => rfl
  go_enter_defers Tryz.func81, Tryz.ntmps81
  go_wp2_with (go_at_call 91; refine HL.out.mono ?_; rintro e w' ⟨rfl, rfl⟩)
  generalize w.setCell ⟨g, 4, none⟩ (.int .i32 1) = w1 at *
  go_wp2_with (first | (go_at_call 64; refine HMK.out.mono ?_; rintro e w2 ⟨rfl, mv, hm1, hm2, hm3⟩) | (go_at_call 80; go_in))
  have k3 := hm1.cell 3
  have z3 := hm1.frozen 3
  simp at k3
  have p1 := (hm1.drew).set_ 3 (.int .u32 1)
  have k4 := p1.cell 4
  have z4 := p1.frozen 4
  simp at k4
  have p2 := p1.set_ 4 (.int .i32 0)
  have q2 := ownsRow_setCell_below (ownsRow_setCell_below hm2.drew (a := ⟨g, 3, none⟩) hgl (.int .u32 1)) (a := ⟨g, 4, none⟩) hgl (.int .i32 0)
  have r2 : w.grownBy ((w2.drew.setCell ⟨g, 3, none⟩ (.int .u32 1)).setCell ⟨g, 4, none⟩ (.int .i32 0)) (some g) := gr_set (gr_set (gr_dr (gr_tr HGR.out hm3 (.inl rfl))) (.inl rfl) _) (.inl rfl) _
  refine leaves_cons (f := 93) (args := #[.pointer (some ⟨g, 3, none⟩), .bool true]) (by simp) (by simp [go_sem]) ?_
  refine (store_deferred ⟨g, 3, none⟩ (.int .u32 0) .returning _ ?_ ?_).mono ?_
  · exact k3
  · exact z3
  rintro e u' w'' ⟨rfl, rfl, rfl⟩
  refine leaves_cons (f := 92) (args := #[.pointer (some ⟨g, 4, none⟩)]) (by simp [settle]) (by simp [go_sem]) ?_
  refine (unlock_deferred ⟨g, 4, none⟩ _ _ ?_ ?_).mono ?_
  · exact k4
  · exact z4
  rintro e u' w'' ⟨rfl, rfl, rfl⟩
  simp [Leaves, settle, results, Tryz.results81]
  exact ⟨mv, by simpa using p2, q2, r2⟩

/-- the marks of a Leaps: not made yet, or made -/
def marksOf (w : World) (B : Nat) (es : List (Int × Int)) (d : Int) (mv : Value) : Prop :=
  (d = 0 ∧ mv = .slice none 0 0) ∨ (d = 1 ∧ w.ownsRow B 101 3 mv es.length (es.flatMap markC))
/-- A Leaps at block g, of a table that may be; it was asked q times. -/
def IsL (w : World) (g : Nat) (u x : Int) (es : List (Int × Int)) (q : Int) : Prop :=
  okT u x es = true ∧ ∃ ge d mv, g ≠ ge ∧ Blk w g 70 #[.int .i64 u, .int .i64 x, .slice (some ⟨ge, 0, none⟩) es.length es.length, .int .u32 d, .int .i32 0, .int .u32 0, mv, .int .i64 q] ∧
    Blk w ge 72 (es.flatMap entC).toArray ∧ marksOf w 0 es d mv
/-- the same, and its marks are made: they are mv -/
def IsLM (w : World) (g : Nat) (u x : Int) (es : List (Int × Int)) (q : Int) (mv : Value) : Prop :=
  okT u x es = true ∧ ∃ ge, g ≠ ge ∧ Blk w g 70 #[.int .i64 u, .int .i64 x, .slice (some ⟨ge, 0, none⟩) es.length es.length, .int .u32 1, .int .i32 0, .int .u32 0, mv, .int .i64 q] ∧
    Blk w ge 72 (es.flatMap entC).toArray ∧ w.ownsRow 0 101 3 mv es.length (es.flatMap markC)
end Go.Proofs.YtibdhpffdkiggaaGreat

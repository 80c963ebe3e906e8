/- Words for segments in memory. Own work. -/
import Derived.Test.YtdbhgeihphjgeaaL13
import Derived.Test.YtdbhgeihphjgeaaP15
namespace Go.Proofs.Ytdbhgeihphjgeaa
open Go.RowKit
set_option linter.unusedVariables false
set_option linter.unusedSimpArgs false
abbrev vSg (s : Sg) : Value := .agg #[.int .i64 s.d, .int .i64 s.b, .int .i64 s.f, .int .i64 s.r]
/-- cell i of a row of segments -/
def sgC (l : List Sg) (i : Nat) : Value := vi (match i % 4 with | 0 => (sgi l (i / 4)).d | 1 => (sgi l (i / 4)).b | 2 => (sgi l (i / 4)).f | _ => (sgi l (i / 4)).r)
theorem sgC_0 (l : List Sg) (j : Nat) : sgC l (j * 4) = vi (sgi l j).d := by unfold sgC; rw [show j * 4 % 4 = 0 by omega, show j * 4 / 4 = j by omega]; rfl
theorem sgC_1 (l : List Sg) (j : Nat) : sgC l (j * 4 + 1) = vi (sgi l j).b := by unfold sgC; rw [show (j * 4 + 1) % 4 = 1 by omega, show (j * 4 + 1) / 4 = j by omega]; rfl
theorem sgC_2 (l : List Sg) (j : Nat) : sgC l (j * 4 + 2) = vi (sgi l j).f := by unfold sgC; rw [show (j * 4 + 2) % 4 = 2 by omega, show (j * 4 + 2) / 4 = j by omega]; rfl
theorem sgC_3 (l : List Sg) (j : Nat) : sgC l (j * 4 + 3) = vi (sgi l j).r := by unfold sgC; rw [show (j * 4 + 3) % 4 = 3 by omega, show (j * 4 + 3) / 4 = j by omega]; rfl
/-- a slice that reads as the segments l -/
abbrev SegU (w : World) (v : Value) (l : List Sg) : Prop := RowU w v l.length 4 (sgC l)
/-- .. in a block of its own type -/
abbrev SegT (w : World) (v : Value) (l : List Sg) : Prop := RowT 53 w v l.length 4 (sgC l)
/-- numbers of 64 bits -/
def Sg64 (s : Sg) : Prop := In64 s.d ∧ In64 s.b ∧ In64 s.f ∧ In64 s.r
end Go.Proofs.Ytdbhgeihphjgeaa

/-
  No cell of these rows narrows 'for every input' (looked for: loops, veiled, ifaces, maps, wideKeys, modest, calm, conditions, laid).
  DERIVED. THE GIVEN ROWS OF THIS SEAT. 10 by the template 'for every input the law returns true; each argument reads behind the call as it read before'; 0 by the template 'total and deterministic' (their statements: YtdfkghpgekmmlaaGreatTotals.lean).
  GIVEN WITH THE SEED: the statements are not yours to turn. If you find one false, say at which input.
  Laid BY PROGRAM, IN A SANDBOX (cutbox-rows.mjs): the forced cells as the released guide's own fill.sh prints them over the translation 6968cba32cb16cd9… (all of the seat's roots in one cut). By AI agents, Wed Nov 11 2026. No macro, syntax, notation, axiom, sorry.
-/
import Derived.Test.YtdfkghpgekmmlaaGreatChecked
import GoSem.Claim
import GoSem.ClaimJoined
import GoSem.ClaimMapViews
import Derived.JoinedTies
import Derived.KernelRfl
namespace Go.Proofs.YtdfkghpgekmmlaaGreat
/- THE CELL 'sum', in the pinned program and in every row, IS THE sha256 OF THE DUMP (.gsa) THAT YtdfkghpgekmmlaaGreatProg.lean LOADS. Nothing in Lean hashes anything: it is a label: what it is worth is what the hold of that sum in a sandbox is worth. -/
noncomputable def Tryz.pinned : Pinned := { name := "ytdfkghpgekmmlaagreat", sum := "6968cba32cb16cd96317b3f7b230cbf8fb4661e99e54b083ba41c9c6acf9fae9", checked := Tryz.checked }
namespace Rows
def none {H : Type} : Left H := { results := [], args := [] }

/-- 'epactlaw15.ClockTais': WHATEVER THE INPUT: true; the input reads as it did. -/
def clockTaisSpec : ChangeSpec := { name := "clockTais", fn := fun _ => fun
  | [d1, d2, d3] => { results := [.lit (.bool true)], args := [d1, d2, d3] }
  | _ => none }
def clockTaisRow : OpenClaim := { program := "ytdfkghpgekmmlaagreat", sum := "6968cba32cb16cd96317b3f7b230cbf8fb4661e99e54b083ba41c9c6acf9fae9", func := "epact/epactlaw15.ClockTais", spec := "clockTais", inPlace := ["sync/atomic.LoadUint32", "(*internal/sync.Mutex).Lock", "internal/race.Disable", "sync/atomic.CompareAndSwapInt32", "internal/race.Enable", "internal/race.Acquire", "(*internal/sync.Mutex).lockSlow", "internal/sync.runtime_canSpin", "internal/sync.runtime_doSpin", "internal/sync.throw", "internal/sync.runtime_nanotime", "internal/sync.runtime_SemacquireMutex", "sync/atomic.AddInt32", "(*internal/sync.Mutex).Unlock", "internal/race.ReleaseMerge", "(*internal/sync.Mutex).unlockSlow", "internal/sync.fatal", "internal/sync.runtime_Semrelease", "sync/atomic.StoreUint32", "math/bits.Sub64", "math/bits.Add64", "sync/atomic.AddInt64"], unfollowed := true, recurses := true, named := ["math/bits.divideError", "math/bits.overflowError"], apart := false }
def ClockTaisSaid : Prop := clockTaisRow.holds Tryz.pinned (OpenSpec.ofChange clockTaisSpec)

/-- ITS FALSE NEIGHBOUR: 'it returns false'. Refute it at one input. -/
def clockTaisWrong : ChangeSpec := { name := "clockTais", fn := fun _ => fun
  | [d1, d2, d3] => { results := [.lit (.bool false)], args := [d1, d2, d3] }
  | _ => none }
def ClockTaisWrongFalsely : Prop := clockTaisRow.holds Tryz.pinned (OpenSpec.ofChange clockTaisWrong)

/-- 'epactlaw15.ClockLabels': WHATEVER THE INPUT: true; the input reads as it did. -/
def clockLabelsSpec : ChangeSpec := { name := "clockLabels", fn := fun _ => fun
  | [d1, d2, d3] => { results := [.lit (.bool true)], args := [d1, d2, d3] }
  | _ => none }
def clockLabelsRow : OpenClaim := { program := "ytdfkghpgekmmlaagreat", sum := "6968cba32cb16cd96317b3f7b230cbf8fb4661e99e54b083ba41c9c6acf9fae9", func := "epact/epactlaw15.ClockLabels", spec := "clockLabels", inPlace := ["sync/atomic.LoadUint32", "(*internal/sync.Mutex).Lock", "internal/race.Disable", "sync/atomic.CompareAndSwapInt32", "internal/race.Enable", "internal/race.Acquire", "(*internal/sync.Mutex).lockSlow", "internal/sync.runtime_canSpin", "internal/sync.runtime_doSpin", "internal/sync.throw", "internal/sync.runtime_nanotime", "internal/sync.runtime_SemacquireMutex", "sync/atomic.AddInt32", "(*internal/sync.Mutex).Unlock", "internal/race.ReleaseMerge", "(*internal/sync.Mutex).unlockSlow", "internal/sync.fatal", "internal/sync.runtime_Semrelease", "sync/atomic.StoreUint32", "math/bits.Sub64", "math/bits.Add64", "sync/atomic.AddInt64"], unfollowed := true, recurses := true, named := ["math/bits.divideError", "math/bits.overflowError"], apart := false }
def ClockLabelsSaid : Prop := clockLabelsRow.holds Tryz.pinned (OpenSpec.ofChange clockLabelsSpec)

/-- ITS FALSE NEIGHBOUR: 'it returns false'. Refute it at one input. -/
def clockLabelsWrong : ChangeSpec := { name := "clockLabels", fn := fun _ => fun
  | [d1, d2, d3] => { results := [.lit (.bool false)], args := [d1, d2, d3] }
  | _ => none }
def ClockLabelsWrongFalsely : Prop := clockLabelsRow.holds Tryz.pinned (OpenSpec.ofChange clockLabelsWrong)

/-- 'epactlaw15.ClockBack': WHATEVER THE INPUT: true; the input reads as it did. -/
def clockBackSpec : ChangeSpec := { name := "clockBack", fn := fun _ => fun
  | [d1, d2, d3] => { results := [.lit (.bool true)], args := [d1, d2, d3] }
  | _ => none }
def clockBackRow : OpenClaim := { program := "ytdfkghpgekmmlaagreat", sum := "6968cba32cb16cd96317b3f7b230cbf8fb4661e99e54b083ba41c9c6acf9fae9", func := "epact/epactlaw15.ClockBack", spec := "clockBack", inPlace := ["sync/atomic.LoadUint32", "(*internal/sync.Mutex).Lock", "internal/race.Disable", "sync/atomic.CompareAndSwapInt32", "internal/race.Enable", "internal/race.Acquire", "(*internal/sync.Mutex).lockSlow", "internal/sync.runtime_canSpin", "internal/sync.runtime_doSpin", "internal/sync.throw", "internal/sync.runtime_nanotime", "internal/sync.runtime_SemacquireMutex", "sync/atomic.AddInt32", "(*internal/sync.Mutex).Unlock", "internal/race.ReleaseMerge", "(*internal/sync.Mutex).unlockSlow", "internal/sync.fatal", "internal/sync.runtime_Semrelease", "sync/atomic.StoreUint32", "math/bits.Sub64", "math/bits.Add64", "sync/atomic.AddInt64"], unfollowed := true, recurses := true, named := ["math/bits.divideError", "math/bits.overflowError"], apart := false }
def ClockBackSaid : Prop := clockBackRow.holds Tryz.pinned (OpenSpec.ofChange clockBackSpec)

/-- ITS FALSE NEIGHBOUR: 'it returns false'. Refute it at one input. -/
def clockBackWrong : ChangeSpec := { name := "clockBack", fn := fun _ => fun
  | [d1, d2, d3] => { results := [.lit (.bool false)], args := [d1, d2, d3] }
  | _ => none }
def ClockBackWrongFalsely : Prop := clockBackRow.holds Tryz.pinned (OpenSpec.ofChange clockBackWrong)

/-- 'epactlaw15.ClockNone': WHATEVER THE INPUT: true; the input reads as it did. -/
def clockNoneSpec : ChangeSpec := { name := "clockNone", fn := fun _ => fun
  | [d1, d2, d3] => { results := [.lit (.bool true)], args := [d1, d2, d3] }
  | _ => none }
def clockNoneRow : OpenClaim := { program := "ytdfkghpgekmmlaagreat", sum := "6968cba32cb16cd96317b3f7b230cbf8fb4661e99e54b083ba41c9c6acf9fae9", func := "epact/epactlaw15.ClockNone", spec := "clockNone", inPlace := ["math/bits.Sub64", "math/bits.Add64", "sync/atomic.AddInt64", "sync/atomic.LoadUint32", "(*internal/sync.Mutex).Lock", "internal/race.Disable", "sync/atomic.CompareAndSwapInt32", "internal/race.Enable", "internal/race.Acquire", "(*internal/sync.Mutex).lockSlow", "internal/sync.runtime_canSpin", "internal/sync.runtime_doSpin", "internal/sync.throw", "internal/sync.runtime_nanotime", "internal/sync.runtime_SemacquireMutex", "sync/atomic.AddInt32", "(*internal/sync.Mutex).Unlock", "internal/race.ReleaseMerge", "(*internal/sync.Mutex).unlockSlow", "internal/sync.fatal", "internal/sync.runtime_Semrelease", "sync/atomic.StoreUint32"], unfollowed := true, recurses := true, named := ["math/bits.divideError", "math/bits.overflowError"], apart := false }
def ClockNoneSaid : Prop := clockNoneRow.holds Tryz.pinned (OpenSpec.ofChange clockNoneSpec)

/-- ITS FALSE NEIGHBOUR: 'it returns false'. Refute it at one input. -/
def clockNoneWrong : ChangeSpec := { name := "clockNone", fn := fun _ => fun
  | [d1, d2, d3] => { results := [.lit (.bool false)], args := [d1, d2, d3] }
  | _ => none }
def ClockNoneWrongFalsely : Prop := clockNoneRow.holds Tryz.pinned (OpenSpec.ofChange clockNoneWrong)

/-- 'epactlaw15.ClockNews': WHATEVER THE INPUT: true; the input reads as it did. -/
def clockNewsSpec : ChangeSpec := { name := "clockNews", fn := fun _ => fun
  | [d] => { results := [.lit (.bool true)], args := [d] }
  | _ => none }
def clockNewsRow : OpenClaim := { program := "ytdfkghpgekmmlaagreat", sum := "6968cba32cb16cd96317b3f7b230cbf8fb4661e99e54b083ba41c9c6acf9fae9", func := "epact/epactlaw15.ClockNews", spec := "clockNews", inPlace := ["sync/atomic.LoadUint32", "(*internal/sync.Mutex).Lock", "internal/race.Disable", "sync/atomic.CompareAndSwapInt32", "internal/race.Enable", "internal/race.Acquire", "(*internal/sync.Mutex).lockSlow", "internal/sync.runtime_canSpin", "internal/sync.runtime_doSpin", "internal/sync.throw", "internal/sync.runtime_nanotime", "internal/sync.runtime_SemacquireMutex", "sync/atomic.AddInt32", "(*internal/sync.Mutex).Unlock", "internal/race.ReleaseMerge", "(*internal/sync.Mutex).unlockSlow", "internal/sync.fatal", "internal/sync.runtime_Semrelease", "sync/atomic.StoreUint32", "math/bits.Sub64", "math/bits.Add64", "sync/atomic.AddInt64"], unfollowed := true, recurses := true, named := ["math/bits.divideError", "math/bits.overflowError"], apart := false }
def ClockNewsSaid : Prop := clockNewsRow.holds Tryz.pinned (OpenSpec.ofChange clockNewsSpec)

/-- ITS FALSE NEIGHBOUR: 'it returns false'. Refute it at one input. -/
def clockNewsWrong : ChangeSpec := { name := "clockNews", fn := fun _ => fun
  | [d] => { results := [.lit (.bool false)], args := [d] }
  | _ => none }
def ClockNewsWrongFalsely : Prop := clockNewsRow.holds Tryz.pinned (OpenSpec.ofChange clockNewsWrong)

/-- 'epactlaw27.SpanAdds': WHATEVER THE INPUT: true; the input reads as it did. -/
def spanAddsSpec : ChangeSpec := { name := "spanAdds", fn := fun _ => fun
  | [d1, d2, d3, d4] => { results := [.lit (.bool true)], args := [d1, d2, d3, d4] }
  | _ => none }
def spanAddsRow : OpenClaim := { program := "ytdfkghpgekmmlaagreat", sum := "6968cba32cb16cd96317b3f7b230cbf8fb4661e99e54b083ba41c9c6acf9fae9", func := "epact/epactlaw27.SpanAdds", spec := "spanAdds", inPlace := ["sync/atomic.LoadUint32", "(*internal/sync.Mutex).Lock", "internal/race.Disable", "sync/atomic.CompareAndSwapInt32", "internal/race.Enable", "internal/race.Acquire", "(*internal/sync.Mutex).lockSlow", "internal/sync.runtime_canSpin", "internal/sync.runtime_doSpin", "internal/sync.throw", "internal/sync.runtime_nanotime", "internal/sync.runtime_SemacquireMutex", "sync/atomic.AddInt32", "(*internal/sync.Mutex).Unlock", "internal/race.ReleaseMerge", "(*internal/sync.Mutex).unlockSlow", "internal/sync.fatal", "internal/sync.runtime_Semrelease", "sync/atomic.StoreUint32", "math/bits.Sub64", "math/bits.Add64", "sync/atomic.AddInt64"], unfollowed := true, recurses := true, named := ["math/bits.divideError", "math/bits.overflowError"], apart := false }
def SpanAddsSaid : Prop := spanAddsRow.holds Tryz.pinned (OpenSpec.ofChange spanAddsSpec)

/-- ITS FALSE NEIGHBOUR: 'it returns false'. Refute it at one input. -/
def spanAddsWrong : ChangeSpec := { name := "spanAdds", fn := fun _ => fun
  | [d1, d2, d3, d4] => { results := [.lit (.bool false)], args := [d1, d2, d3, d4] }
  | _ => none }
def SpanAddsWrongFalsely : Prop := spanAddsRow.holds Tryz.pinned (OpenSpec.ofChange spanAddsWrong)

/-- 'epactlaw27.SpanDiffs': WHATEVER THE INPUT: true; the input reads as it did. -/
def spanDiffsSpec : ChangeSpec := { name := "spanDiffs", fn := fun _ => fun
  | [d1, d2, d3, d4] => { results := [.lit (.bool true)], args := [d1, d2, d3, d4] }
  | _ => none }
def spanDiffsRow : OpenClaim := { program := "ytdfkghpgekmmlaagreat", sum := "6968cba32cb16cd96317b3f7b230cbf8fb4661e99e54b083ba41c9c6acf9fae9", func := "epact/epactlaw27.SpanDiffs", spec := "spanDiffs", inPlace := ["sync/atomic.LoadUint32", "(*internal/sync.Mutex).Lock", "internal/race.Disable", "sync/atomic.CompareAndSwapInt32", "internal/race.Enable", "internal/race.Acquire", "(*internal/sync.Mutex).lockSlow", "internal/sync.runtime_canSpin", "internal/sync.runtime_doSpin", "internal/sync.throw", "internal/sync.runtime_nanotime", "internal/sync.runtime_SemacquireMutex", "sync/atomic.AddInt32", "(*internal/sync.Mutex).Unlock", "internal/race.ReleaseMerge", "(*internal/sync.Mutex).unlockSlow", "internal/sync.fatal", "internal/sync.runtime_Semrelease", "sync/atomic.StoreUint32", "math/bits.Sub64", "math/bits.Add64", "sync/atomic.AddInt64"], unfollowed := true, recurses := true, named := ["math/bits.divideError", "math/bits.overflowError"], apart := false }
def SpanDiffsSaid : Prop := spanDiffsRow.holds Tryz.pinned (OpenSpec.ofChange spanDiffsSpec)

/-- ITS FALSE NEIGHBOUR: 'it returns false'. Refute it at one input. -/
def spanDiffsWrong : ChangeSpec := { name := "spanDiffs", fn := fun _ => fun
  | [d1, d2, d3, d4] => { results := [.lit (.bool false)], args := [d1, d2, d3, d4] }
  | _ => none }
def SpanDiffsWrongFalsely : Prop := spanDiffsRow.holds Tryz.pinned (OpenSpec.ofChange spanDiffsWrong)

/-- 'epactlaw27.SpanNexts': WHATEVER THE INPUT: true; the input reads as it did. -/
def spanNextsSpec : ChangeSpec := { name := "spanNexts", fn := fun _ => fun
  | [d1, d2, d3] => { results := [.lit (.bool true)], args := [d1, d2, d3] }
  | _ => none }
def spanNextsRow : OpenClaim := { program := "ytdfkghpgekmmlaagreat", sum := "6968cba32cb16cd96317b3f7b230cbf8fb4661e99e54b083ba41c9c6acf9fae9", func := "epact/epactlaw27.SpanNexts", spec := "spanNexts", inPlace := ["sync/atomic.LoadUint32", "(*internal/sync.Mutex).Lock", "internal/race.Disable", "sync/atomic.CompareAndSwapInt32", "internal/race.Enable", "internal/race.Acquire", "(*internal/sync.Mutex).lockSlow", "internal/sync.runtime_canSpin", "internal/sync.runtime_doSpin", "internal/sync.throw", "internal/sync.runtime_nanotime", "internal/sync.runtime_SemacquireMutex", "sync/atomic.AddInt32", "(*internal/sync.Mutex).Unlock", "internal/race.ReleaseMerge", "(*internal/sync.Mutex).unlockSlow", "internal/sync.fatal", "internal/sync.runtime_Semrelease", "sync/atomic.StoreUint32", "math/bits.Sub64", "math/bits.Add64", "sync/atomic.AddInt64"], unfollowed := true, recurses := true, named := ["math/bits.divideError", "math/bits.overflowError"], apart := false }
def SpanNextsSaid : Prop := spanNextsRow.holds Tryz.pinned (OpenSpec.ofChange spanNextsSpec)

/-- ITS FALSE NEIGHBOUR: 'it returns false'. Refute it at one input. -/
def spanNextsWrong : ChangeSpec := { name := "spanNexts", fn := fun _ => fun
  | [d1, d2, d3] => { results := [.lit (.bool false)], args := [d1, d2, d3] }
  | _ => none }
def SpanNextsWrongFalsely : Prop := spanNextsRow.holds Tryz.pinned (OpenSpec.ofChange spanNextsWrong)

/-- 'epactlaw27.SpanBack': WHATEVER THE INPUT: true; the input reads as it did. -/
def spanBackSpec : ChangeSpec := { name := "spanBack", fn := fun _ => fun
  | [d1, d2, d3] => { results := [.lit (.bool true)], args := [d1, d2, d3] }
  | _ => none }
def spanBackRow : OpenClaim := { program := "ytdfkghpgekmmlaagreat", sum := "6968cba32cb16cd96317b3f7b230cbf8fb4661e99e54b083ba41c9c6acf9fae9", func := "epact/epactlaw27.SpanBack", spec := "spanBack", inPlace := ["sync/atomic.LoadUint32", "(*internal/sync.Mutex).Lock", "internal/race.Disable", "sync/atomic.CompareAndSwapInt32", "internal/race.Enable", "internal/race.Acquire", "(*internal/sync.Mutex).lockSlow", "internal/sync.runtime_canSpin", "internal/sync.runtime_doSpin", "internal/sync.throw", "internal/sync.runtime_nanotime", "internal/sync.runtime_SemacquireMutex", "sync/atomic.AddInt32", "(*internal/sync.Mutex).Unlock", "internal/race.ReleaseMerge", "(*internal/sync.Mutex).unlockSlow", "internal/sync.fatal", "internal/sync.runtime_Semrelease", "sync/atomic.StoreUint32", "math/bits.Sub64", "math/bits.Add64", "sync/atomic.AddInt64"], unfollowed := true, recurses := true, named := ["math/bits.divideError", "math/bits.overflowError"], apart := false }
def SpanBackSaid : Prop := spanBackRow.holds Tryz.pinned (OpenSpec.ofChange spanBackSpec)

/-- ITS FALSE NEIGHBOUR: 'it returns false'. Refute it at one input. -/
def spanBackWrong : ChangeSpec := { name := "spanBack", fn := fun _ => fun
  | [d1, d2, d3] => { results := [.lit (.bool false)], args := [d1, d2, d3] }
  | _ => none }
def SpanBackWrongFalsely : Prop := spanBackRow.holds Tryz.pinned (OpenSpec.ofChange spanBackWrong)

/-- 'epactlaw27.SpanSteps': WHATEVER THE INPUT: true; the input reads as it did. -/
def spanStepsSpec : ChangeSpec := { name := "spanSteps", fn := fun _ => fun
  | [d1, d2] => { results := [.lit (.bool true)], args := [d1, d2] }
  | _ => none }
def spanStepsRow : OpenClaim := { program := "ytdfkghpgekmmlaagreat", sum := "6968cba32cb16cd96317b3f7b230cbf8fb4661e99e54b083ba41c9c6acf9fae9", func := "epact/epactlaw27.SpanSteps", spec := "spanSteps", inPlace := ["sync/atomic.LoadUint32", "(*internal/sync.Mutex).Lock", "internal/race.Disable", "sync/atomic.CompareAndSwapInt32", "internal/race.Enable", "internal/race.Acquire", "(*internal/sync.Mutex).lockSlow", "internal/sync.runtime_canSpin", "internal/sync.runtime_doSpin", "internal/sync.throw", "internal/sync.runtime_nanotime", "internal/sync.runtime_SemacquireMutex", "sync/atomic.AddInt32", "(*internal/sync.Mutex).Unlock", "internal/race.ReleaseMerge", "(*internal/sync.Mutex).unlockSlow", "internal/sync.fatal", "internal/sync.runtime_Semrelease", "sync/atomic.StoreUint32", "math/bits.Sub64", "math/bits.Add64", "sync/atomic.AddInt64"], unfollowed := true, recurses := true, named := ["math/bits.divideError", "math/bits.overflowError"], apart := false }
def SpanStepsSaid : Prop := spanStepsRow.holds Tryz.pinned (OpenSpec.ofChange spanStepsSpec)

/-- ITS FALSE NEIGHBOUR: 'it returns false'. Refute it at one input. -/
def spanStepsWrong : ChangeSpec := { name := "spanSteps", fn := fun _ => fun
  | [d1, d2] => { results := [.lit (.bool false)], args := [d1, d2] }
  | _ => none }
def SpanStepsWrongFalsely : Prop := spanStepsRow.holds Tryz.pinned (OpenSpec.ofChange spanStepsWrong)

/- THE SECOND FORM. 'bulk': how many values and letters a reading holds, each counted each time it is reached (what is shared counts as often as it is met; a slice's spare places count too). A statement '..UptoSaid' is the law's where the arguments, and the package variables that the reading takes, are together of bulk at most 1048576: NARROWER than '..Said'. Prove '..Said' where nothing that the law and all that it calls make is longer than what came in: it says more and counts as full. Else prove '..UptoSaid'. A law counts once. -/
mutual
def uptoBulk {H : Type} : DataW H → Nat
  | .lit (.string bytes) => bytes.length + 1
  | .lit _ => 1
  | .nil => 1
  | .ptr d => uptoBulk d + 1
  | .slice elems spare => uptoBulkAll elems + uptoBulkAll spare + 1
  | .agg parts => uptoBulkAll parts + 1
  | .iface _ d => uptoBulk d + 1
  | .map entries => uptoBulkEntries entries + 1
  | .held _ => 1
def uptoBulkAll {H : Type} : List (DataW H) → Nat
  | [] => 0
  | d :: r => uptoBulk d + uptoBulkAll r
def uptoBulkEntries {H : Type} : List (Lit × DataW H) → Nat
  | [] => 0
  | x :: r => uptoBulkEntry x + uptoBulkEntries r
def uptoBulkEntry {H : Type} : Lit × DataW H → Nat
  | (.string bytes, d) => bytes.length + uptoBulk d + 1
  | (_, d) => uptoBulk d + 1
 end
def uptoSmall : (H : Type) → List (DataW H) → Bool := fun _ ds => decide (uptoBulkAll ds ≤ 1048576)
def OpenSpec.upto (s : _root_.Go.ChangeSpec) : _root_.Go.OpenSpec := { _root_.Go.OpenSpec.ofChange s with cond := some uptoSmall }

/-- 'epactlaw15.ClockTais', WHERE WHAT IT READS IS OF BULK AT MOST 1048576: true; the input reads as it did. -/
def clockTaisUptoRow : OpenClaim := { program := "ytdfkghpgekmmlaagreat", sum := "6968cba32cb16cd96317b3f7b230cbf8fb4661e99e54b083ba41c9c6acf9fae9", func := "epact/epactlaw15.ClockTais", spec := "clockTais", inPlace := ["sync/atomic.LoadUint32", "(*internal/sync.Mutex).Lock", "internal/race.Disable", "sync/atomic.CompareAndSwapInt32", "internal/race.Enable", "internal/race.Acquire", "(*internal/sync.Mutex).lockSlow", "internal/sync.runtime_canSpin", "internal/sync.runtime_doSpin", "internal/sync.throw", "internal/sync.runtime_nanotime", "internal/sync.runtime_SemacquireMutex", "sync/atomic.AddInt32", "(*internal/sync.Mutex).Unlock", "internal/race.ReleaseMerge", "(*internal/sync.Mutex).unlockSlow", "internal/sync.fatal", "internal/sync.runtime_Semrelease", "sync/atomic.StoreUint32", "math/bits.Sub64", "math/bits.Add64", "sync/atomic.AddInt64"], unfollowed := true, recurses := true, named := ["math/bits.divideError", "math/bits.overflowError"], apart := false, narrowed := true }
def ClockTaisUptoSaid : Prop := clockTaisUptoRow.holds Tryz.pinned (OpenSpec.upto clockTaisSpec)

/-- 'epactlaw15.ClockLabels', WHERE WHAT IT READS IS OF BULK AT MOST 1048576: true; the input reads as it did. -/
def clockLabelsUptoRow : OpenClaim := { program := "ytdfkghpgekmmlaagreat", sum := "6968cba32cb16cd96317b3f7b230cbf8fb4661e99e54b083ba41c9c6acf9fae9", func := "epact/epactlaw15.ClockLabels", spec := "clockLabels", inPlace := ["sync/atomic.LoadUint32", "(*internal/sync.Mutex).Lock", "internal/race.Disable", "sync/atomic.CompareAndSwapInt32", "internal/race.Enable", "internal/race.Acquire", "(*internal/sync.Mutex).lockSlow", "internal/sync.runtime_canSpin", "internal/sync.runtime_doSpin", "internal/sync.throw", "internal/sync.runtime_nanotime", "internal/sync.runtime_SemacquireMutex", "sync/atomic.AddInt32", "(*internal/sync.Mutex).Unlock", "internal/race.ReleaseMerge", "(*internal/sync.Mutex).unlockSlow", "internal/sync.fatal", "internal/sync.runtime_Semrelease", "sync/atomic.StoreUint32", "math/bits.Sub64", "math/bits.Add64", "sync/atomic.AddInt64"], unfollowed := true, recurses := true, named := ["math/bits.divideError", "math/bits.overflowError"], apart := false, narrowed := true }
def ClockLabelsUptoSaid : Prop := clockLabelsUptoRow.holds Tryz.pinned (OpenSpec.upto clockLabelsSpec)

/-- 'epactlaw15.ClockBack', WHERE WHAT IT READS IS OF BULK AT MOST 1048576: true; the input reads as it did. -/
def clockBackUptoRow : OpenClaim := { program := "ytdfkghpgekmmlaagreat", sum := "6968cba32cb16cd96317b3f7b230cbf8fb4661e99e54b083ba41c9c6acf9fae9", func := "epact/epactlaw15.ClockBack", spec := "clockBack", inPlace := ["sync/atomic.LoadUint32", "(*internal/sync.Mutex).Lock", "internal/race.Disable", "sync/atomic.CompareAndSwapInt32", "internal/race.Enable", "internal/race.Acquire", "(*internal/sync.Mutex).lockSlow", "internal/sync.runtime_canSpin", "internal/sync.runtime_doSpin", "internal/sync.throw", "internal/sync.runtime_nanotime", "internal/sync.runtime_SemacquireMutex", "sync/atomic.AddInt32", "(*internal/sync.Mutex).Unlock", "internal/race.ReleaseMerge", "(*internal/sync.Mutex).unlockSlow", "internal/sync.fatal", "internal/sync.runtime_Semrelease", "sync/atomic.StoreUint32", "math/bits.Sub64", "math/bits.Add64", "sync/atomic.AddInt64"], unfollowed := true, recurses := true, named := ["math/bits.divideError", "math/bits.overflowError"], apart := false, narrowed := true }
def ClockBackUptoSaid : Prop := clockBackUptoRow.holds Tryz.pinned (OpenSpec.upto clockBackSpec)

/-- 'epactlaw15.ClockNone', WHERE WHAT IT READS IS OF BULK AT MOST 1048576: true; the input reads as it did. -/
def clockNoneUptoRow : OpenClaim := { program := "ytdfkghpgekmmlaagreat", sum := "6968cba32cb16cd96317b3f7b230cbf8fb4661e99e54b083ba41c9c6acf9fae9", func := "epact/epactlaw15.ClockNone", spec := "clockNone", inPlace := ["math/bits.Sub64", "math/bits.Add64", "sync/atomic.AddInt64", "sync/atomic.LoadUint32", "(*internal/sync.Mutex).Lock", "internal/race.Disable", "sync/atomic.CompareAndSwapInt32", "internal/race.Enable", "internal/race.Acquire", "(*internal/sync.Mutex).lockSlow", "internal/sync.runtime_canSpin", "internal/sync.runtime_doSpin", "internal/sync.throw", "internal/sync.runtime_nanotime", "internal/sync.runtime_SemacquireMutex", "sync/atomic.AddInt32", "(*internal/sync.Mutex).Unlock", "internal/race.ReleaseMerge", "(*internal/sync.Mutex).unlockSlow", "internal/sync.fatal", "internal/sync.runtime_Semrelease", "sync/atomic.StoreUint32"], unfollowed := true, recurses := true, named := ["math/bits.divideError", "math/bits.overflowError"], apart := false, narrowed := true }
def ClockNoneUptoSaid : Prop := clockNoneUptoRow.holds Tryz.pinned (OpenSpec.upto clockNoneSpec)

/-- 'epactlaw15.ClockNews', WHERE WHAT IT READS IS OF BULK AT MOST 1048576: true; the input reads as it did. -/
def clockNewsUptoRow : OpenClaim := { program := "ytdfkghpgekmmlaagreat", sum := "6968cba32cb16cd96317b3f7b230cbf8fb4661e99e54b083ba41c9c6acf9fae9", func := "epact/epactlaw15.ClockNews", spec := "clockNews", inPlace := ["sync/atomic.LoadUint32", "(*internal/sync.Mutex).Lock", "internal/race.Disable", "sync/atomic.CompareAndSwapInt32", "internal/race.Enable", "internal/race.Acquire", "(*internal/sync.Mutex).lockSlow", "internal/sync.runtime_canSpin", "internal/sync.runtime_doSpin", "internal/sync.throw", "internal/sync.runtime_nanotime", "internal/sync.runtime_SemacquireMutex", "sync/atomic.AddInt32", "(*internal/sync.Mutex).Unlock", "internal/race.ReleaseMerge", "(*internal/sync.Mutex).unlockSlow", "internal/sync.fatal", "internal/sync.runtime_Semrelease", "sync/atomic.StoreUint32", "math/bits.Sub64", "math/bits.Add64", "sync/atomic.AddInt64"], unfollowed := true, recurses := true, named := ["math/bits.divideError", "math/bits.overflowError"], apart := false, narrowed := true }
def ClockNewsUptoSaid : Prop := clockNewsUptoRow.holds Tryz.pinned (OpenSpec.upto clockNewsSpec)

/-- 'epactlaw27.SpanAdds', WHERE WHAT IT READS IS OF BULK AT MOST 1048576: true; the input reads as it did. -/
def spanAddsUptoRow : OpenClaim := { program := "ytdfkghpgekmmlaagreat", sum := "6968cba32cb16cd96317b3f7b230cbf8fb4661e99e54b083ba41c9c6acf9fae9", func := "epact/epactlaw27.SpanAdds", spec := "spanAdds", inPlace := ["sync/atomic.LoadUint32", "(*internal/sync.Mutex).Lock", "internal/race.Disable", "sync/atomic.CompareAndSwapInt32", "internal/race.Enable", "internal/race.Acquire", "(*internal/sync.Mutex).lockSlow", "internal/sync.runtime_canSpin", "internal/sync.runtime_doSpin", "internal/sync.throw", "internal/sync.runtime_nanotime", "internal/sync.runtime_SemacquireMutex", "sync/atomic.AddInt32", "(*internal/sync.Mutex).Unlock", "internal/race.ReleaseMerge", "(*internal/sync.Mutex).unlockSlow", "internal/sync.fatal", "internal/sync.runtime_Semrelease", "sync/atomic.StoreUint32", "math/bits.Sub64", "math/bits.Add64", "sync/atomic.AddInt64"], unfollowed := true, recurses := true, named := ["math/bits.divideError", "math/bits.overflowError"], apart := false, narrowed := true }
def SpanAddsUptoSaid : Prop := spanAddsUptoRow.holds Tryz.pinned (OpenSpec.upto spanAddsSpec)

/-- 'epactlaw27.SpanDiffs', WHERE WHAT IT READS IS OF BULK AT MOST 1048576: true; the input reads as it did. -/
def spanDiffsUptoRow : OpenClaim := { program := "ytdfkghpgekmmlaagreat", sum := "6968cba32cb16cd96317b3f7b230cbf8fb4661e99e54b083ba41c9c6acf9fae9", func := "epact/epactlaw27.SpanDiffs", spec := "spanDiffs", inPlace := ["sync/atomic.LoadUint32", "(*internal/sync.Mutex).Lock", "internal/race.Disable", "sync/atomic.CompareAndSwapInt32", "internal/race.Enable", "internal/race.Acquire", "(*internal/sync.Mutex).lockSlow", "internal/sync.runtime_canSpin", "internal/sync.runtime_doSpin", "internal/sync.throw", "internal/sync.runtime_nanotime", "internal/sync.runtime_SemacquireMutex", "sync/atomic.AddInt32", "(*internal/sync.Mutex).Unlock", "internal/race.ReleaseMerge", "(*internal/sync.Mutex).unlockSlow", "internal/sync.fatal", "internal/sync.runtime_Semrelease", "sync/atomic.StoreUint32", "math/bits.Sub64", "math/bits.Add64", "sync/atomic.AddInt64"], unfollowed := true, recurses := true, named := ["math/bits.divideError", "math/bits.overflowError"], apart := false, narrowed := true }
def SpanDiffsUptoSaid : Prop := spanDiffsUptoRow.holds Tryz.pinned (OpenSpec.upto spanDiffsSpec)

/-- 'epactlaw27.SpanNexts', WHERE WHAT IT READS IS OF BULK AT MOST 1048576: true; the input reads as it did. -/
def spanNextsUptoRow : OpenClaim := { program := "ytdfkghpgekmmlaagreat", sum := "6968cba32cb16cd96317b3f7b230cbf8fb4661e99e54b083ba41c9c6acf9fae9", func := "epact/epactlaw27.SpanNexts", spec := "spanNexts", inPlace := ["sync/atomic.LoadUint32", "(*internal/sync.Mutex).Lock", "internal/race.Disable", "sync/atomic.CompareAndSwapInt32", "internal/race.Enable", "internal/race.Acquire", "(*internal/sync.Mutex).lockSlow", "internal/sync.runtime_canSpin", "internal/sync.runtime_doSpin", "internal/sync.throw", "internal/sync.runtime_nanotime", "internal/sync.runtime_SemacquireMutex", "sync/atomic.AddInt32", "(*internal/sync.Mutex).Unlock", "internal/race.ReleaseMerge", "(*internal/sync.Mutex).unlockSlow", "internal/sync.fatal", "internal/sync.runtime_Semrelease", "sync/atomic.StoreUint32", "math/bits.Sub64", "math/bits.Add64", "sync/atomic.AddInt64"], unfollowed := true, recurses := true, named := ["math/bits.divideError", "math/bits.overflowError"], apart := false, narrowed := true }
def SpanNextsUptoSaid : Prop := spanNextsUptoRow.holds Tryz.pinned (OpenSpec.upto spanNextsSpec)

/-- 'epactlaw27.SpanBack', WHERE WHAT IT READS IS OF BULK AT MOST 1048576: true; the input reads as it did. -/
def spanBackUptoRow : OpenClaim := { program := "ytdfkghpgekmmlaagreat", sum := "6968cba32cb16cd96317b3f7b230cbf8fb4661e99e54b083ba41c9c6acf9fae9", func := "epact/epactlaw27.SpanBack", spec := "spanBack", inPlace := ["sync/atomic.LoadUint32", "(*internal/sync.Mutex).Lock", "internal/race.Disable", "sync/atomic.CompareAndSwapInt32", "internal/race.Enable", "internal/race.Acquire", "(*internal/sync.Mutex).lockSlow", "internal/sync.runtime_canSpin", "internal/sync.runtime_doSpin", "internal/sync.throw", "internal/sync.runtime_nanotime", "internal/sync.runtime_SemacquireMutex", "sync/atomic.AddInt32", "(*internal/sync.Mutex).Unlock", "internal/race.ReleaseMerge", "(*internal/sync.Mutex).unlockSlow", "internal/sync.fatal", "internal/sync.runtime_Semrelease", "sync/atomic.StoreUint32", "math/bits.Sub64", "math/bits.Add64", "sync/atomic.AddInt64"], unfollowed := true, recurses := true, named := ["math/bits.divideError", "math/bits.overflowError"], apart := false, narrowed := true }
def SpanBackUptoSaid : Prop := spanBackUptoRow.holds Tryz.pinned (OpenSpec.upto spanBackSpec)

/-- 'epactlaw27.SpanSteps', WHERE WHAT IT READS IS OF BULK AT MOST 1048576: true; the input reads as it did. -/
def spanStepsUptoRow : OpenClaim := { program := "ytdfkghpgekmmlaagreat", sum := "6968cba32cb16cd96317b3f7b230cbf8fb4661e99e54b083ba41c9c6acf9fae9", func := "epact/epactlaw27.SpanSteps", spec := "spanSteps", inPlace := ["sync/atomic.LoadUint32", "(*internal/sync.Mutex).Lock", "internal/race.Disable", "sync/atomic.CompareAndSwapInt32", "internal/race.Enable", "internal/race.Acquire", "(*internal/sync.Mutex).lockSlow", "internal/sync.runtime_canSpin", "internal/sync.runtime_doSpin", "internal/sync.throw", "internal/sync.runtime_nanotime", "internal/sync.runtime_SemacquireMutex", "sync/atomic.AddInt32", "(*internal/sync.Mutex).Unlock", "internal/race.ReleaseMerge", "(*internal/sync.Mutex).unlockSlow", "internal/sync.fatal", "internal/sync.runtime_Semrelease", "sync/atomic.StoreUint32", "math/bits.Sub64", "math/bits.Add64", "sync/atomic.AddInt64"], unfollowed := true, recurses := true, named := ["math/bits.divideError", "math/bits.overflowError"], apart := false, narrowed := true }
def SpanStepsUptoSaid : Prop := spanStepsUptoRow.holds Tryz.pinned (OpenSpec.upto spanStepsSpec)

end Rows
end Go.Proofs.YtdfkghpgekmmlaaGreat

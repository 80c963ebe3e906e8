/-
  No cell of these rows narrows 'for every input' (looked for: loops, veiled, ifaces, maps, wideKeys, modest, calm, conditions, laid).
  DERIVED. THE GIVEN ROWS OF THIS SEAT. 6 by the template 'for every input the law returns true; each argument reads behind the call as it read before'; 0 by the template 'total and deterministic' (their statements: YtdfkghpgekmmlabGreatTotals.lean).
  GIVEN WITH THE SEED: the statements are not yours to turn. If you find one false, say at which input.
  Laid BY PROGRAM, IN A SANDBOX (cutbox-rows.mjs): the forced cells as the released guide's own fill.sh prints them over the translation 3caa3f4719c1ecd8… (all of the seat's roots in one cut). By AI agents, Wed Nov 11 2026. No macro, syntax, notation, axiom, sorry.
-/
import Derived.Test.YtdfkghpgekmmlabGreatChecked
import GoSem.Claim
import GoSem.ClaimJoined
import GoSem.ClaimMapViews
import Derived.JoinedTies
import Derived.KernelRfl
namespace Go.Proofs.YtdfkghpgekmmlabGreat
/- THE CELL 'sum', in the pinned program and in every row, IS THE sha256 OF THE DUMP (.gsa) THAT YtdfkghpgekmmlabGreatProg.lean LOADS. Nothing in Lean hashes anything: it is a label: what it is worth is what the hold of that sum in a sandbox is worth. -/
noncomputable def Tryz.pinned : Pinned := { name := "ytdfkghpgekmmlabgreat", sum := "3caa3f4719c1ecd8333890df2ff64a82d4fa9ac8f65ec70602ac9abfcea8f949", checked := Tryz.checked }
namespace Rows
def none {H : Type} : Left H := { results := [], args := [] }

/-- 'epactlaw17.UnixCounts': WHATEVER THE INPUT: true; the input reads as it did. -/
def unixCountsSpec : ChangeSpec := { name := "unixCounts", fn := fun _ => fun
  | [d] => { results := [.lit (.bool true)], args := [d] }
  | _ => none }
def unixCountsRow : OpenClaim := { program := "ytdfkghpgekmmlabgreat", sum := "3caa3f4719c1ecd8333890df2ff64a82d4fa9ac8f65ec70602ac9abfcea8f949", func := "epact/epactlaw17.UnixCounts", spec := "unixCounts", inPlace := ["math/bits.Sub64", "math/bits.Add64", "sync/atomic.LoadUint32", "(*internal/sync.Mutex).Lock", "internal/race.Disable", "sync/atomic.CompareAndSwapInt32", "internal/race.Enable", "internal/race.Acquire", "(*internal/sync.Mutex).lockSlow", "internal/sync.runtime_canSpin", "internal/sync.runtime_doSpin", "internal/sync.throw", "internal/sync.runtime_nanotime", "internal/sync.runtime_SemacquireMutex", "sync/atomic.AddInt32", "(*internal/sync.Mutex).Unlock", "internal/race.ReleaseMerge", "(*internal/sync.Mutex).unlockSlow", "internal/sync.fatal", "internal/sync.runtime_Semrelease", "sync/atomic.StoreUint32", "sync/atomic.AddInt64"], unfollowed := true, recurses := true, named := ["math/bits.divideError", "math/bits.overflowError"], apart := false }
def UnixCountsSaid : Prop := unixCountsRow.holds Tryz.pinned (OpenSpec.ofChange unixCountsSpec)

/-- ITS FALSE NEIGHBOUR: 'it returns false'. Refute it at one input. -/
def unixCountsWrong : ChangeSpec := { name := "unixCounts", fn := fun _ => fun
  | [d] => { results := [.lit (.bool false)], args := [d] }
  | _ => none }
def UnixCountsWrongFalsely : Prop := unixCountsRow.holds Tryz.pinned (OpenSpec.ofChange unixCountsWrong)

/-- 'epactlaw17.UnixLabels': WHATEVER THE INPUT: true; the input reads as it did. -/
def unixLabelsSpec : ChangeSpec := { name := "unixLabels", fn := fun _ => fun
  | [d1, d2, d3] => { results := [.lit (.bool true)], args := [d1, d2, d3] }
  | _ => none }
def unixLabelsRow : OpenClaim := { program := "ytdfkghpgekmmlabgreat", sum := "3caa3f4719c1ecd8333890df2ff64a82d4fa9ac8f65ec70602ac9abfcea8f949", func := "epact/epactlaw17.UnixLabels", spec := "unixLabels", inPlace := ["sync/atomic.LoadUint32", "(*internal/sync.Mutex).Lock", "internal/race.Disable", "sync/atomic.CompareAndSwapInt32", "internal/race.Enable", "internal/race.Acquire", "(*internal/sync.Mutex).lockSlow", "internal/sync.runtime_canSpin", "internal/sync.runtime_doSpin", "internal/sync.throw", "internal/sync.runtime_nanotime", "internal/sync.runtime_SemacquireMutex", "sync/atomic.AddInt32", "(*internal/sync.Mutex).Unlock", "internal/race.ReleaseMerge", "(*internal/sync.Mutex).unlockSlow", "internal/sync.fatal", "internal/sync.runtime_Semrelease", "sync/atomic.StoreUint32", "math/bits.Sub64", "math/bits.Add64", "sync/atomic.AddInt64"], unfollowed := true, recurses := true, named := ["math/bits.divideError", "math/bits.overflowError"], apart := false }
def UnixLabelsSaid : Prop := unixLabelsRow.holds Tryz.pinned (OpenSpec.ofChange unixLabelsSpec)

/-- ITS FALSE NEIGHBOUR: 'it returns false'. Refute it at one input. -/
def unixLabelsWrong : ChangeSpec := { name := "unixLabels", fn := fun _ => fun
  | [d1, d2, d3] => { results := [.lit (.bool false)], args := [d1, d2, d3] }
  | _ => none }
def UnixLabelsWrongFalsely : Prop := unixLabelsRow.holds Tryz.pinned (OpenSpec.ofChange unixLabelsWrong)

/-- 'epactlaw17.UnixBack': WHATEVER THE INPUT: true; the input reads as it did. -/
def unixBackSpec : ChangeSpec := { name := "unixBack", fn := fun _ => fun
  | [d1, d2] => { results := [.lit (.bool true)], args := [d1, d2] }
  | _ => none }
def unixBackRow : OpenClaim := { program := "ytdfkghpgekmmlabgreat", sum := "3caa3f4719c1ecd8333890df2ff64a82d4fa9ac8f65ec70602ac9abfcea8f949", func := "epact/epactlaw17.UnixBack", spec := "unixBack", inPlace := ["sync/atomic.LoadUint32", "(*internal/sync.Mutex).Lock", "internal/race.Disable", "sync/atomic.CompareAndSwapInt32", "internal/race.Enable", "internal/race.Acquire", "(*internal/sync.Mutex).lockSlow", "internal/sync.runtime_canSpin", "internal/sync.runtime_doSpin", "internal/sync.throw", "internal/sync.runtime_nanotime", "internal/sync.runtime_SemacquireMutex", "sync/atomic.AddInt32", "(*internal/sync.Mutex).Unlock", "internal/race.ReleaseMerge", "(*internal/sync.Mutex).unlockSlow", "internal/sync.fatal", "internal/sync.runtime_Semrelease", "sync/atomic.StoreUint32", "math/bits.Sub64", "math/bits.Add64", "sync/atomic.AddInt64"], unfollowed := true, recurses := true, named := ["math/bits.divideError", "math/bits.overflowError"], apart := false }
def UnixBackSaid : Prop := unixBackRow.holds Tryz.pinned (OpenSpec.ofChange unixBackSpec)

/-- ITS FALSE NEIGHBOUR: 'it returns false'. Refute it at one input. -/
def unixBackWrong : ChangeSpec := { name := "unixBack", fn := fun _ => fun
  | [d1, d2] => { results := [.lit (.bool false)], args := [d1, d2] }
  | _ => none }
def UnixBackWrongFalsely : Prop := unixBackRow.holds Tryz.pinned (OpenSpec.ofChange unixBackWrong)

/-- 'epactlaw17.UnixTwice': WHATEVER THE INPUT: true; the input reads as it did. -/
def unixTwiceSpec : ChangeSpec := { name := "unixTwice", fn := fun _ => fun
  | [d1, d2, d3, d4] => { results := [.lit (.bool true)], args := [d1, d2, d3, d4] }
  | _ => none }
def unixTwiceRow : OpenClaim := { program := "ytdfkghpgekmmlabgreat", sum := "3caa3f4719c1ecd8333890df2ff64a82d4fa9ac8f65ec70602ac9abfcea8f949", func := "epact/epactlaw17.UnixTwice", spec := "unixTwice", inPlace := ["sync/atomic.LoadUint32", "(*internal/sync.Mutex).Lock", "internal/race.Disable", "sync/atomic.CompareAndSwapInt32", "internal/race.Enable", "internal/race.Acquire", "(*internal/sync.Mutex).lockSlow", "internal/sync.runtime_canSpin", "internal/sync.runtime_doSpin", "internal/sync.throw", "internal/sync.runtime_nanotime", "internal/sync.runtime_SemacquireMutex", "sync/atomic.AddInt32", "(*internal/sync.Mutex).Unlock", "internal/race.ReleaseMerge", "(*internal/sync.Mutex).unlockSlow", "internal/sync.fatal", "internal/sync.runtime_Semrelease", "sync/atomic.StoreUint32", "math/bits.Sub64", "math/bits.Add64", "sync/atomic.AddInt64"], unfollowed := true, recurses := true, named := ["math/bits.divideError", "math/bits.overflowError"], apart := false }
def UnixTwiceSaid : Prop := unixTwiceRow.holds Tryz.pinned (OpenSpec.ofChange unixTwiceSpec)

/-- ITS FALSE NEIGHBOUR: 'it returns false'. Refute it at one input. -/
def unixTwiceWrong : ChangeSpec := { name := "unixTwice", fn := fun _ => fun
  | [d1, d2, d3, d4] => { results := [.lit (.bool false)], args := [d1, d2, d3, d4] }
  | _ => none }
def UnixTwiceWrongFalsely : Prop := unixTwiceRow.holds Tryz.pinned (OpenSpec.ofChange unixTwiceWrong)

/-- 'epactlaw17.UnixNone': WHATEVER THE INPUT: true; the input reads as it did. -/
def unixNoneSpec : ChangeSpec := { name := "unixNone", fn := fun _ => fun
  | [d1, d2] => { results := [.lit (.bool true)], args := [d1, d2] }
  | _ => none }
def unixNoneRow : OpenClaim := { program := "ytdfkghpgekmmlabgreat", sum := "3caa3f4719c1ecd8333890df2ff64a82d4fa9ac8f65ec70602ac9abfcea8f949", func := "epact/epactlaw17.UnixNone", spec := "unixNone", inPlace := ["math/bits.Sub64", "math/bits.Add64", "sync/atomic.AddInt64", "sync/atomic.LoadUint32", "(*internal/sync.Mutex).Lock", "internal/race.Disable", "sync/atomic.CompareAndSwapInt32", "internal/race.Enable", "internal/race.Acquire", "(*internal/sync.Mutex).lockSlow", "internal/sync.runtime_canSpin", "internal/sync.runtime_doSpin", "internal/sync.throw", "internal/sync.runtime_nanotime", "internal/sync.runtime_SemacquireMutex", "sync/atomic.AddInt32", "(*internal/sync.Mutex).Unlock", "internal/race.ReleaseMerge", "(*internal/sync.Mutex).unlockSlow", "internal/sync.fatal", "internal/sync.runtime_Semrelease", "sync/atomic.StoreUint32"], unfollowed := true, recurses := true, named := ["math/bits.divideError", "math/bits.overflowError"], apart := false }
def UnixNoneSaid : Prop := unixNoneRow.holds Tryz.pinned (OpenSpec.ofChange unixNoneSpec)

/-- ITS FALSE NEIGHBOUR: 'it returns false'. Refute it at one input. -/
def unixNoneWrong : ChangeSpec := { name := "unixNone", fn := fun _ => fun
  | [d1, d2] => { results := [.lit (.bool false)], args := [d1, d2] }
  | _ => none }
def UnixNoneWrongFalsely : Prop := unixNoneRow.holds Tryz.pinned (OpenSpec.ofChange unixNoneWrong)

/-- 'epactlaw17.UnixNtp': WHATEVER THE INPUT: true; the input reads as it did. -/
def unixNtpSpec : ChangeSpec := { name := "unixNtp", fn := fun _ => fun
  | [d] => { results := [.lit (.bool true)], args := [d] }
  | _ => none }
def unixNtpRow : OpenClaim := { program := "ytdfkghpgekmmlabgreat", sum := "3caa3f4719c1ecd8333890df2ff64a82d4fa9ac8f65ec70602ac9abfcea8f949", func := "epact/epactlaw17.UnixNtp", spec := "unixNtp", inPlace := ["math/bits.Sub64", "math/bits.Add64", "sync/atomic.LoadUint32", "(*internal/sync.Mutex).Lock", "internal/race.Disable", "sync/atomic.CompareAndSwapInt32", "internal/race.Enable", "internal/race.Acquire", "(*internal/sync.Mutex).lockSlow", "internal/sync.runtime_canSpin", "internal/sync.runtime_doSpin", "internal/sync.throw", "internal/sync.runtime_nanotime", "internal/sync.runtime_SemacquireMutex", "sync/atomic.AddInt32", "(*internal/sync.Mutex).Unlock", "internal/race.ReleaseMerge", "(*internal/sync.Mutex).unlockSlow", "internal/sync.fatal", "internal/sync.runtime_Semrelease", "sync/atomic.StoreUint32", "sync/atomic.AddInt64"], unfollowed := true, recurses := true, named := ["math/bits.divideError", "math/bits.overflowError"], apart := false }
def UnixNtpSaid : Prop := unixNtpRow.holds Tryz.pinned (OpenSpec.ofChange unixNtpSpec)

/-- ITS FALSE NEIGHBOUR: 'it returns false'. Refute it at one input. -/
def unixNtpWrong : ChangeSpec := { name := "unixNtp", fn := fun _ => fun
  | [d] => { results := [.lit (.bool false)], args := [d] }
  | _ => none }
def UnixNtpWrongFalsely : Prop := unixNtpRow.holds Tryz.pinned (OpenSpec.ofChange unixNtpWrong)

/- THE SECOND FORM. 'bulk': how many values and letters a reading holds, each counted each time it is reached (what is shared counts as often as it is met; a slice's spare places count too). A statement '..UptoSaid' is the law's where the arguments, and the package variables that the reading takes, are together of bulk at most 1048576: NARROWER than '..Said'. Prove '..Said' where nothing that the law and all that it calls make is longer than what came in: it says more and counts as full. Else prove '..UptoSaid'. A law counts once. -/
mutual
def uptoBulk {H : Type} : DataW H → Nat
  | .lit (.string bytes) => bytes.length + 1
  | .lit _ => 1
  | .nil => 1
  | .ptr d => uptoBulk d + 1
  | .slice elems spare => uptoBulkAll elems + uptoBulkAll spare + 1
  | .agg parts => uptoBulkAll parts + 1
  | .iface _ d => uptoBulk d + 1
  | .map entries => uptoBulkEntries entries + 1
  | .held _ => 1
def uptoBulkAll {H : Type} : List (DataW H) → Nat
  | [] => 0
  | d :: r => uptoBulk d + uptoBulkAll r
def uptoBulkEntries {H : Type} : List (Lit × DataW H) → Nat
  | [] => 0
  | x :: r => uptoBulkEntry x + uptoBulkEntries r
def uptoBulkEntry {H : Type} : Lit × DataW H → Nat
  | (.string bytes, d) => bytes.length + uptoBulk d + 1
  | (_, d) => uptoBulk d + 1
 end
def uptoSmall : (H : Type) → List (DataW H) → Bool := fun _ ds => decide (uptoBulkAll ds ≤ 1048576)
def OpenSpec.upto (s : _root_.Go.ChangeSpec) : _root_.Go.OpenSpec := { _root_.Go.OpenSpec.ofChange s with cond := some uptoSmall }

/-- 'epactlaw17.UnixCounts', WHERE WHAT IT READS IS OF BULK AT MOST 1048576: true; the input reads as it did. -/
def unixCountsUptoRow : OpenClaim := { program := "ytdfkghpgekmmlabgreat", sum := "3caa3f4719c1ecd8333890df2ff64a82d4fa9ac8f65ec70602ac9abfcea8f949", func := "epact/epactlaw17.UnixCounts", spec := "unixCounts", inPlace := ["math/bits.Sub64", "math/bits.Add64", "sync/atomic.LoadUint32", "(*internal/sync.Mutex).Lock", "internal/race.Disable", "sync/atomic.CompareAndSwapInt32", "internal/race.Enable", "internal/race.Acquire", "(*internal/sync.Mutex).lockSlow", "internal/sync.runtime_canSpin", "internal/sync.runtime_doSpin", "internal/sync.throw", "internal/sync.runtime_nanotime", "internal/sync.runtime_SemacquireMutex", "sync/atomic.AddInt32", "(*internal/sync.Mutex).Unlock", "internal/race.ReleaseMerge", "(*internal/sync.Mutex).unlockSlow", "internal/sync.fatal", "internal/sync.runtime_Semrelease", "sync/atomic.StoreUint32", "sync/atomic.AddInt64"], unfollowed := true, recurses := true, named := ["math/bits.divideError", "math/bits.overflowError"], apart := false, narrowed := true }
def UnixCountsUptoSaid : Prop := unixCountsUptoRow.holds Tryz.pinned (OpenSpec.upto unixCountsSpec)

/-- 'epactlaw17.UnixLabels', WHERE WHAT IT READS IS OF BULK AT MOST 1048576: true; the input reads as it did. -/
def unixLabelsUptoRow : OpenClaim := { program := "ytdfkghpgekmmlabgreat", sum := "3caa3f4719c1ecd8333890df2ff64a82d4fa9ac8f65ec70602ac9abfcea8f949", func := "epact/epactlaw17.UnixLabels", spec := "unixLabels", inPlace := ["sync/atomic.LoadUint32", "(*internal/sync.Mutex).Lock", "internal/race.Disable", "sync/atomic.CompareAndSwapInt32", "internal/race.Enable", "internal/race.Acquire", "(*internal/sync.Mutex).lockSlow", "internal/sync.runtime_canSpin", "internal/sync.runtime_doSpin", "internal/sync.throw", "internal/sync.runtime_nanotime", "internal/sync.runtime_SemacquireMutex", "sync/atomic.AddInt32", "(*internal/sync.Mutex).Unlock", "internal/race.ReleaseMerge", "(*internal/sync.Mutex).unlockSlow", "internal/sync.fatal", "internal/sync.runtime_Semrelease", "sync/atomic.StoreUint32", "math/bits.Sub64", "math/bits.Add64", "sync/atomic.AddInt64"], unfollowed := true, recurses := true, named := ["math/bits.divideError", "math/bits.overflowError"], apart := false, narrowed := true }
def UnixLabelsUptoSaid : Prop := unixLabelsUptoRow.holds Tryz.pinned (OpenSpec.upto unixLabelsSpec)

/-- 'epactlaw17.UnixBack', WHERE WHAT IT READS IS OF BULK AT MOST 1048576: true; the input reads as it did. -/
def unixBackUptoRow : OpenClaim := { program := "ytdfkghpgekmmlabgreat", sum := "3caa3f4719c1ecd8333890df2ff64a82d4fa9ac8f65ec70602ac9abfcea8f949", func := "epact/epactlaw17.UnixBack", spec := "unixBack", inPlace := ["sync/atomic.LoadUint32", "(*internal/sync.Mutex).Lock", "internal/race.Disable", "sync/atomic.CompareAndSwapInt32", "internal/race.Enable", "internal/race.Acquire", "(*internal/sync.Mutex).lockSlow", "internal/sync.runtime_canSpin", "internal/sync.runtime_doSpin", "internal/sync.throw", "internal/sync.runtime_nanotime", "internal/sync.runtime_SemacquireMutex", "sync/atomic.AddInt32", "(*internal/sync.Mutex).Unlock", "internal/race.ReleaseMerge", "(*internal/sync.Mutex).unlockSlow", "internal/sync.fatal", "internal/sync.runtime_Semrelease", "sync/atomic.StoreUint32", "math/bits.Sub64", "math/bits.Add64", "sync/atomic.AddInt64"], unfollowed := true, recurses := true, named := ["math/bits.divideError", "math/bits.overflowError"], apart := false, narrowed := true }
def UnixBackUptoSaid : Prop := unixBackUptoRow.holds Tryz.pinned (OpenSpec.upto unixBackSpec)

/-- 'epactlaw17.UnixTwice', WHERE WHAT IT READS IS OF BULK AT MOST 1048576: true; the input reads as it did. -/
def unixTwiceUptoRow : OpenClaim := { program := "ytdfkghpgekmmlabgreat", sum := "3caa3f4719c1ecd8333890df2ff64a82d4fa9ac8f65ec70602ac9abfcea8f949", func := "epact/epactlaw17.UnixTwice", spec := "unixTwice", inPlace := ["sync/atomic.LoadUint32", "(*internal/sync.Mutex).Lock", "internal/race.Disable", "sync/atomic.CompareAndSwapInt32", "internal/race.Enable", "internal/race.Acquire", "(*internal/sync.Mutex).lockSlow", "internal/sync.runtime_canSpin", "internal/sync.runtime_doSpin", "internal/sync.throw", "internal/sync.runtime_nanotime", "internal/sync.runtime_SemacquireMutex", "sync/atomic.AddInt32", "(*internal/sync.Mutex).Unlock", "internal/race.ReleaseMerge", "(*internal/sync.Mutex).unlockSlow", "internal/sync.fatal", "internal/sync.runtime_Semrelease", "sync/atomic.StoreUint32", "math/bits.Sub64", "math/bits.Add64", "sync/atomic.AddInt64"], unfollowed := true, recurses := true, named := ["math/bits.divideError", "math/bits.overflowError"], apart := false, narrowed := true }
def UnixTwiceUptoSaid : Prop := unixTwiceUptoRow.holds Tryz.pinned (OpenSpec.upto unixTwiceSpec)

/-- 'epactlaw17.UnixNone', WHERE WHAT IT READS IS OF BULK AT MOST 1048576: true; the input reads as it did. -/
def unixNoneUptoRow : OpenClaim := { program := "ytdfkghpgekmmlabgreat", sum := "3caa3f4719c1ecd8333890df2ff64a82d4fa9ac8f65ec70602ac9abfcea8f949", func := "epact/epactlaw17.UnixNone", spec := "unixNone", inPlace := ["math/bits.Sub64", "math/bits.Add64", "sync/atomic.AddInt64", "sync/atomic.LoadUint32", "(*internal/sync.Mutex).Lock", "internal/race.Disable", "sync/atomic.CompareAndSwapInt32", "internal/race.Enable", "internal/race.Acquire", "(*internal/sync.Mutex).lockSlow", "internal/sync.runtime_canSpin", "internal/sync.runtime_doSpin", "internal/sync.throw", "internal/sync.runtime_nanotime", "internal/sync.runtime_SemacquireMutex", "sync/atomic.AddInt32", "(*internal/sync.Mutex).Unlock", "internal/race.ReleaseMerge", "(*internal/sync.Mutex).unlockSlow", "internal/sync.fatal", "internal/sync.runtime_Semrelease", "sync/atomic.StoreUint32"], unfollowed := true, recurses := true, named := ["math/bits.divideError", "math/bits.overflowError"], apart := false, narrowed := true }
def UnixNoneUptoSaid : Prop := unixNoneUptoRow.holds Tryz.pinned (OpenSpec.upto unixNoneSpec)

/-- 'epactlaw17.UnixNtp', WHERE WHAT IT READS IS OF BULK AT MOST 1048576: true; the input reads as it did. -/
def unixNtpUptoRow : OpenClaim := { program := "ytdfkghpgekmmlabgreat", sum := "3caa3f4719c1ecd8333890df2ff64a82d4fa9ac8f65ec70602ac9abfcea8f949", func := "epact/epactlaw17.UnixNtp", spec := "unixNtp", inPlace := ["math/bits.Sub64", "math/bits.Add64", "sync/atomic.LoadUint32", "(*internal/sync.Mutex).Lock", "internal/race.Disable", "sync/atomic.CompareAndSwapInt32", "internal/race.Enable", "internal/race.Acquire", "(*internal/sync.Mutex).lockSlow", "internal/sync.runtime_canSpin", "internal/sync.runtime_doSpin", "internal/sync.throw", "internal/sync.runtime_nanotime", "internal/sync.runtime_SemacquireMutex", "sync/atomic.AddInt32", "(*internal/sync.Mutex).Unlock", "internal/race.ReleaseMerge", "(*internal/sync.Mutex).unlockSlow", "internal/sync.fatal", "internal/sync.runtime_Semrelease", "sync/atomic.StoreUint32", "sync/atomic.AddInt64"], unfollowed := true, recurses := true, named := ["math/bits.divideError", "math/bits.overflowError"], apart := false, narrowed := true }
def UnixNtpUptoSaid : Prop := unixNtpUptoRow.holds Tryz.pinned (OpenSpec.upto unixNtpSpec)

end Rows
end Go.Proofs.YtdfkghpgekmmlabGreat

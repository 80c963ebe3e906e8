/-
  No cell of these rows narrows 'for every input' (looked for: loops, veiled, ifaces, maps, wideKeys, modest, calm, conditions, laid).
  DERIVED. THE GIVEN ROWS OF THIS SEAT. 17 by the template 'for every input the law returns true; each argument reads behind the call as it read before'; 0 by the template 'total and deterministic' (their statements: YtdbhgeihphjgeaaTotals.lean).
  GIVEN WITH THE SEED: the statements are not yours to turn. If you find one false, say at which input.
  Laid BY PROGRAM, IN A SANDBOX (cutbox-rows.mjs): the forced cells as the released guide's own fill.sh prints them over the translation 34f395f0f1e04d2e… (all of the seat's roots in one cut). By AI agents, Wed Nov 11 2026. No macro, syntax, notation, axiom, sorry.
-/
import Derived.Test.YtdbhgeihphjgeaaChecked
import GoSem.Claim
import GoSem.ClaimJoined
import GoSem.ClaimMapViews
import Derived.JoinedTies
import Derived.KernelRfl
namespace Go.Proofs.Ytdbhgeihphjgeaa
/- THE CELL 'sum', in the pinned program and in every row, IS THE sha256 OF THE DUMP (.gsa) THAT YtdbhgeihphjgeaaProg.lean LOADS. Nothing in Lean hashes anything: it is a label: what it is worth is what the hold of that sum in a sandbox is worth. -/
noncomputable def Try.pinned : Pinned := { name := "ytdbhgeihphjgeaa", sum := "34f395f0f1e04d2ede00d228a1727ff3a4b3bc5054c10845e0f7cf25084783ed", checked := Try.checked }
namespace Rows
def none {H : Type} : Left H := { results := [], args := [] }

/-- 'epactlaw12.LeapsDays': WHATEVER THE INPUT: true; the input reads as it did. -/
def leapsDaysSpec : ChangeSpec := { name := "leapsDays", fn := fun _ => fun
  | [d1, d2] => { results := [.lit (.bool true)], args := [d1, d2] }
  | _ => none }
def leapsDaysRow : OpenClaim := { program := "ytdbhgeihphjgeaa", sum := "34f395f0f1e04d2ede00d228a1727ff3a4b3bc5054c10845e0f7cf25084783ed", func := "epact/epactlaw12.LeapsDays", spec := "leapsDays", inPlace := ["sync/atomic.AddInt64", "sync/atomic.LoadUint32", "(*internal/sync.Mutex).Lock", "internal/race.Disable", "sync/atomic.CompareAndSwapInt32", "internal/race.Enable", "internal/race.Acquire", "(*internal/sync.Mutex).lockSlow", "internal/sync.runtime_canSpin", "internal/sync.runtime_doSpin", "internal/sync.throw", "internal/sync.runtime_nanotime", "internal/sync.runtime_SemacquireMutex", "sync/atomic.AddInt32", "(*internal/sync.Mutex).Unlock", "internal/race.ReleaseMerge", "(*internal/sync.Mutex).unlockSlow", "internal/sync.fatal", "internal/sync.runtime_Semrelease", "sync/atomic.StoreUint32", "sync/atomic.LoadInt64"], unfollowed := true, recurses := true, apart := false }
def LeapsDaysSaid : Prop := leapsDaysRow.holds Try.pinned (OpenSpec.ofChange leapsDaysSpec)

/-- ITS FALSE NEIGHBOUR: 'it returns false'. Refute it at one input. -/
def leapsDaysWrong : ChangeSpec := { name := "leapsDays", fn := fun _ => fun
  | [d1, d2] => { results := [.lit (.bool false)], args := [d1, d2] }
  | _ => none }
def LeapsDaysWrongFalsely : Prop := leapsDaysRow.holds Try.pinned (OpenSpec.ofChange leapsDaysWrong)

/-- 'epactlaw12.LeapsSums': WHATEVER THE INPUT: true; the input reads as it did. -/
def leapsSumsSpec : ChangeSpec := { name := "leapsSums", fn := fun _ => fun
  | [d1, d2] => { results := [.lit (.bool true)], args := [d1, d2] }
  | _ => none }
def leapsSumsRow : OpenClaim := { program := "ytdbhgeihphjgeaa", sum := "34f395f0f1e04d2ede00d228a1727ff3a4b3bc5054c10845e0f7cf25084783ed", func := "epact/epactlaw12.LeapsSums", spec := "leapsSums", inPlace := ["sync/atomic.LoadUint32", "(*internal/sync.Mutex).Lock", "internal/race.Disable", "sync/atomic.CompareAndSwapInt32", "internal/race.Enable", "internal/race.Acquire", "(*internal/sync.Mutex).lockSlow", "internal/sync.runtime_canSpin", "internal/sync.runtime_doSpin", "internal/sync.throw", "internal/sync.runtime_nanotime", "internal/sync.runtime_SemacquireMutex", "sync/atomic.AddInt32", "(*internal/sync.Mutex).Unlock", "internal/race.ReleaseMerge", "(*internal/sync.Mutex).unlockSlow", "internal/sync.fatal", "internal/sync.runtime_Semrelease", "sync/atomic.StoreUint32", "sync/atomic.AddInt64", "sync/atomic.LoadInt64"], unfollowed := true, recurses := true, apart := false }
def LeapsSumsSaid : Prop := leapsSumsRow.holds Try.pinned (OpenSpec.ofChange leapsSumsSpec)

/-- ITS FALSE NEIGHBOUR: 'it returns false'. Refute it at one input. -/
def leapsSumsWrong : ChangeSpec := { name := "leapsSums", fn := fun _ => fun
  | [d1, d2] => { results := [.lit (.bool false)], args := [d1, d2] }
  | _ => none }
def LeapsSumsWrongFalsely : Prop := leapsSumsRow.holds Try.pinned (OpenSpec.ofChange leapsSumsWrong)

/-- 'epactlaw12.LeapsNews': WHATEVER THE INPUT: true; the input reads as it did. -/
def leapsNewsSpec : ChangeSpec := { name := "leapsNews", fn := fun _ => fun
  | [d] => { results := [.lit (.bool true)], args := [d] }
  | _ => none }
def leapsNewsRow : OpenClaim := { program := "ytdbhgeihphjgeaa", sum := "34f395f0f1e04d2ede00d228a1727ff3a4b3bc5054c10845e0f7cf25084783ed", func := "epact/epactlaw12.LeapsNews", spec := "leapsNews", inPlace := ["sync/atomic.AddInt64", "sync/atomic.LoadUint32", "(*internal/sync.Mutex).Lock", "internal/race.Disable", "sync/atomic.CompareAndSwapInt32", "internal/race.Enable", "internal/race.Acquire", "(*internal/sync.Mutex).lockSlow", "internal/sync.runtime_canSpin", "internal/sync.runtime_doSpin", "internal/sync.throw", "internal/sync.runtime_nanotime", "internal/sync.runtime_SemacquireMutex", "sync/atomic.AddInt32", "(*internal/sync.Mutex).Unlock", "internal/race.ReleaseMerge", "(*internal/sync.Mutex).unlockSlow", "internal/sync.fatal", "internal/sync.runtime_Semrelease", "sync/atomic.StoreUint32", "sync/atomic.LoadInt64"], unfollowed := true, recurses := true, apart := false }
def LeapsNewsSaid : Prop := leapsNewsRow.holds Try.pinned (OpenSpec.ofChange leapsNewsSpec)

/-- ITS FALSE NEIGHBOUR: 'it returns false'. Refute it at one input. -/
def leapsNewsWrong : ChangeSpec := { name := "leapsNews", fn := fun _ => fun
  | [d] => { results := [.lit (.bool false)], args := [d] }
  | _ => none }
def LeapsNewsWrongFalsely : Prop := leapsNewsRow.holds Try.pinned (OpenSpec.ofChange leapsNewsWrong)

/-- 'epactlaw12.LeapsOwn': WHATEVER THE INPUT: true; the input reads as it did. -/
def leapsOwnSpec : ChangeSpec := { name := "leapsOwn", fn := fun _ => fun
  | [d] => { results := [.lit (.bool true)], args := [d] }
  | _ => none }
def leapsOwnRow : OpenClaim := { program := "ytdbhgeihphjgeaa", sum := "34f395f0f1e04d2ede00d228a1727ff3a4b3bc5054c10845e0f7cf25084783ed", func := "epact/epactlaw12.LeapsOwn", spec := "leapsOwn", inPlace := ["sync/atomic.AddInt64", "sync/atomic.LoadUint32", "(*internal/sync.Mutex).Lock", "internal/race.Disable", "sync/atomic.CompareAndSwapInt32", "internal/race.Enable", "internal/race.Acquire", "(*internal/sync.Mutex).lockSlow", "internal/sync.runtime_canSpin", "internal/sync.runtime_doSpin", "internal/sync.throw", "internal/sync.runtime_nanotime", "internal/sync.runtime_SemacquireMutex", "sync/atomic.AddInt32", "(*internal/sync.Mutex).Unlock", "internal/race.ReleaseMerge", "(*internal/sync.Mutex).unlockSlow", "internal/sync.fatal", "internal/sync.runtime_Semrelease", "sync/atomic.StoreUint32", "sync/atomic.LoadInt64"], unfollowed := true, recurses := true, apart := false }
def LeapsOwnSaid : Prop := leapsOwnRow.holds Try.pinned (OpenSpec.ofChange leapsOwnSpec)

/-- ITS FALSE NEIGHBOUR: 'it returns false'. Refute it at one input. -/
def leapsOwnWrong : ChangeSpec := { name := "leapsOwn", fn := fun _ => fun
  | [d] => { results := [.lit (.bool false)], args := [d] }
  | _ => none }
def LeapsOwnWrongFalsely : Prop := leapsOwnRow.holds Try.pinned (OpenSpec.ofChange leapsOwnWrong)

/-- 'epactlaw12.LeapsAt': WHATEVER THE INPUT: true; the input reads as it did. -/
def leapsAtSpec : ChangeSpec := { name := "leapsAt", fn := fun _ => fun
  | [d1, d2] => { results := [.lit (.bool true)], args := [d1, d2] }
  | _ => none }
def leapsAtRow : OpenClaim := { program := "ytdbhgeihphjgeaa", sum := "34f395f0f1e04d2ede00d228a1727ff3a4b3bc5054c10845e0f7cf25084783ed", func := "epact/epactlaw12.LeapsAt", spec := "leapsAt", inPlace := ["sync/atomic.AddInt64", "sync/atomic.LoadUint32", "(*internal/sync.Mutex).Lock", "internal/race.Disable", "sync/atomic.CompareAndSwapInt32", "internal/race.Enable", "internal/race.Acquire", "(*internal/sync.Mutex).lockSlow", "internal/sync.runtime_canSpin", "internal/sync.runtime_doSpin", "internal/sync.throw", "internal/sync.runtime_nanotime", "internal/sync.runtime_SemacquireMutex", "sync/atomic.AddInt32", "(*internal/sync.Mutex).Unlock", "internal/race.ReleaseMerge", "(*internal/sync.Mutex).unlockSlow", "internal/sync.fatal", "internal/sync.runtime_Semrelease", "sync/atomic.StoreUint32", "sync/atomic.LoadInt64"], unfollowed := true, recurses := true, apart := false }
def LeapsAtSaid : Prop := leapsAtRow.holds Try.pinned (OpenSpec.ofChange leapsAtSpec)

/-- ITS FALSE NEIGHBOUR: 'it returns false'. Refute it at one input. -/
def leapsAtWrong : ChangeSpec := { name := "leapsAt", fn := fun _ => fun
  | [d1, d2] => { results := [.lit (.bool false)], args := [d1, d2] }
  | _ => none }
def LeapsAtWrongFalsely : Prop := leapsAtRow.holds Try.pinned (OpenSpec.ofChange leapsAtWrong)

/-- 'epactlaw12.LeapsAsked': WHATEVER THE INPUT: true; the input reads as it did. -/
def leapsAskedSpec : ChangeSpec := { name := "leapsAsked", fn := fun _ => fun
  | [d1, d2] => { results := [.lit (.bool true)], args := [d1, d2] }
  | _ => none }
def leapsAskedRow : OpenClaim := { program := "ytdbhgeihphjgeaa", sum := "34f395f0f1e04d2ede00d228a1727ff3a4b3bc5054c10845e0f7cf25084783ed", func := "epact/epactlaw12.LeapsAsked", spec := "leapsAsked", inPlace := ["sync/atomic.AddInt64", "sync/atomic.LoadUint32", "(*internal/sync.Mutex).Lock", "internal/race.Disable", "sync/atomic.CompareAndSwapInt32", "internal/race.Enable", "internal/race.Acquire", "(*internal/sync.Mutex).lockSlow", "internal/sync.runtime_canSpin", "internal/sync.runtime_doSpin", "internal/sync.throw", "internal/sync.runtime_nanotime", "internal/sync.runtime_SemacquireMutex", "sync/atomic.AddInt32", "(*internal/sync.Mutex).Unlock", "internal/race.ReleaseMerge", "(*internal/sync.Mutex).unlockSlow", "internal/sync.fatal", "internal/sync.runtime_Semrelease", "sync/atomic.StoreUint32", "sync/atomic.LoadInt64"], unfollowed := true, recurses := true, apart := false }
def LeapsAskedSaid : Prop := leapsAskedRow.holds Try.pinned (OpenSpec.ofChange leapsAskedSpec)

/-- ITS FALSE NEIGHBOUR: 'it returns false'. Refute it at one input. -/
def leapsAskedWrong : ChangeSpec := { name := "leapsAsked", fn := fun _ => fun
  | [d1, d2] => { results := [.lit (.bool false)], args := [d1, d2] }
  | _ => none }
def LeapsAskedWrongFalsely : Prop := leapsAskedRow.holds Try.pinned (OpenSpec.ofChange leapsAskedWrong)

/-- 'epactlaw12.LeapsNone': WHATEVER THE INPUT: true; the input reads as it did. -/
def leapsNoneSpec : ChangeSpec := { name := "leapsNone", fn := fun _ => fun
  | [d] => { results := [.lit (.bool true)], args := [d] }
  | _ => none }
def leapsNoneRow : OpenClaim := { program := "ytdbhgeihphjgeaa", sum := "34f395f0f1e04d2ede00d228a1727ff3a4b3bc5054c10845e0f7cf25084783ed", func := "epact/epactlaw12.LeapsNone", spec := "leapsNone", inPlace := ["sync/atomic.AddInt64", "sync/atomic.LoadUint32", "(*internal/sync.Mutex).Lock", "internal/race.Disable", "sync/atomic.CompareAndSwapInt32", "internal/race.Enable", "internal/race.Acquire", "(*internal/sync.Mutex).lockSlow", "internal/sync.runtime_canSpin", "internal/sync.runtime_doSpin", "internal/sync.throw", "internal/sync.runtime_nanotime", "internal/sync.runtime_SemacquireMutex", "sync/atomic.AddInt32", "(*internal/sync.Mutex).Unlock", "internal/race.ReleaseMerge", "(*internal/sync.Mutex).unlockSlow", "internal/sync.fatal", "internal/sync.runtime_Semrelease", "sync/atomic.StoreUint32", "sync/atomic.LoadInt64"], unfollowed := true, recurses := true, apart := false }
def LeapsNoneSaid : Prop := leapsNoneRow.holds Try.pinned (OpenSpec.ofChange leapsNoneSpec)

/-- ITS FALSE NEIGHBOUR: 'it returns false'. Refute it at one input. -/
def leapsNoneWrong : ChangeSpec := { name := "leapsNone", fn := fun _ => fun
  | [d] => { results := [.lit (.bool false)], args := [d] }
  | _ => none }
def LeapsNoneWrongFalsely : Prop := leapsNoneRow.holds Try.pinned (OpenSpec.ofChange leapsNoneWrong)

/-- 'epactlaw14.RubberSegments': WHATEVER THE INPUT: true; the input reads as it did. -/
def rubberSegmentsSpec : ChangeSpec := { name := "rubberSegments", fn := fun _ => fun
  | [d1, d2] => { results := [.lit (.bool true)], args := [d1, d2] }
  | _ => none }
def rubberSegmentsRow : OpenClaim := { program := "ytdbhgeihphjgeaa", sum := "34f395f0f1e04d2ede00d228a1727ff3a4b3bc5054c10845e0f7cf25084783ed", func := "epact/epactlaw14.RubberSegments", spec := "rubberSegments", inPlace := ["math/bits.Sub64", "math/bits.Add64"], unfollowed := true, recurses := true, named := ["math/bits.divideError", "math/bits.overflowError"], apart := false }
def RubberSegmentsSaid : Prop := rubberSegmentsRow.holds Try.pinned (OpenSpec.ofChange rubberSegmentsSpec)

/-- ITS FALSE NEIGHBOUR: 'it returns false'. Refute it at one input. -/
def rubberSegmentsWrong : ChangeSpec := { name := "rubberSegments", fn := fun _ => fun
  | [d1, d2] => { results := [.lit (.bool false)], args := [d1, d2] }
  | _ => none }
def RubberSegmentsWrongFalsely : Prop := rubberSegmentsRow.holds Try.pinned (OpenSpec.ofChange rubberSegmentsWrong)

/-- 'epactlaw14.RubberNews': WHATEVER THE INPUT: true; the input reads as it did. -/
def rubberNewsSpec : ChangeSpec := { name := "rubberNews", fn := fun _ => fun
  | [d] => { results := [.lit (.bool true)], args := [d] }
  | _ => none }
def rubberNewsRow : OpenClaim := { program := "ytdbhgeihphjgeaa", sum := "34f395f0f1e04d2ede00d228a1727ff3a4b3bc5054c10845e0f7cf25084783ed", func := "epact/epactlaw14.RubberNews", spec := "rubberNews", inPlace := ["math/bits.Sub64", "math/bits.Add64"], unfollowed := true, recurses := true, named := ["math/bits.divideError", "math/bits.overflowError"], apart := false }
def RubberNewsSaid : Prop := rubberNewsRow.holds Try.pinned (OpenSpec.ofChange rubberNewsSpec)

/-- ITS FALSE NEIGHBOUR: 'it returns false'. Refute it at one input. -/
def rubberNewsWrong : ChangeSpec := { name := "rubberNews", fn := fun _ => fun
  | [d] => { results := [.lit (.bool false)], args := [d] }
  | _ => none }
def RubberNewsWrongFalsely : Prop := rubberNewsRow.holds Try.pinned (OpenSpec.ofChange rubberNewsWrong)

/-- 'epactlaw14.RubberTais': WHATEVER THE INPUT: true; the input reads as it did. -/
def rubberTaisSpec : ChangeSpec := { name := "rubberTais", fn := fun _ => fun
  | [d1, d2] => { results := [.lit (.bool true)], args := [d1, d2] }
  | _ => none }
def rubberTaisRow : OpenClaim := { program := "ytdbhgeihphjgeaa", sum := "34f395f0f1e04d2ede00d228a1727ff3a4b3bc5054c10845e0f7cf25084783ed", func := "epact/epactlaw14.RubberTais", spec := "rubberTais", inPlace := ["math/bits.Sub64", "math/bits.Add64"], unfollowed := true, recurses := true, named := ["math/bits.divideError", "math/bits.overflowError"], apart := false }
def RubberTaisSaid : Prop := rubberTaisRow.holds Try.pinned (OpenSpec.ofChange rubberTaisSpec)

/-- ITS FALSE NEIGHBOUR: 'it returns false'. Refute it at one input. -/
def rubberTaisWrong : ChangeSpec := { name := "rubberTais", fn := fun _ => fun
  | [d1, d2] => { results := [.lit (.bool false)], args := [d1, d2] }
  | _ => none }
def RubberTaisWrongFalsely : Prop := rubberTaisRow.holds Try.pinned (OpenSpec.ofChange rubberTaisWrong)

/-- 'epactlaw14.RubberLabels': WHATEVER THE INPUT: true; the input reads as it did. -/
def rubberLabelsSpec : ChangeSpec := { name := "rubberLabels", fn := fun _ => fun
  | [d1, d2] => { results := [.lit (.bool true)], args := [d1, d2] }
  | _ => none }
def rubberLabelsRow : OpenClaim := { program := "ytdbhgeihphjgeaa", sum := "34f395f0f1e04d2ede00d228a1727ff3a4b3bc5054c10845e0f7cf25084783ed", func := "epact/epactlaw14.RubberLabels", spec := "rubberLabels", inPlace := ["math/bits.Sub64", "math/bits.Add64"], unfollowed := true, recurses := true, named := ["math/bits.divideError", "math/bits.overflowError"], apart := false }
def RubberLabelsSaid : Prop := rubberLabelsRow.holds Try.pinned (OpenSpec.ofChange rubberLabelsSpec)

/-- ITS FALSE NEIGHBOUR: 'it returns false'. Refute it at one input. -/
def rubberLabelsWrong : ChangeSpec := { name := "rubberLabels", fn := fun _ => fun
  | [d1, d2] => { results := [.lit (.bool false)], args := [d1, d2] }
  | _ => none }
def RubberLabelsWrongFalsely : Prop := rubberLabelsRow.holds Try.pinned (OpenSpec.ofChange rubberLabelsWrong)

/-- 'epactlaw14.RubberBack': WHATEVER THE INPUT: true; the input reads as it did. -/
def rubberBackSpec : ChangeSpec := { name := "rubberBack", fn := fun _ => fun
  | [d1, d2, d3] => { results := [.lit (.bool true)], args := [d1, d2, d3] }
  | _ => none }
def rubberBackRow : OpenClaim := { program := "ytdbhgeihphjgeaa", sum := "34f395f0f1e04d2ede00d228a1727ff3a4b3bc5054c10845e0f7cf25084783ed", func := "epact/epactlaw14.RubberBack", spec := "rubberBack", inPlace := ["math/bits.Sub64", "math/bits.Add64"], unfollowed := true, recurses := true, named := ["math/bits.divideError", "math/bits.overflowError"], apart := false }
def RubberBackSaid : Prop := rubberBackRow.holds Try.pinned (OpenSpec.ofChange rubberBackSpec)

/-- ITS FALSE NEIGHBOUR: 'it returns false'. Refute it at one input. -/
def rubberBackWrong : ChangeSpec := { name := "rubberBack", fn := fun _ => fun
  | [d1, d2, d3] => { results := [.lit (.bool false)], args := [d1, d2, d3] }
  | _ => none }
def RubberBackWrongFalsely : Prop := rubberBackRow.holds Try.pinned (OpenSpec.ofChange rubberBackWrong)

/-- 'epactlaw14.RubberRises': WHATEVER THE INPUT: true; the input reads as it did. -/
def rubberRisesSpec : ChangeSpec := { name := "rubberRises", fn := fun _ => fun
  | [d1, d2, d3] => { results := [.lit (.bool true)], args := [d1, d2, d3] }
  | _ => none }
def rubberRisesRow : OpenClaim := { program := "ytdbhgeihphjgeaa", sum := "34f395f0f1e04d2ede00d228a1727ff3a4b3bc5054c10845e0f7cf25084783ed", func := "epact/epactlaw14.RubberRises", spec := "rubberRises", inPlace := ["math/bits.Sub64", "math/bits.Add64"], unfollowed := true, recurses := true, named := ["math/bits.divideError", "math/bits.overflowError"], apart := false }
def RubberRisesSaid : Prop := rubberRisesRow.holds Try.pinned (OpenSpec.ofChange rubberRisesSpec)

/-- ITS FALSE NEIGHBOUR: 'it returns false'. Refute it at one input. -/
def rubberRisesWrong : ChangeSpec := { name := "rubberRises", fn := fun _ => fun
  | [d1, d2, d3] => { results := [.lit (.bool false)], args := [d1, d2, d3] }
  | _ => none }
def RubberRisesWrongFalsely : Prop := rubberRisesRow.holds Try.pinned (OpenSpec.ofChange rubberRisesWrong)

/-- 'epactlaw14.RubberNone': WHATEVER THE INPUT: true; the input reads as it did. -/
def rubberNoneSpec : ChangeSpec := { name := "rubberNone", fn := fun _ => fun
  | [d1, d2, d3] => { results := [.lit (.bool true)], args := [d1, d2, d3] }
  | _ => none }
def rubberNoneRow : OpenClaim := { program := "ytdbhgeihphjgeaa", sum := "34f395f0f1e04d2ede00d228a1727ff3a4b3bc5054c10845e0f7cf25084783ed", func := "epact/epactlaw14.RubberNone", spec := "rubberNone", inPlace := ["math/bits.Sub64", "math/bits.Add64"], unfollowed := true, recurses := true, named := ["math/bits.divideError", "math/bits.overflowError"], apart := false }
def RubberNoneSaid : Prop := rubberNoneRow.holds Try.pinned (OpenSpec.ofChange rubberNoneSpec)

/-- ITS FALSE NEIGHBOUR: 'it returns false'. Refute it at one input. -/
def rubberNoneWrong : ChangeSpec := { name := "rubberNone", fn := fun _ => fun
  | [d1, d2, d3] => { results := [.lit (.bool false)], args := [d1, d2, d3] }
  | _ => none }
def RubberNoneWrongFalsely : Prop := rubberNoneRow.holds Try.pinned (OpenSpec.ofChange rubberNoneWrong)

/-- 'epactlaw13.UtcBack': WHATEVER THE INPUT: true; the input reads as it did. -/
def utcBackSpec : ChangeSpec := { name := "utcBack", fn := fun _ => fun
  | [d1, d2, d3] => { results := [.lit (.bool true)], args := [d1, d2, d3] }
  | _ => none }
def utcBackRow : OpenClaim := { program := "ytdbhgeihphjgeaa", sum := "34f395f0f1e04d2ede00d228a1727ff3a4b3bc5054c10845e0f7cf25084783ed", func := "epact/epactlaw13.UtcBack", spec := "utcBack", inPlace := ["sync/atomic.AddInt64", "sync/atomic.LoadUint32", "(*internal/sync.Mutex).Lock", "internal/race.Disable", "sync/atomic.CompareAndSwapInt32", "internal/race.Enable", "internal/race.Acquire", "(*internal/sync.Mutex).lockSlow", "internal/sync.runtime_canSpin", "internal/sync.runtime_doSpin", "internal/sync.throw", "internal/sync.runtime_nanotime", "internal/sync.runtime_SemacquireMutex", "sync/atomic.AddInt32", "(*internal/sync.Mutex).Unlock", "internal/race.ReleaseMerge", "(*internal/sync.Mutex).unlockSlow", "internal/sync.fatal", "internal/sync.runtime_Semrelease", "sync/atomic.StoreUint32", "math/bits.Sub64", "math/bits.Add64"], unfollowed := true, recurses := true, named := ["math/bits.divideError", "math/bits.overflowError"], apart := false }
def UtcBackSaid : Prop := utcBackRow.holds Try.pinned (OpenSpec.ofChange utcBackSpec)

/-- ITS FALSE NEIGHBOUR: 'it returns false'. Refute it at one input. -/
def utcBackWrong : ChangeSpec := { name := "utcBack", fn := fun _ => fun
  | [d1, d2, d3] => { results := [.lit (.bool false)], args := [d1, d2, d3] }
  | _ => none }
def UtcBackWrongFalsely : Prop := utcBackRow.holds Try.pinned (OpenSpec.ofChange utcBackWrong)

/-- 'epactlaw13.UtcSeconds': WHATEVER THE INPUT: true; the input reads as it did. -/
def utcSecondsSpec : ChangeSpec := { name := "utcSeconds", fn := fun _ => fun
  | [d1, d2, d3] => { results := [.lit (.bool true)], args := [d1, d2, d3] }
  | _ => none }
def utcSecondsRow : OpenClaim := { program := "ytdbhgeihphjgeaa", sum := "34f395f0f1e04d2ede00d228a1727ff3a4b3bc5054c10845e0f7cf25084783ed", func := "epact/epactlaw13.UtcSeconds", spec := "utcSeconds", inPlace := ["sync/atomic.AddInt64", "sync/atomic.LoadUint32", "(*internal/sync.Mutex).Lock", "internal/race.Disable", "sync/atomic.CompareAndSwapInt32", "internal/race.Enable", "internal/race.Acquire", "(*internal/sync.Mutex).lockSlow", "internal/sync.runtime_canSpin", "internal/sync.runtime_doSpin", "internal/sync.throw", "internal/sync.runtime_nanotime", "internal/sync.runtime_SemacquireMutex", "sync/atomic.AddInt32", "(*internal/sync.Mutex).Unlock", "internal/race.ReleaseMerge", "(*internal/sync.Mutex).unlockSlow", "internal/sync.fatal", "internal/sync.runtime_Semrelease", "sync/atomic.StoreUint32", "math/bits.Sub64", "math/bits.Add64"], unfollowed := true, recurses := true, named := ["math/bits.divideError", "math/bits.overflowError"], apart := false }
def UtcSecondsSaid : Prop := utcSecondsRow.holds Try.pinned (OpenSpec.ofChange utcSecondsSpec)

/-- ITS FALSE NEIGHBOUR: 'it returns false'. Refute it at one input. -/
def utcSecondsWrong : ChangeSpec := { name := "utcSeconds", fn := fun _ => fun
  | [d1, d2, d3] => { results := [.lit (.bool false)], args := [d1, d2, d3] }
  | _ => none }
def UtcSecondsWrongFalsely : Prop := utcSecondsRow.holds Try.pinned (OpenSpec.ofChange utcSecondsWrong)

/-- 'epactlaw13.UtcNone': WHATEVER THE INPUT: true; the input reads as it did. -/
def utcNoneSpec : ChangeSpec := { name := "utcNone", fn := fun _ => fun
  | [d1, d2] => { results := [.lit (.bool true)], args := [d1, d2] }
  | _ => none }
def utcNoneRow : OpenClaim := { program := "ytdbhgeihphjgeaa", sum := "34f395f0f1e04d2ede00d228a1727ff3a4b3bc5054c10845e0f7cf25084783ed", func := "epact/epactlaw13.UtcNone", spec := "utcNone", inPlace := ["sync/atomic.AddInt64", "sync/atomic.LoadUint32", "(*internal/sync.Mutex).Lock", "internal/race.Disable", "sync/atomic.CompareAndSwapInt32", "internal/race.Enable", "internal/race.Acquire", "(*internal/sync.Mutex).lockSlow", "internal/sync.runtime_canSpin", "internal/sync.runtime_doSpin", "internal/sync.throw", "internal/sync.runtime_nanotime", "internal/sync.runtime_SemacquireMutex", "sync/atomic.AddInt32", "(*internal/sync.Mutex).Unlock", "internal/race.ReleaseMerge", "(*internal/sync.Mutex).unlockSlow", "internal/sync.fatal", "internal/sync.runtime_Semrelease", "sync/atomic.StoreUint32", "math/bits.Sub64", "math/bits.Add64"], unfollowed := true, recurses := true, named := ["math/bits.divideError", "math/bits.overflowError"], apart := false }
def UtcNoneSaid : Prop := utcNoneRow.holds Try.pinned (OpenSpec.ofChange utcNoneSpec)

/-- ITS FALSE NEIGHBOUR: 'it returns false'. Refute it at one input. -/
def utcNoneWrong : ChangeSpec := { name := "utcNone", fn := fun _ => fun
  | [d1, d2] => { results := [.lit (.bool false)], args := [d1, d2] }
  | _ => none }
def UtcNoneWrongFalsely : Prop := utcNoneRow.holds Try.pinned (OpenSpec.ofChange utcNoneWrong)

/- THE SECOND FORM. 'bulk': how many values and letters a reading holds, each counted each time it is reached (what is shared counts as often as it is met; a slice's spare places count too). A statement '..UptoSaid' is the law's where the arguments, and the package variables that the reading takes, are together of bulk at most 1048576: NARROWER than '..Said'. Prove '..Said' where nothing that the law and all that it calls make is longer than what came in: it says more and counts as full. Else prove '..UptoSaid'. A law counts once. -/
mutual
def uptoBulk {H : Type} : DataW H → Nat
  | .lit (.string bytes) => bytes.length + 1
  | .lit _ => 1
  | .nil => 1
  | .ptr d => uptoBulk d + 1
  | .slice elems spare => uptoBulkAll elems + uptoBulkAll spare + 1
  | .agg parts => uptoBulkAll parts + 1
  | .iface _ d => uptoBulk d + 1
  | .map entries => uptoBulkEntries entries + 1
  | .held _ => 1
def uptoBulkAll {H : Type} : List (DataW H) → Nat
  | [] => 0
  | d :: r => uptoBulk d + uptoBulkAll r
def uptoBulkEntries {H : Type} : List (Lit × DataW H) → Nat
  | [] => 0
  | x :: r => uptoBulkEntry x + uptoBulkEntries r
def uptoBulkEntry {H : Type} : Lit × DataW H → Nat
  | (.string bytes, d) => bytes.length + uptoBulk d + 1
  | (_, d) => uptoBulk d + 1
 end
def uptoSmall : (H : Type) → List (DataW H) → Bool := fun _ ds => decide (uptoBulkAll ds ≤ 1048576)
def OpenSpec.upto (s : _root_.Go.ChangeSpec) : _root_.Go.OpenSpec := { _root_.Go.OpenSpec.ofChange s with cond := some uptoSmall }

/-- 'epactlaw12.LeapsDays', WHERE WHAT IT READS IS OF BULK AT MOST 1048576: true; the input reads as it did. -/
def leapsDaysUptoRow : OpenClaim := { program := "ytdbhgeihphjgeaa", sum := "34f395f0f1e04d2ede00d228a1727ff3a4b3bc5054c10845e0f7cf25084783ed", func := "epact/epactlaw12.LeapsDays", spec := "leapsDays", inPlace := ["sync/atomic.AddInt64", "sync/atomic.LoadUint32", "(*internal/sync.Mutex).Lock", "internal/race.Disable", "sync/atomic.CompareAndSwapInt32", "internal/race.Enable", "internal/race.Acquire", "(*internal/sync.Mutex).lockSlow", "internal/sync.runtime_canSpin", "internal/sync.runtime_doSpin", "internal/sync.throw", "internal/sync.runtime_nanotime", "internal/sync.runtime_SemacquireMutex", "sync/atomic.AddInt32", "(*internal/sync.Mutex).Unlock", "internal/race.ReleaseMerge", "(*internal/sync.Mutex).unlockSlow", "internal/sync.fatal", "internal/sync.runtime_Semrelease", "sync/atomic.StoreUint32", "sync/atomic.LoadInt64"], unfollowed := true, recurses := true, apart := false, narrowed := true }
def LeapsDaysUptoSaid : Prop := leapsDaysUptoRow.holds Try.pinned (OpenSpec.upto leapsDaysSpec)

/-- 'epactlaw12.LeapsSums', WHERE WHAT IT READS IS OF BULK AT MOST 1048576: true; the input reads as it did. -/
def leapsSumsUptoRow : OpenClaim := { program := "ytdbhgeihphjgeaa", sum := "34f395f0f1e04d2ede00d228a1727ff3a4b3bc5054c10845e0f7cf25084783ed", func := "epact/epactlaw12.LeapsSums", spec := "leapsSums", inPlace := ["sync/atomic.LoadUint32", "(*internal/sync.Mutex).Lock", "internal/race.Disable", "sync/atomic.CompareAndSwapInt32", "internal/race.Enable", "internal/race.Acquire", "(*internal/sync.Mutex).lockSlow", "internal/sync.runtime_canSpin", "internal/sync.runtime_doSpin", "internal/sync.throw", "internal/sync.runtime_nanotime", "internal/sync.runtime_SemacquireMutex", "sync/atomic.AddInt32", "(*internal/sync.Mutex).Unlock", "internal/race.ReleaseMerge", "(*internal/sync.Mutex).unlockSlow", "internal/sync.fatal", "internal/sync.runtime_Semrelease", "sync/atomic.StoreUint32", "sync/atomic.AddInt64", "sync/atomic.LoadInt64"], unfollowed := true, recurses := true, apart := false, narrowed := true }
def LeapsSumsUptoSaid : Prop := leapsSumsUptoRow.holds Try.pinned (OpenSpec.upto leapsSumsSpec)

/-- 'epactlaw12.LeapsNews', WHERE WHAT IT READS IS OF BULK AT MOST 1048576: true; the input reads as it did. -/
def leapsNewsUptoRow : OpenClaim := { program := "ytdbhgeihphjgeaa", sum := "34f395f0f1e04d2ede00d228a1727ff3a4b3bc5054c10845e0f7cf25084783ed", func := "epact/epactlaw12.LeapsNews", spec := "leapsNews", inPlace := ["sync/atomic.AddInt64", "sync/atomic.LoadUint32", "(*internal/sync.Mutex).Lock", "internal/race.Disable", "sync/atomic.CompareAndSwapInt32", "internal/race.Enable", "internal/race.Acquire", "(*internal/sync.Mutex).lockSlow", "internal/sync.runtime_canSpin", "internal/sync.runtime_doSpin", "internal/sync.throw", "internal/sync.runtime_nanotime", "internal/sync.runtime_SemacquireMutex", "sync/atomic.AddInt32", "(*internal/sync.Mutex).Unlock", "internal/race.ReleaseMerge", "(*internal/sync.Mutex).unlockSlow", "internal/sync.fatal", "internal/sync.runtime_Semrelease", "sync/atomic.StoreUint32", "sync/atomic.LoadInt64"], unfollowed := true, recurses := true, apart := false, narrowed := true }
def LeapsNewsUptoSaid : Prop := leapsNewsUptoRow.holds Try.pinned (OpenSpec.upto leapsNewsSpec)

/-- 'epactlaw12.LeapsOwn', WHERE WHAT IT READS IS OF BULK AT MOST 1048576: true; the input reads as it did. -/
def leapsOwnUptoRow : OpenClaim := { program := "ytdbhgeihphjgeaa", sum := "34f395f0f1e04d2ede00d228a1727ff3a4b3bc5054c10845e0f7cf25084783ed", func := "epact/epactlaw12.LeapsOwn", spec := "leapsOwn", inPlace := ["sync/atomic.AddInt64", "sync/atomic.LoadUint32", "(*internal/sync.Mutex).Lock", "internal/race.Disable", "sync/atomic.CompareAndSwapInt32", "internal/race.Enable", "internal/race.Acquire", "(*internal/sync.Mutex).lockSlow", "internal/sync.runtime_canSpin", "internal/sync.runtime_doSpin", "internal/sync.throw", "internal/sync.runtime_nanotime", "internal/sync.runtime_SemacquireMutex", "sync/atomic.AddInt32", "(*internal/sync.Mutex).Unlock", "internal/race.ReleaseMerge", "(*internal/sync.Mutex).unlockSlow", "internal/sync.fatal", "internal/sync.runtime_Semrelease", "sync/atomic.StoreUint32", "sync/atomic.LoadInt64"], unfollowed := true, recurses := true, apart := false, narrowed := true }
def LeapsOwnUptoSaid : Prop := leapsOwnUptoRow.holds Try.pinned (OpenSpec.upto leapsOwnSpec)

/-- 'epactlaw12.LeapsAt', WHERE WHAT IT READS IS OF BULK AT MOST 1048576: true; the input reads as it did. -/
def leapsAtUptoRow : OpenClaim := { program := "ytdbhgeihphjgeaa", sum := "34f395f0f1e04d2ede00d228a1727ff3a4b3bc5054c10845e0f7cf25084783ed", func := "epact/epactlaw12.LeapsAt", spec := "leapsAt", inPlace := ["sync/atomic.AddInt64", "sync/atomic.LoadUint32", "(*internal/sync.Mutex).Lock", "internal/race.Disable", "sync/atomic.CompareAndSwapInt32", "internal/race.Enable", "internal/race.Acquire", "(*internal/sync.Mutex).lockSlow", "internal/sync.runtime_canSpin", "internal/sync.runtime_doSpin", "internal/sync.throw", "internal/sync.runtime_nanotime", "internal/sync.runtime_SemacquireMutex", "sync/atomic.AddInt32", "(*internal/sync.Mutex).Unlock", "internal/race.ReleaseMerge", "(*internal/sync.Mutex).unlockSlow", "internal/sync.fatal", "internal/sync.runtime_Semrelease", "sync/atomic.StoreUint32", "sync/atomic.LoadInt64"], unfollowed := true, recurses := true, apart := false, narrowed := true }
def LeapsAtUptoSaid : Prop := leapsAtUptoRow.holds Try.pinned (OpenSpec.upto leapsAtSpec)

/-- 'epactlaw12.LeapsAsked', WHERE WHAT IT READS IS OF BULK AT MOST 1048576: true; the input reads as it did. -/
def leapsAskedUptoRow : OpenClaim := { program := "ytdbhgeihphjgeaa", sum := "34f395f0f1e04d2ede00d228a1727ff3a4b3bc5054c10845e0f7cf25084783ed", func := "epact/epactlaw12.LeapsAsked", spec := "leapsAsked", inPlace := ["sync/atomic.AddInt64", "sync/atomic.LoadUint32", "(*internal/sync.Mutex).Lock", "internal/race.Disable", "sync/atomic.CompareAndSwapInt32", "internal/race.Enable", "internal/race.Acquire", "(*internal/sync.Mutex).lockSlow", "internal/sync.runtime_canSpin", "internal/sync.runtime_doSpin", "internal/sync.throw", "internal/sync.runtime_nanotime", "internal/sync.runtime_SemacquireMutex", "sync/atomic.AddInt32", "(*internal/sync.Mutex).Unlock", "internal/race.ReleaseMerge", "(*internal/sync.Mutex).unlockSlow", "internal/sync.fatal", "internal/sync.runtime_Semrelease", "sync/atomic.StoreUint32", "sync/atomic.LoadInt64"], unfollowed := true, recurses := true, apart := false, narrowed := true }
def LeapsAskedUptoSaid : Prop := leapsAskedUptoRow.holds Try.pinned (OpenSpec.upto leapsAskedSpec)

/-- 'epactlaw12.LeapsNone', WHERE WHAT IT READS IS OF BULK AT MOST 1048576: true; the input reads as it did. -/
def leapsNoneUptoRow : OpenClaim := { program := "ytdbhgeihphjgeaa", sum := "34f395f0f1e04d2ede00d228a1727ff3a4b3bc5054c10845e0f7cf25084783ed", func := "epact/epactlaw12.LeapsNone", spec := "leapsNone", inPlace := ["sync/atomic.AddInt64", "sync/atomic.LoadUint32", "(*internal/sync.Mutex).Lock", "internal/race.Disable", "sync/atomic.CompareAndSwapInt32", "internal/race.Enable", "internal/race.Acquire", "(*internal/sync.Mutex).lockSlow", "internal/sync.runtime_canSpin", "internal/sync.runtime_doSpin", "internal/sync.throw", "internal/sync.runtime_nanotime", "internal/sync.runtime_SemacquireMutex", "sync/atomic.AddInt32", "(*internal/sync.Mutex).Unlock", "internal/race.ReleaseMerge", "(*internal/sync.Mutex).unlockSlow", "internal/sync.fatal", "internal/sync.runtime_Semrelease", "sync/atomic.StoreUint32", "sync/atomic.LoadInt64"], unfollowed := true, recurses := true, apart := false, narrowed := true }
def LeapsNoneUptoSaid : Prop := leapsNoneUptoRow.holds Try.pinned (OpenSpec.upto leapsNoneSpec)

/-- 'epactlaw14.RubberSegments', WHERE WHAT IT READS IS OF BULK AT MOST 1048576: true; the input reads as it did. -/
def rubberSegmentsUptoRow : OpenClaim := { program := "ytdbhgeihphjgeaa", sum := "34f395f0f1e04d2ede00d228a1727ff3a4b3bc5054c10845e0f7cf25084783ed", func := "epact/epactlaw14.RubberSegments", spec := "rubberSegments", inPlace := ["math/bits.Sub64", "math/bits.Add64"], unfollowed := true, recurses := true, named := ["math/bits.divideError", "math/bits.overflowError"], apart := false, narrowed := true }
def RubberSegmentsUptoSaid : Prop := rubberSegmentsUptoRow.holds Try.pinned (OpenSpec.upto rubberSegmentsSpec)

/-- 'epactlaw14.RubberNews', WHERE WHAT IT READS IS OF BULK AT MOST 1048576: true; the input reads as it did. -/
def rubberNewsUptoRow : OpenClaim := { program := "ytdbhgeihphjgeaa", sum := "34f395f0f1e04d2ede00d228a1727ff3a4b3bc5054c10845e0f7cf25084783ed", func := "epact/epactlaw14.RubberNews", spec := "rubberNews", inPlace := ["math/bits.Sub64", "math/bits.Add64"], unfollowed := true, recurses := true, named := ["math/bits.divideError", "math/bits.overflowError"], apart := false, narrowed := true }
def RubberNewsUptoSaid : Prop := rubberNewsUptoRow.holds Try.pinned (OpenSpec.upto rubberNewsSpec)

/-- 'epactlaw14.RubberTais', WHERE WHAT IT READS IS OF BULK AT MOST 1048576: true; the input reads as it did. -/
def rubberTaisUptoRow : OpenClaim := { program := "ytdbhgeihphjgeaa", sum := "34f395f0f1e04d2ede00d228a1727ff3a4b3bc5054c10845e0f7cf25084783ed", func := "epact/epactlaw14.RubberTais", spec := "rubberTais", inPlace := ["math/bits.Sub64", "math/bits.Add64"], unfollowed := true, recurses := true, named := ["math/bits.divideError", "math/bits.overflowError"], apart := false, narrowed := true }
def RubberTaisUptoSaid : Prop := rubberTaisUptoRow.holds Try.pinned (OpenSpec.upto rubberTaisSpec)

/-- 'epactlaw14.RubberLabels', WHERE WHAT IT READS IS OF BULK AT MOST 1048576: true; the input reads as it did. -/
def rubberLabelsUptoRow : OpenClaim := { program := "ytdbhgeihphjgeaa", sum := "34f395f0f1e04d2ede00d228a1727ff3a4b3bc5054c10845e0f7cf25084783ed", func := "epact/epactlaw14.RubberLabels", spec := "rubberLabels", inPlace := ["math/bits.Sub64", "math/bits.Add64"], unfollowed := true, recurses := true, named := ["math/bits.divideError", "math/bits.overflowError"], apart := false, narrowed := true }
def RubberLabelsUptoSaid : Prop := rubberLabelsUptoRow.holds Try.pinned (OpenSpec.upto rubberLabelsSpec)

/-- 'epactlaw14.RubberBack', WHERE WHAT IT READS IS OF BULK AT MOST 1048576: true; the input reads as it did. -/
def rubberBackUptoRow : OpenClaim := { program := "ytdbhgeihphjgeaa", sum := "34f395f0f1e04d2ede00d228a1727ff3a4b3bc5054c10845e0f7cf25084783ed", func := "epact/epactlaw14.RubberBack", spec := "rubberBack", inPlace := ["math/bits.Sub64", "math/bits.Add64"], unfollowed := true, recurses := true, named := ["math/bits.divideError", "math/bits.overflowError"], apart := false, narrowed := true }
def RubberBackUptoSaid : Prop := rubberBackUptoRow.holds Try.pinned (OpenSpec.upto rubberBackSpec)

/-- 'epactlaw14.RubberRises', WHERE WHAT IT READS IS OF BULK AT MOST 1048576: true; the input reads as it did. -/
def rubberRisesUptoRow : OpenClaim := { program := "ytdbhgeihphjgeaa", sum := "34f395f0f1e04d2ede00d228a1727ff3a4b3bc5054c10845e0f7cf25084783ed", func := "epact/epactlaw14.RubberRises", spec := "rubberRises", inPlace := ["math/bits.Sub64", "math/bits.Add64"], unfollowed := true, recurses := true, named := ["math/bits.divideError", "math/bits.overflowError"], apart := false, narrowed := true }
def RubberRisesUptoSaid : Prop := rubberRisesUptoRow.holds Try.pinned (OpenSpec.upto rubberRisesSpec)

/-- 'epactlaw14.RubberNone', WHERE WHAT IT READS IS OF BULK AT MOST 1048576: true; the input reads as it did. -/
def rubberNoneUptoRow : OpenClaim := { program := "ytdbhgeihphjgeaa", sum := "34f395f0f1e04d2ede00d228a1727ff3a4b3bc5054c10845e0f7cf25084783ed", func := "epact/epactlaw14.RubberNone", spec := "rubberNone", inPlace := ["math/bits.Sub64", "math/bits.Add64"], unfollowed := true, recurses := true, named := ["math/bits.divideError", "math/bits.overflowError"], apart := false, narrowed := true }
def RubberNoneUptoSaid : Prop := rubberNoneUptoRow.holds Try.pinned (OpenSpec.upto rubberNoneSpec)

/-- 'epactlaw13.UtcBack', WHERE WHAT IT READS IS OF BULK AT MOST 1048576: true; the input reads as it did. -/
def utcBackUptoRow : OpenClaim := { program := "ytdbhgeihphjgeaa", sum := "34f395f0f1e04d2ede00d228a1727ff3a4b3bc5054c10845e0f7cf25084783ed", func := "epact/epactlaw13.UtcBack", spec := "utcBack", inPlace := ["sync/atomic.AddInt64", "sync/atomic.LoadUint32", "(*internal/sync.Mutex).Lock", "internal/race.Disable", "sync/atomic.CompareAndSwapInt32", "internal/race.Enable", "internal/race.Acquire", "(*internal/sync.Mutex).lockSlow", "internal/sync.runtime_canSpin", "internal/sync.runtime_doSpin", "internal/sync.throw", "internal/sync.runtime_nanotime", "internal/sync.runtime_SemacquireMutex", "sync/atomic.AddInt32", "(*internal/sync.Mutex).Unlock", "internal/race.ReleaseMerge", "(*internal/sync.Mutex).unlockSlow", "internal/sync.fatal", "internal/sync.runtime_Semrelease", "sync/atomic.StoreUint32", "math/bits.Sub64", "math/bits.Add64"], unfollowed := true, recurses := true, named := ["math/bits.divideError", "math/bits.overflowError"], apart := false, narrowed := true }
def UtcBackUptoSaid : Prop := utcBackUptoRow.holds Try.pinned (OpenSpec.upto utcBackSpec)

/-- 'epactlaw13.UtcSeconds', WHERE WHAT IT READS IS OF BULK AT MOST 1048576: true; the input reads as it did. -/
def utcSecondsUptoRow : OpenClaim := { program := "ytdbhgeihphjgeaa", sum := "34f395f0f1e04d2ede00d228a1727ff3a4b3bc5054c10845e0f7cf25084783ed", func := "epact/epactlaw13.UtcSeconds", spec := "utcSeconds", inPlace := ["sync/atomic.AddInt64", "sync/atomic.LoadUint32", "(*internal/sync.Mutex).Lock", "internal/race.Disable", "sync/atomic.CompareAndSwapInt32", "internal/race.Enable", "internal/race.Acquire", "(*internal/sync.Mutex).lockSlow", "internal/sync.runtime_canSpin", "internal/sync.runtime_doSpin", "internal/sync.throw", "internal/sync.runtime_nanotime", "internal/sync.runtime_SemacquireMutex", "sync/atomic.AddInt32", "(*internal/sync.Mutex).Unlock", "internal/race.ReleaseMerge", "(*internal/sync.Mutex).unlockSlow", "internal/sync.fatal", "internal/sync.runtime_Semrelease", "sync/atomic.StoreUint32", "math/bits.Sub64", "math/bits.Add64"], unfollowed := true, recurses := true, named := ["math/bits.divideError", "math/bits.overflowError"], apart := false, narrowed := true }
def UtcSecondsUptoSaid : Prop := utcSecondsUptoRow.holds Try.pinned (OpenSpec.upto utcSecondsSpec)

/-- 'epactlaw13.UtcNone', WHERE WHAT IT READS IS OF BULK AT MOST 1048576: true; the input reads as it did. -/
def utcNoneUptoRow : OpenClaim := { program := "ytdbhgeihphjgeaa", sum := "34f395f0f1e04d2ede00d228a1727ff3a4b3bc5054c10845e0f7cf25084783ed", func := "epact/epactlaw13.UtcNone", spec := "utcNone", inPlace := ["sync/atomic.AddInt64", "sync/atomic.LoadUint32", "(*internal/sync.Mutex).Lock", "internal/race.Disable", "sync/atomic.CompareAndSwapInt32", "internal/race.Enable", "internal/race.Acquire", "(*internal/sync.Mutex).lockSlow", "internal/sync.runtime_canSpin", "internal/sync.runtime_doSpin", "internal/sync.throw", "internal/sync.runtime_nanotime", "internal/sync.runtime_SemacquireMutex", "sync/atomic.AddInt32", "(*internal/sync.Mutex).Unlock", "internal/race.ReleaseMerge", "(*internal/sync.Mutex).unlockSlow", "internal/sync.fatal", "internal/sync.runtime_Semrelease", "sync/atomic.StoreUint32", "math/bits.Sub64", "math/bits.Add64"], unfollowed := true, recurses := true, named := ["math/bits.divideError", "math/bits.overflowError"], apart := false, narrowed := true }
def UtcNoneUptoSaid : Prop := utcNoneUptoRow.holds Try.pinned (OpenSpec.upto utcNoneSpec)

end Rows
end Go.Proofs.Ytdbhgeihphjgeaa

/-
  No cell of these rows narrows 'for every input' (looked for: loops, veiled, ifaces, maps, wideKeys, modest, calm, conditions, laid).
  DERIVED. THE GIVEN ROWS OF THIS SEAT. 14 by the template 'for every input the law returns true; each argument reads behind the call as it read before'; 0 by the template 'total and deterministic' (their statements: YtpdakdcmahlghaaGreatTotals.lean).
  GIVEN WITH THE SEED: the statements are not yours to turn. If you find one false, say at which input.
  Laid BY PROGRAM, IN A SANDBOX (cutbox-rows.mjs): the forced cells as the released guide's own fill.sh prints them over the translation 76a975f229bc535c… (all of the seat's roots in one cut). By AI agents, Wed Nov 11 2026. No macro, syntax, notation, axiom, sorry.
-/
import Derived.Test.YtpdakdcmahlghaaGreatChecked
import GoSem.Claim
import GoSem.ClaimJoined
import GoSem.ClaimMapViews
import Derived.JoinedTies
import Derived.KernelRfl
namespace Go.Proofs.YtpdakdcmahlghaaGreat
/- THE CELL 'sum', in the pinned program and in every row, IS THE sha256 OF THE DUMP (.gsa) THAT YtpdakdcmahlghaaGreatProg.lean LOADS. Nothing in Lean hashes anything: it is a label: what it is worth is what the hold of that sum in a sandbox is worth. -/
noncomputable def Tryz.pinned : Pinned := { name := "ytpdakdcmahlghaagreat", sum := "76a975f229bc535cc07312df16a24f6d0dd3d6dfe9bdc27bee0bb708a1a6751e", checked := Tryz.checked }
namespace Rows
def none {H : Type} : Left H := { results := [], args := [] }

/-- 'gambrellaw11.CodecParity': WHATEVER THE INPUT: true; the input reads as it did. -/
def codecParitySpec : ChangeSpec := { name := "codecParity", fn := fun _ => fun
  | [d1, d2] => { results := [.lit (.bool true)], args := [d1, d2] }
  | _ => none }
def codecParityRow : OpenClaim := { program := "ytpdakdcmahlghaagreat", sum := "76a975f229bc535cc07312df16a24f6d0dd3d6dfe9bdc27bee0bb708a1a6751e", func := "gambrel/gambrellaw11.CodecParity", spec := "codecParity", inPlace := ["sync/atomic.LoadUint32", "(*internal/sync.Mutex).Lock", "internal/race.Disable", "sync/atomic.CompareAndSwapInt32", "internal/race.Enable", "internal/race.Acquire", "(*internal/sync.Mutex).lockSlow", "internal/sync.runtime_canSpin", "internal/sync.runtime_doSpin", "internal/sync.throw", "internal/sync.runtime_nanotime", "internal/sync.runtime_SemacquireMutex", "sync/atomic.AddInt32", "(*internal/sync.Mutex).Unlock", "internal/race.ReleaseMerge", "(*internal/sync.Mutex).unlockSlow", "internal/sync.fatal", "internal/sync.runtime_Semrelease", "sync/atomic.StoreUint32"], unfollowed := true, recurses := true, apart := false }
def CodecParitySaid : Prop := codecParityRow.holds Tryz.pinned (OpenSpec.ofChange codecParitySpec)

/-- ITS FALSE NEIGHBOUR: 'it returns false'. Refute it at one input. -/
def codecParityWrong : ChangeSpec := { name := "codecParity", fn := fun _ => fun
  | [d1, d2] => { results := [.lit (.bool false)], args := [d1, d2] }
  | _ => none }
def CodecParityWrongFalsely : Prop := codecParityRow.holds Tryz.pinned (OpenSpec.ofChange codecParityWrong)

/-- 'gambrellaw11.CodecEncodes': WHATEVER THE INPUT: true; the input reads as it did. -/
def codecEncodesSpec : ChangeSpec := { name := "codecEncodes", fn := fun _ => fun
  | [d1, d2] => { results := [.lit (.bool true)], args := [d1, d2] }
  | _ => none }
def codecEncodesRow : OpenClaim := { program := "ytpdakdcmahlghaagreat", sum := "76a975f229bc535cc07312df16a24f6d0dd3d6dfe9bdc27bee0bb708a1a6751e", func := "gambrel/gambrellaw11.CodecEncodes", spec := "codecEncodes", inPlace := ["sync/atomic.LoadUint32", "(*internal/sync.Mutex).Lock", "internal/race.Disable", "sync/atomic.CompareAndSwapInt32", "internal/race.Enable", "internal/race.Acquire", "(*internal/sync.Mutex).lockSlow", "internal/sync.runtime_canSpin", "internal/sync.runtime_doSpin", "internal/sync.throw", "internal/sync.runtime_nanotime", "internal/sync.runtime_SemacquireMutex", "sync/atomic.AddInt32", "(*internal/sync.Mutex).Unlock", "internal/race.ReleaseMerge", "(*internal/sync.Mutex).unlockSlow", "internal/sync.fatal", "internal/sync.runtime_Semrelease", "sync/atomic.StoreUint32"], unfollowed := true, recurses := true, apart := false }
def CodecEncodesSaid : Prop := codecEncodesRow.holds Tryz.pinned (OpenSpec.ofChange codecEncodesSpec)

/-- ITS FALSE NEIGHBOUR: 'it returns false'. Refute it at one input. -/
def codecEncodesWrong : ChangeSpec := { name := "codecEncodes", fn := fun _ => fun
  | [d1, d2] => { results := [.lit (.bool false)], args := [d1, d2] }
  | _ => none }
def CodecEncodesWrongFalsely : Prop := codecEncodesRow.holds Tryz.pinned (OpenSpec.ofChange codecEncodesWrong)

/-- 'gambrellaw12.ReconTells': WHATEVER THE INPUT: true; the input reads as it did. -/
def reconTellsSpec : ChangeSpec := { name := "reconTells", fn := fun _ => fun
  | [d1, d2, d3] => { results := [.lit (.bool true)], args := [d1, d2, d3] }
  | _ => none }
def reconTellsRow : OpenClaim := { program := "ytpdakdcmahlghaagreat", sum := "76a975f229bc535cc07312df16a24f6d0dd3d6dfe9bdc27bee0bb708a1a6751e", func := "gambrel/gambrellaw12.ReconTells", spec := "reconTells", inPlace := ["sync/atomic.LoadUint32", "(*internal/sync.Mutex).Lock", "internal/race.Disable", "sync/atomic.CompareAndSwapInt32", "internal/race.Enable", "internal/race.Acquire", "(*internal/sync.Mutex).lockSlow", "internal/sync.runtime_canSpin", "internal/sync.runtime_doSpin", "internal/sync.throw", "internal/sync.runtime_nanotime", "internal/sync.runtime_SemacquireMutex", "sync/atomic.AddInt32", "(*internal/sync.Mutex).Unlock", "internal/race.ReleaseMerge", "(*internal/sync.Mutex).unlockSlow", "internal/sync.fatal", "internal/sync.runtime_Semrelease", "sync/atomic.StoreUint32"], unfollowed := true, recurses := true, apart := false }
def ReconTellsSaid : Prop := reconTellsRow.holds Tryz.pinned (OpenSpec.ofChange reconTellsSpec)

/-- ITS FALSE NEIGHBOUR: 'it returns false'. Refute it at one input. -/
def reconTellsWrong : ChangeSpec := { name := "reconTells", fn := fun _ => fun
  | [d1, d2, d3] => { results := [.lit (.bool false)], args := [d1, d2, d3] }
  | _ => none }
def ReconTellsWrongFalsely : Prop := reconTellsRow.holds Tryz.pinned (OpenSpec.ofChange reconTellsWrong)

/-- 'gambrellaw12.ReconWhich': WHATEVER THE INPUT: true; the input reads as it did. -/
def reconWhichSpec : ChangeSpec := { name := "reconWhich", fn := fun _ => fun
  | [d1, d2, d3] => { results := [.lit (.bool true)], args := [d1, d2, d3] }
  | _ => none }
def reconWhichRow : OpenClaim := { program := "ytpdakdcmahlghaagreat", sum := "76a975f229bc535cc07312df16a24f6d0dd3d6dfe9bdc27bee0bb708a1a6751e", func := "gambrel/gambrellaw12.ReconWhich", spec := "reconWhich", inPlace := ["sync/atomic.LoadUint32", "(*internal/sync.Mutex).Lock", "internal/race.Disable", "sync/atomic.CompareAndSwapInt32", "internal/race.Enable", "internal/race.Acquire", "(*internal/sync.Mutex).lockSlow", "internal/sync.runtime_canSpin", "internal/sync.runtime_doSpin", "internal/sync.throw", "internal/sync.runtime_nanotime", "internal/sync.runtime_SemacquireMutex", "sync/atomic.AddInt32", "(*internal/sync.Mutex).Unlock", "internal/race.ReleaseMerge", "(*internal/sync.Mutex).unlockSlow", "internal/sync.fatal", "internal/sync.runtime_Semrelease", "sync/atomic.StoreUint32"], unfollowed := true, recurses := true, apart := false }
def ReconWhichSaid : Prop := reconWhichRow.holds Tryz.pinned (OpenSpec.ofChange reconWhichSpec)

/-- ITS FALSE NEIGHBOUR: 'it returns false'. Refute it at one input. -/
def reconWhichWrong : ChangeSpec := { name := "reconWhich", fn := fun _ => fun
  | [d1, d2, d3] => { results := [.lit (.bool false)], args := [d1, d2, d3] }
  | _ => none }
def ReconWhichWrongFalsely : Prop := reconWhichRow.holds Tryz.pinned (OpenSpec.ofChange reconWhichWrong)

/-- 'gambrellaw12.ReconUpdates': WHATEVER THE INPUT: true; the input reads as it did. -/
def reconUpdatesSpec : ChangeSpec := { name := "reconUpdates", fn := fun _ => fun
  | [d1, d2, d3] => { results := [.lit (.bool true)], args := [d1, d2, d3] }
  | _ => none }
def reconUpdatesRow : OpenClaim := { program := "ytpdakdcmahlghaagreat", sum := "76a975f229bc535cc07312df16a24f6d0dd3d6dfe9bdc27bee0bb708a1a6751e", func := "gambrel/gambrellaw12.ReconUpdates", spec := "reconUpdates", inPlace := ["sync/atomic.LoadUint32", "(*internal/sync.Mutex).Lock", "internal/race.Disable", "sync/atomic.CompareAndSwapInt32", "internal/race.Enable", "internal/race.Acquire", "(*internal/sync.Mutex).lockSlow", "internal/sync.runtime_canSpin", "internal/sync.runtime_doSpin", "internal/sync.throw", "internal/sync.runtime_nanotime", "internal/sync.runtime_SemacquireMutex", "sync/atomic.AddInt32", "(*internal/sync.Mutex).Unlock", "internal/race.ReleaseMerge", "(*internal/sync.Mutex).unlockSlow", "internal/sync.fatal", "internal/sync.runtime_Semrelease", "sync/atomic.StoreUint32"], unfollowed := true, recurses := true, apart := false }
def ReconUpdatesSaid : Prop := reconUpdatesRow.holds Tryz.pinned (OpenSpec.ofChange reconUpdatesSpec)

/-- ITS FALSE NEIGHBOUR: 'it returns false'. Refute it at one input. -/
def reconUpdatesWrong : ChangeSpec := { name := "reconUpdates", fn := fun _ => fun
  | [d1, d2, d3] => { results := [.lit (.bool false)], args := [d1, d2, d3] }
  | _ => none }
def ReconUpdatesWrongFalsely : Prop := reconUpdatesRow.holds Tryz.pinned (OpenSpec.ofChange reconUpdatesWrong)

/-- 'gambrellaw16.TrialTells': WHATEVER THE INPUT: true; the input reads as it did. -/
def trialTellsSpec : ChangeSpec := { name := "trialTells", fn := fun _ => fun
  | [d1, d2] => { results := [.lit (.bool true)], args := [d1, d2] }
  | _ => none }
def trialTellsRow : OpenClaim := { program := "ytpdakdcmahlghaagreat", sum := "76a975f229bc535cc07312df16a24f6d0dd3d6dfe9bdc27bee0bb708a1a6751e", func := "gambrel/gambrellaw16.TrialTells", spec := "trialTells", inPlace := ["sync/atomic.LoadUint32", "(*internal/sync.Mutex).Lock", "internal/race.Disable", "sync/atomic.CompareAndSwapInt32", "internal/race.Enable", "internal/race.Acquire", "(*internal/sync.Mutex).lockSlow", "internal/sync.runtime_canSpin", "internal/sync.runtime_doSpin", "internal/sync.throw", "internal/sync.runtime_nanotime", "internal/sync.runtime_SemacquireMutex", "sync/atomic.AddInt32", "(*internal/sync.Mutex).Unlock", "internal/race.ReleaseMerge", "(*internal/sync.Mutex).unlockSlow", "internal/sync.fatal", "internal/sync.runtime_Semrelease", "sync/atomic.StoreUint32"], unfollowed := true, recurses := true, apart := false }
def TrialTellsSaid : Prop := trialTellsRow.holds Tryz.pinned (OpenSpec.ofChange trialTellsSpec)

/-- ITS FALSE NEIGHBOUR: 'it returns false'. Refute it at one input. -/
def trialTellsWrong : ChangeSpec := { name := "trialTells", fn := fun _ => fun
  | [d1, d2] => { results := [.lit (.bool false)], args := [d1, d2] }
  | _ => none }
def TrialTellsWrongFalsely : Prop := trialTellsRow.holds Tryz.pinned (OpenSpec.ofChange trialTellsWrong)

/-- 'gambrellaw16.TrialHas': WHATEVER THE INPUT: true; the input reads as it did. -/
def trialHasSpec : ChangeSpec := { name := "trialHas", fn := fun _ => fun
  | [d1, d2] => { results := [.lit (.bool true)], args := [d1, d2] }
  | _ => none }
def trialHasRow : OpenClaim := { program := "ytpdakdcmahlghaagreat", sum := "76a975f229bc535cc07312df16a24f6d0dd3d6dfe9bdc27bee0bb708a1a6751e", func := "gambrel/gambrellaw16.TrialHas", spec := "trialHas", inPlace := ["sync/atomic.LoadUint32", "(*internal/sync.Mutex).Lock", "internal/race.Disable", "sync/atomic.CompareAndSwapInt32", "internal/race.Enable", "internal/race.Acquire", "(*internal/sync.Mutex).lockSlow", "internal/sync.runtime_canSpin", "internal/sync.runtime_doSpin", "internal/sync.throw", "internal/sync.runtime_nanotime", "internal/sync.runtime_SemacquireMutex", "sync/atomic.AddInt32", "(*internal/sync.Mutex).Unlock", "internal/race.ReleaseMerge", "(*internal/sync.Mutex).unlockSlow", "internal/sync.fatal", "internal/sync.runtime_Semrelease", "sync/atomic.StoreUint32"], unfollowed := true, recurses := true, apart := false }
def TrialHasSaid : Prop := trialHasRow.holds Tryz.pinned (OpenSpec.ofChange trialHasSpec)

/-- ITS FALSE NEIGHBOUR: 'it returns false'. Refute it at one input. -/
def trialHasWrong : ChangeSpec := { name := "trialHas", fn := fun _ => fun
  | [d1, d2] => { results := [.lit (.bool false)], args := [d1, d2] }
  | _ => none }
def TrialHasWrongFalsely : Prop := trialHasRow.holds Tryz.pinned (OpenSpec.ofChange trialHasWrong)

/-- 'gambrellaw16.TrialOdd': WHATEVER THE INPUT: true; the input reads as it did. -/
def trialOddSpec : ChangeSpec := { name := "trialOdd", fn := fun _ => fun
  | [d1, d2, d3] => { results := [.lit (.bool true)], args := [d1, d2, d3] }
  | _ => none }
def trialOddRow : OpenClaim := { program := "ytpdakdcmahlghaagreat", sum := "76a975f229bc535cc07312df16a24f6d0dd3d6dfe9bdc27bee0bb708a1a6751e", func := "gambrel/gambrellaw16.TrialOdd", spec := "trialOdd", inPlace := ["sync/atomic.LoadUint32", "(*internal/sync.Mutex).Lock", "internal/race.Disable", "sync/atomic.CompareAndSwapInt32", "internal/race.Enable", "internal/race.Acquire", "(*internal/sync.Mutex).lockSlow", "internal/sync.runtime_canSpin", "internal/sync.runtime_doSpin", "internal/sync.throw", "internal/sync.runtime_nanotime", "internal/sync.runtime_SemacquireMutex", "sync/atomic.AddInt32", "(*internal/sync.Mutex).Unlock", "internal/race.ReleaseMerge", "(*internal/sync.Mutex).unlockSlow", "internal/sync.fatal", "internal/sync.runtime_Semrelease", "sync/atomic.StoreUint32"], unfollowed := true, recurses := true, apart := false }
def TrialOddSaid : Prop := trialOddRow.holds Tryz.pinned (OpenSpec.ofChange trialOddSpec)

/-- ITS FALSE NEIGHBOUR: 'it returns false'. Refute it at one input. -/
def trialOddWrong : ChangeSpec := { name := "trialOdd", fn := fun _ => fun
  | [d1, d2, d3] => { results := [.lit (.bool false)], args := [d1, d2, d3] }
  | _ => none }
def TrialOddWrongFalsely : Prop := trialOddRow.holds Tryz.pinned (OpenSpec.ofChange trialOddWrong)

/-- 'gambrellaw16.TrialTwins': WHATEVER THE INPUT: true; the input reads as it did. -/
def trialTwinsSpec : ChangeSpec := { name := "trialTwins", fn := fun _ => fun
  | [d1, d2, d3] => { results := [.lit (.bool true)], args := [d1, d2, d3] }
  | _ => none }
def trialTwinsRow : OpenClaim := { program := "ytpdakdcmahlghaagreat", sum := "76a975f229bc535cc07312df16a24f6d0dd3d6dfe9bdc27bee0bb708a1a6751e", func := "gambrel/gambrellaw16.TrialTwins", spec := "trialTwins", inPlace := ["sync/atomic.LoadUint32", "(*internal/sync.Mutex).Lock", "internal/race.Disable", "sync/atomic.CompareAndSwapInt32", "internal/race.Enable", "internal/race.Acquire", "(*internal/sync.Mutex).lockSlow", "internal/sync.runtime_canSpin", "internal/sync.runtime_doSpin", "internal/sync.throw", "internal/sync.runtime_nanotime", "internal/sync.runtime_SemacquireMutex", "sync/atomic.AddInt32", "(*internal/sync.Mutex).Unlock", "internal/race.ReleaseMerge", "(*internal/sync.Mutex).unlockSlow", "internal/sync.fatal", "internal/sync.runtime_Semrelease", "sync/atomic.StoreUint32"], unfollowed := true, recurses := true, apart := false }
def TrialTwinsSaid : Prop := trialTwinsRow.holds Tryz.pinned (OpenSpec.ofChange trialTwinsSpec)

/-- ITS FALSE NEIGHBOUR: 'it returns false'. Refute it at one input. -/
def trialTwinsWrong : ChangeSpec := { name := "trialTwins", fn := fun _ => fun
  | [d1, d2, d3] => { results := [.lit (.bool false)], args := [d1, d2, d3] }
  | _ => none }
def TrialTwinsWrongFalsely : Prop := trialTwinsRow.holds Tryz.pinned (OpenSpec.ofChange trialTwinsWrong)

/-- 'gambrellaw16.TrialNone': WHATEVER THE INPUT: true; the input reads as it did. -/
def trialNoneSpec : ChangeSpec := { name := "trialNone", fn := fun _ => fun
  | [d1, d2] => { results := [.lit (.bool true)], args := [d1, d2] }
  | _ => none }
def trialNoneRow : OpenClaim := { program := "ytpdakdcmahlghaagreat", sum := "76a975f229bc535cc07312df16a24f6d0dd3d6dfe9bdc27bee0bb708a1a6751e", func := "gambrel/gambrellaw16.TrialNone", spec := "trialNone", inPlace := ["sync/atomic.LoadUint32", "(*internal/sync.Mutex).Lock", "internal/race.Disable", "sync/atomic.CompareAndSwapInt32", "internal/race.Enable", "internal/race.Acquire", "(*internal/sync.Mutex).lockSlow", "internal/sync.runtime_canSpin", "internal/sync.runtime_doSpin", "internal/sync.throw", "internal/sync.runtime_nanotime", "internal/sync.runtime_SemacquireMutex", "sync/atomic.AddInt32", "(*internal/sync.Mutex).Unlock", "internal/race.ReleaseMerge", "(*internal/sync.Mutex).unlockSlow", "internal/sync.fatal", "internal/sync.runtime_Semrelease", "sync/atomic.StoreUint32"], unfollowed := true, recurses := true, apart := false }
def TrialNoneSaid : Prop := trialNoneRow.holds Tryz.pinned (OpenSpec.ofChange trialNoneSpec)

/-- ITS FALSE NEIGHBOUR: 'it returns false'. Refute it at one input. -/
def trialNoneWrong : ChangeSpec := { name := "trialNone", fn := fun _ => fun
  | [d1, d2] => { results := [.lit (.bool false)], args := [d1, d2] }
  | _ => none }
def TrialNoneWrongFalsely : Prop := trialNoneRow.holds Tryz.pinned (OpenSpec.ofChange trialNoneWrong)

/-- 'gambrellaw16.TrialZeros': WHATEVER THE INPUT: true; the input reads as it did. -/
def trialZerosSpec : ChangeSpec := { name := "trialZeros", fn := fun _ => fun
  | [d1, d2, d3] => { results := [.lit (.bool true)], args := [d1, d2, d3] }
  | _ => none }
def trialZerosRow : OpenClaim := { program := "ytpdakdcmahlghaagreat", sum := "76a975f229bc535cc07312df16a24f6d0dd3d6dfe9bdc27bee0bb708a1a6751e", func := "gambrel/gambrellaw16.TrialZeros", spec := "trialZeros", inPlace := ["sync/atomic.LoadUint32", "(*internal/sync.Mutex).Lock", "internal/race.Disable", "sync/atomic.CompareAndSwapInt32", "internal/race.Enable", "internal/race.Acquire", "(*internal/sync.Mutex).lockSlow", "internal/sync.runtime_canSpin", "internal/sync.runtime_doSpin", "internal/sync.throw", "internal/sync.runtime_nanotime", "internal/sync.runtime_SemacquireMutex", "sync/atomic.AddInt32", "(*internal/sync.Mutex).Unlock", "internal/race.ReleaseMerge", "(*internal/sync.Mutex).unlockSlow", "internal/sync.fatal", "internal/sync.runtime_Semrelease", "sync/atomic.StoreUint32"], unfollowed := true, recurses := true, apart := false }
def TrialZerosSaid : Prop := trialZerosRow.holds Tryz.pinned (OpenSpec.ofChange trialZerosSpec)

/-- ITS FALSE NEIGHBOUR: 'it returns false'. Refute it at one input. -/
def trialZerosWrong : ChangeSpec := { name := "trialZeros", fn := fun _ => fun
  | [d1, d2, d3] => { results := [.lit (.bool false)], args := [d1, d2, d3] }
  | _ => none }
def TrialZerosWrongFalsely : Prop := trialZerosRow.holds Tryz.pinned (OpenSpec.ofChange trialZerosWrong)

/-- 'gambrellaw12.ReconAny': WHATEVER THE INPUT: true; the input reads as it did. -/
def reconAnySpec : ChangeSpec := { name := "reconAny", fn := fun _ => fun
  | [d1, d2, d3] => { results := [.lit (.bool true)], args := [d1, d2, d3] }
  | _ => none }
def reconAnyRow : OpenClaim := { program := "ytpdakdcmahlghaagreat", sum := "76a975f229bc535cc07312df16a24f6d0dd3d6dfe9bdc27bee0bb708a1a6751e", func := "gambrel/gambrellaw12.ReconAny", spec := "reconAny", inPlace := ["sync/atomic.LoadUint32", "(*internal/sync.Mutex).Lock", "internal/race.Disable", "sync/atomic.CompareAndSwapInt32", "internal/race.Enable", "internal/race.Acquire", "(*internal/sync.Mutex).lockSlow", "internal/sync.runtime_canSpin", "internal/sync.runtime_doSpin", "internal/sync.throw", "internal/sync.runtime_nanotime", "internal/sync.runtime_SemacquireMutex", "sync/atomic.AddInt32", "(*internal/sync.Mutex).Unlock", "internal/race.ReleaseMerge", "(*internal/sync.Mutex).unlockSlow", "internal/sync.fatal", "internal/sync.runtime_Semrelease", "sync/atomic.StoreUint32"], unfollowed := true, recurses := true, apart := false }
def ReconAnySaid : Prop := reconAnyRow.holds Tryz.pinned (OpenSpec.ofChange reconAnySpec)

/-- ITS FALSE NEIGHBOUR: 'it returns false'. Refute it at one input. -/
def reconAnyWrong : ChangeSpec := { name := "reconAny", fn := fun _ => fun
  | [d1, d2, d3] => { results := [.lit (.bool false)], args := [d1, d2, d3] }
  | _ => none }
def ReconAnyWrongFalsely : Prop := reconAnyRow.holds Tryz.pinned (OpenSpec.ofChange reconAnyWrong)

/-- 'gambrellaw12.ReconFew': WHATEVER THE INPUT: true; the input reads as it did. -/
def reconFewSpec : ChangeSpec := { name := "reconFew", fn := fun _ => fun
  | [d1, d2, d3] => { results := [.lit (.bool true)], args := [d1, d2, d3] }
  | _ => none }
def reconFewRow : OpenClaim := { program := "ytpdakdcmahlghaagreat", sum := "76a975f229bc535cc07312df16a24f6d0dd3d6dfe9bdc27bee0bb708a1a6751e", func := "gambrel/gambrellaw12.ReconFew", spec := "reconFew", inPlace := ["sync/atomic.LoadUint32", "(*internal/sync.Mutex).Lock", "internal/race.Disable", "sync/atomic.CompareAndSwapInt32", "internal/race.Enable", "internal/race.Acquire", "(*internal/sync.Mutex).lockSlow", "internal/sync.runtime_canSpin", "internal/sync.runtime_doSpin", "internal/sync.throw", "internal/sync.runtime_nanotime", "internal/sync.runtime_SemacquireMutex", "sync/atomic.AddInt32", "(*internal/sync.Mutex).Unlock", "internal/race.ReleaseMerge", "(*internal/sync.Mutex).unlockSlow", "internal/sync.fatal", "internal/sync.runtime_Semrelease", "sync/atomic.StoreUint32"], unfollowed := true, recurses := true, apart := false }
def ReconFewSaid : Prop := reconFewRow.holds Tryz.pinned (OpenSpec.ofChange reconFewSpec)

/-- ITS FALSE NEIGHBOUR: 'it returns false'. Refute it at one input. -/
def reconFewWrong : ChangeSpec := { name := "reconFew", fn := fun _ => fun
  | [d1, d2, d3] => { results := [.lit (.bool false)], args := [d1, d2, d3] }
  | _ => none }
def ReconFewWrongFalsely : Prop := reconFewRow.holds Tryz.pinned (OpenSpec.ofChange reconFewWrong)

/-- 'gambrellaw12.ReconChanges': WHATEVER THE INPUT: true; the input reads as it did. -/
def reconChangesSpec : ChangeSpec := { name := "reconChanges", fn := fun _ => fun
  | [d1, d2, d3] => { results := [.lit (.bool true)], args := [d1, d2, d3] }
  | _ => none }
def reconChangesRow : OpenClaim := { program := "ytpdakdcmahlghaagreat", sum := "76a975f229bc535cc07312df16a24f6d0dd3d6dfe9bdc27bee0bb708a1a6751e", func := "gambrel/gambrellaw12.ReconChanges", spec := "reconChanges", inPlace := ["sync/atomic.LoadUint32", "(*internal/sync.Mutex).Lock", "internal/race.Disable", "sync/atomic.CompareAndSwapInt32", "internal/race.Enable", "internal/race.Acquire", "(*internal/sync.Mutex).lockSlow", "internal/sync.runtime_canSpin", "internal/sync.runtime_doSpin", "internal/sync.throw", "internal/sync.runtime_nanotime", "internal/sync.runtime_SemacquireMutex", "sync/atomic.AddInt32", "(*internal/sync.Mutex).Unlock", "internal/race.ReleaseMerge", "(*internal/sync.Mutex).unlockSlow", "internal/sync.fatal", "internal/sync.runtime_Semrelease", "sync/atomic.StoreUint32"], unfollowed := true, recurses := true, apart := false }
def ReconChangesSaid : Prop := reconChangesRow.holds Tryz.pinned (OpenSpec.ofChange reconChangesSpec)

/-- ITS FALSE NEIGHBOUR: 'it returns false'. Refute it at one input. -/
def reconChangesWrong : ChangeSpec := { name := "reconChanges", fn := fun _ => fun
  | [d1, d2, d3] => { results := [.lit (.bool false)], args := [d1, d2, d3] }
  | _ => none }
def ReconChangesWrongFalsely : Prop := reconChangesRow.holds Tryz.pinned (OpenSpec.ofChange reconChangesWrong)

/- THE SECOND FORM. 'bulk': how many values and letters a reading holds, each counted each time it is reached (what is shared counts as often as it is met; a slice's spare places count too). A statement '..UptoSaid' is the law's where the arguments, and the package variables that the reading takes, are together of bulk at most 1048576: NARROWER than '..Said'. Prove '..Said' where nothing that the law and all that it calls make is longer than what came in: it says more and counts as full. Else prove '..UptoSaid'. A law counts once. -/
mutual
def uptoBulk {H : Type} : DataW H → Nat
  | .lit (.string bytes) => bytes.length + 1
  | .lit _ => 1
  | .nil => 1
  | .ptr d => uptoBulk d + 1
  | .slice elems spare => uptoBulkAll elems + uptoBulkAll spare + 1
  | .agg parts => uptoBulkAll parts + 1
  | .iface _ d => uptoBulk d + 1
  | .map entries => uptoBulkEntries entries + 1
  | .held _ => 1
def uptoBulkAll {H : Type} : List (DataW H) → Nat
  | [] => 0
  | d :: r => uptoBulk d + uptoBulkAll r
def uptoBulkEntries {H : Type} : List (Lit × DataW H) → Nat
  | [] => 0
  | x :: r => uptoBulkEntry x + uptoBulkEntries r
def uptoBulkEntry {H : Type} : Lit × DataW H → Nat
  | (.string bytes, d) => bytes.length + uptoBulk d + 1
  | (_, d) => uptoBulk d + 1
 end
def uptoSmall : (H : Type) → List (DataW H) → Bool := fun _ ds => decide (uptoBulkAll ds ≤ 1048576)
def OpenSpec.upto (s : _root_.Go.ChangeSpec) : _root_.Go.OpenSpec := { _root_.Go.OpenSpec.ofChange s with cond := some uptoSmall }

/-- 'gambrellaw11.CodecParity', WHERE WHAT IT READS IS OF BULK AT MOST 1048576: true; the input reads as it did. -/
def codecParityUptoRow : OpenClaim := { program := "ytpdakdcmahlghaagreat", sum := "76a975f229bc535cc07312df16a24f6d0dd3d6dfe9bdc27bee0bb708a1a6751e", func := "gambrel/gambrellaw11.CodecParity", spec := "codecParity", inPlace := ["sync/atomic.LoadUint32", "(*internal/sync.Mutex).Lock", "internal/race.Disable", "sync/atomic.CompareAndSwapInt32", "internal/race.Enable", "internal/race.Acquire", "(*internal/sync.Mutex).lockSlow", "internal/sync.runtime_canSpin", "internal/sync.runtime_doSpin", "internal/sync.throw", "internal/sync.runtime_nanotime", "internal/sync.runtime_SemacquireMutex", "sync/atomic.AddInt32", "(*internal/sync.Mutex).Unlock", "internal/race.ReleaseMerge", "(*internal/sync.Mutex).unlockSlow", "internal/sync.fatal", "internal/sync.runtime_Semrelease", "sync/atomic.StoreUint32"], unfollowed := true, recurses := true, apart := false, narrowed := true }
def CodecParityUptoSaid : Prop := codecParityUptoRow.holds Tryz.pinned (OpenSpec.upto codecParitySpec)

/-- 'gambrellaw11.CodecEncodes', WHERE WHAT IT READS IS OF BULK AT MOST 1048576: true; the input reads as it did. -/
def codecEncodesUptoRow : OpenClaim := { program := "ytpdakdcmahlghaagreat", sum := "76a975f229bc535cc07312df16a24f6d0dd3d6dfe9bdc27bee0bb708a1a6751e", func := "gambrel/gambrellaw11.CodecEncodes", spec := "codecEncodes", inPlace := ["sync/atomic.LoadUint32", "(*internal/sync.Mutex).Lock", "internal/race.Disable", "sync/atomic.CompareAndSwapInt32", "internal/race.Enable", "internal/race.Acquire", "(*internal/sync.Mutex).lockSlow", "internal/sync.runtime_canSpin", "internal/sync.runtime_doSpin", "internal/sync.throw", "internal/sync.runtime_nanotime", "internal/sync.runtime_SemacquireMutex", "sync/atomic.AddInt32", "(*internal/sync.Mutex).Unlock", "internal/race.ReleaseMerge", "(*internal/sync.Mutex).unlockSlow", "internal/sync.fatal", "internal/sync.runtime_Semrelease", "sync/atomic.StoreUint32"], unfollowed := true, recurses := true, apart := false, narrowed := true }
def CodecEncodesUptoSaid : Prop := codecEncodesUptoRow.holds Tryz.pinned (OpenSpec.upto codecEncodesSpec)

/-- 'gambrellaw12.ReconTells', WHERE WHAT IT READS IS OF BULK AT MOST 1048576: true; the input reads as it did. -/
def reconTellsUptoRow : OpenClaim := { program := "ytpdakdcmahlghaagreat", sum := "76a975f229bc535cc07312df16a24f6d0dd3d6dfe9bdc27bee0bb708a1a6751e", func := "gambrel/gambrellaw12.ReconTells", spec := "reconTells", inPlace := ["sync/atomic.LoadUint32", "(*internal/sync.Mutex).Lock", "internal/race.Disable", "sync/atomic.CompareAndSwapInt32", "internal/race.Enable", "internal/race.Acquire", "(*internal/sync.Mutex).lockSlow", "internal/sync.runtime_canSpin", "internal/sync.runtime_doSpin", "internal/sync.throw", "internal/sync.runtime_nanotime", "internal/sync.runtime_SemacquireMutex", "sync/atomic.AddInt32", "(*internal/sync.Mutex).Unlock", "internal/race.ReleaseMerge", "(*internal/sync.Mutex).unlockSlow", "internal/sync.fatal", "internal/sync.runtime_Semrelease", "sync/atomic.StoreUint32"], unfollowed := true, recurses := true, apart := false, narrowed := true }
def ReconTellsUptoSaid : Prop := reconTellsUptoRow.holds Tryz.pinned (OpenSpec.upto reconTellsSpec)

/-- 'gambrellaw12.ReconWhich', WHERE WHAT IT READS IS OF BULK AT MOST 1048576: true; the input reads as it did. -/
def reconWhichUptoRow : OpenClaim := { program := "ytpdakdcmahlghaagreat", sum := "76a975f229bc535cc07312df16a24f6d0dd3d6dfe9bdc27bee0bb708a1a6751e", func := "gambrel/gambrellaw12.ReconWhich", spec := "reconWhich", inPlace := ["sync/atomic.LoadUint32", "(*internal/sync.Mutex).Lock", "internal/race.Disable", "sync/atomic.CompareAndSwapInt32", "internal/race.Enable", "internal/race.Acquire", "(*internal/sync.Mutex).lockSlow", "internal/sync.runtime_canSpin", "internal/sync.runtime_doSpin", "internal/sync.throw", "internal/sync.runtime_nanotime", "internal/sync.runtime_SemacquireMutex", "sync/atomic.AddInt32", "(*internal/sync.Mutex).Unlock", "internal/race.ReleaseMerge", "(*internal/sync.Mutex).unlockSlow", "internal/sync.fatal", "internal/sync.runtime_Semrelease", "sync/atomic.StoreUint32"], unfollowed := true, recurses := true, apart := false, narrowed := true }
def ReconWhichUptoSaid : Prop := reconWhichUptoRow.holds Tryz.pinned (OpenSpec.upto reconWhichSpec)

/-- 'gambrellaw12.ReconUpdates', WHERE WHAT IT READS IS OF BULK AT MOST 1048576: true; the input reads as it did. -/
def reconUpdatesUptoRow : OpenClaim := { program := "ytpdakdcmahlghaagreat", sum := "76a975f229bc535cc07312df16a24f6d0dd3d6dfe9bdc27bee0bb708a1a6751e", func := "gambrel/gambrellaw12.ReconUpdates", spec := "reconUpdates", inPlace := ["sync/atomic.LoadUint32", "(*internal/sync.Mutex).Lock", "internal/race.Disable", "sync/atomic.CompareAndSwapInt32", "internal/race.Enable", "internal/race.Acquire", "(*internal/sync.Mutex).lockSlow", "internal/sync.runtime_canSpin", "internal/sync.runtime_doSpin", "internal/sync.throw", "internal/sync.runtime_nanotime", "internal/sync.runtime_SemacquireMutex", "sync/atomic.AddInt32", "(*internal/sync.Mutex).Unlock", "internal/race.ReleaseMerge", "(*internal/sync.Mutex).unlockSlow", "internal/sync.fatal", "internal/sync.runtime_Semrelease", "sync/atomic.StoreUint32"], unfollowed := true, recurses := true, apart := false, narrowed := true }
def ReconUpdatesUptoSaid : Prop := reconUpdatesUptoRow.holds Tryz.pinned (OpenSpec.upto reconUpdatesSpec)

/-- 'gambrellaw16.TrialTells', WHERE WHAT IT READS IS OF BULK AT MOST 1048576: true; the input reads as it did. -/
def trialTellsUptoRow : OpenClaim := { program := "ytpdakdcmahlghaagreat", sum := "76a975f229bc535cc07312df16a24f6d0dd3d6dfe9bdc27bee0bb708a1a6751e", func := "gambrel/gambrellaw16.TrialTells", spec := "trialTells", inPlace := ["sync/atomic.LoadUint32", "(*internal/sync.Mutex).Lock", "internal/race.Disable", "sync/atomic.CompareAndSwapInt32", "internal/race.Enable", "internal/race.Acquire", "(*internal/sync.Mutex).lockSlow", "internal/sync.runtime_canSpin", "internal/sync.runtime_doSpin", "internal/sync.throw", "internal/sync.runtime_nanotime", "internal/sync.runtime_SemacquireMutex", "sync/atomic.AddInt32", "(*internal/sync.Mutex).Unlock", "internal/race.ReleaseMerge", "(*internal/sync.Mutex).unlockSlow", "internal/sync.fatal", "internal/sync.runtime_Semrelease", "sync/atomic.StoreUint32"], unfollowed := true, recurses := true, apart := false, narrowed := true }
def TrialTellsUptoSaid : Prop := trialTellsUptoRow.holds Tryz.pinned (OpenSpec.upto trialTellsSpec)

/-- 'gambrellaw16.TrialHas', WHERE WHAT IT READS IS OF BULK AT MOST 1048576: true; the input reads as it did. -/
def trialHasUptoRow : OpenClaim := { program := "ytpdakdcmahlghaagreat", sum := "76a975f229bc535cc07312df16a24f6d0dd3d6dfe9bdc27bee0bb708a1a6751e", func := "gambrel/gambrellaw16.TrialHas", spec := "trialHas", inPlace := ["sync/atomic.LoadUint32", "(*internal/sync.Mutex).Lock", "internal/race.Disable", "sync/atomic.CompareAndSwapInt32", "internal/race.Enable", "internal/race.Acquire", "(*internal/sync.Mutex).lockSlow", "internal/sync.runtime_canSpin", "internal/sync.runtime_doSpin", "internal/sync.throw", "internal/sync.runtime_nanotime", "internal/sync.runtime_SemacquireMutex", "sync/atomic.AddInt32", "(*internal/sync.Mutex).Unlock", "internal/race.ReleaseMerge", "(*internal/sync.Mutex).unlockSlow", "internal/sync.fatal", "internal/sync.runtime_Semrelease", "sync/atomic.StoreUint32"], unfollowed := true, recurses := true, apart := false, narrowed := true }
def TrialHasUptoSaid : Prop := trialHasUptoRow.holds Tryz.pinned (OpenSpec.upto trialHasSpec)

/-- 'gambrellaw16.TrialOdd', WHERE WHAT IT READS IS OF BULK AT MOST 1048576: true; the input reads as it did. -/
def trialOddUptoRow : OpenClaim := { program := "ytpdakdcmahlghaagreat", sum := "76a975f229bc535cc07312df16a24f6d0dd3d6dfe9bdc27bee0bb708a1a6751e", func := "gambrel/gambrellaw16.TrialOdd", spec := "trialOdd", inPlace := ["sync/atomic.LoadUint32", "(*internal/sync.Mutex).Lock", "internal/race.Disable", "sync/atomic.CompareAndSwapInt32", "internal/race.Enable", "internal/race.Acquire", "(*internal/sync.Mutex).lockSlow", "internal/sync.runtime_canSpin", "internal/sync.runtime_doSpin", "internal/sync.throw", "internal/sync.runtime_nanotime", "internal/sync.runtime_SemacquireMutex", "sync/atomic.AddInt32", "(*internal/sync.Mutex).Unlock", "internal/race.ReleaseMerge", "(*internal/sync.Mutex).unlockSlow", "internal/sync.fatal", "internal/sync.runtime_Semrelease", "sync/atomic.StoreUint32"], unfollowed := true, recurses := true, apart := false, narrowed := true }
def TrialOddUptoSaid : Prop := trialOddUptoRow.holds Tryz.pinned (OpenSpec.upto trialOddSpec)

/-- 'gambrellaw16.TrialTwins', WHERE WHAT IT READS IS OF BULK AT MOST 1048576: true; the input reads as it did. -/
def trialTwinsUptoRow : OpenClaim := { program := "ytpdakdcmahlghaagreat", sum := "76a975f229bc535cc07312df16a24f6d0dd3d6dfe9bdc27bee0bb708a1a6751e", func := "gambrel/gambrellaw16.TrialTwins", spec := "trialTwins", inPlace := ["sync/atomic.LoadUint32", "(*internal/sync.Mutex).Lock", "internal/race.Disable", "sync/atomic.CompareAndSwapInt32", "internal/race.Enable", "internal/race.Acquire", "(*internal/sync.Mutex).lockSlow", "internal/sync.runtime_canSpin", "internal/sync.runtime_doSpin", "internal/sync.throw", "internal/sync.runtime_nanotime", "internal/sync.runtime_SemacquireMutex", "sync/atomic.AddInt32", "(*internal/sync.Mutex).Unlock", "internal/race.ReleaseMerge", "(*internal/sync.Mutex).unlockSlow", "internal/sync.fatal", "internal/sync.runtime_Semrelease", "sync/atomic.StoreUint32"], unfollowed := true, recurses := true, apart := false, narrowed := true }
def TrialTwinsUptoSaid : Prop := trialTwinsUptoRow.holds Tryz.pinned (OpenSpec.upto trialTwinsSpec)

/-- 'gambrellaw16.TrialNone', WHERE WHAT IT READS IS OF BULK AT MOST 1048576: true; the input reads as it did. -/
def trialNoneUptoRow : OpenClaim := { program := "ytpdakdcmahlghaagreat", sum := "76a975f229bc535cc07312df16a24f6d0dd3d6dfe9bdc27bee0bb708a1a6751e", func := "gambrel/gambrellaw16.TrialNone", spec := "trialNone", inPlace := ["sync/atomic.LoadUint32", "(*internal/sync.Mutex).Lock", "internal/race.Disable", "sync/atomic.CompareAndSwapInt32", "internal/race.Enable", "internal/race.Acquire", "(*internal/sync.Mutex).lockSlow", "internal/sync.runtime_canSpin", "internal/sync.runtime_doSpin", "internal/sync.throw", "internal/sync.runtime_nanotime", "internal/sync.runtime_SemacquireMutex", "sync/atomic.AddInt32", "(*internal/sync.Mutex).Unlock", "internal/race.ReleaseMerge", "(*internal/sync.Mutex).unlockSlow", "internal/sync.fatal", "internal/sync.runtime_Semrelease", "sync/atomic.StoreUint32"], unfollowed := true, recurses := true, apart := false, narrowed := true }
def TrialNoneUptoSaid : Prop := trialNoneUptoRow.holds Tryz.pinned (OpenSpec.upto trialNoneSpec)

/-- 'gambrellaw16.TrialZeros', WHERE WHAT IT READS IS OF BULK AT MOST 1048576: true; the input reads as it did. -/
def trialZerosUptoRow : OpenClaim := { program := "ytpdakdcmahlghaagreat", sum := "76a975f229bc535cc07312df16a24f6d0dd3d6dfe9bdc27bee0bb708a1a6751e", func := "gambrel/gambrellaw16.TrialZeros", spec := "trialZeros", inPlace := ["sync/atomic.LoadUint32", "(*internal/sync.Mutex).Lock", "internal/race.Disable", "sync/atomic.CompareAndSwapInt32", "internal/race.Enable", "internal/race.Acquire", "(*internal/sync.Mutex).lockSlow", "internal/sync.runtime_canSpin", "internal/sync.runtime_doSpin", "internal/sync.throw", "internal/sync.runtime_nanotime", "internal/sync.runtime_SemacquireMutex", "sync/atomic.AddInt32", "(*internal/sync.Mutex).Unlock", "internal/race.ReleaseMerge", "(*internal/sync.Mutex).unlockSlow", "internal/sync.fatal", "internal/sync.runtime_Semrelease", "sync/atomic.StoreUint32"], unfollowed := true, recurses := true, apart := false, narrowed := true }
def TrialZerosUptoSaid : Prop := trialZerosUptoRow.holds Tryz.pinned (OpenSpec.upto trialZerosSpec)

/-- 'gambrellaw12.ReconAny', WHERE WHAT IT READS IS OF BULK AT MOST 1048576: true; the input reads as it did. -/
def reconAnyUptoRow : OpenClaim := { program := "ytpdakdcmahlghaagreat", sum := "76a975f229bc535cc07312df16a24f6d0dd3d6dfe9bdc27bee0bb708a1a6751e", func := "gambrel/gambrellaw12.ReconAny", spec := "reconAny", inPlace := ["sync/atomic.LoadUint32", "(*internal/sync.Mutex).Lock", "internal/race.Disable", "sync/atomic.CompareAndSwapInt32", "internal/race.Enable", "internal/race.Acquire", "(*internal/sync.Mutex).lockSlow", "internal/sync.runtime_canSpin", "internal/sync.runtime_doSpin", "internal/sync.throw", "internal/sync.runtime_nanotime", "internal/sync.runtime_SemacquireMutex", "sync/atomic.AddInt32", "(*internal/sync.Mutex).Unlock", "internal/race.ReleaseMerge", "(*internal/sync.Mutex).unlockSlow", "internal/sync.fatal", "internal/sync.runtime_Semrelease", "sync/atomic.StoreUint32"], unfollowed := true, recurses := true, apart := false, narrowed := true }
def ReconAnyUptoSaid : Prop := reconAnyUptoRow.holds Tryz.pinned (OpenSpec.upto reconAnySpec)

/-- 'gambrellaw12.ReconFew', WHERE WHAT IT READS IS OF BULK AT MOST 1048576: true; the input reads as it did. -/
def reconFewUptoRow : OpenClaim := { program := "ytpdakdcmahlghaagreat", sum := "76a975f229bc535cc07312df16a24f6d0dd3d6dfe9bdc27bee0bb708a1a6751e", func := "gambrel/gambrellaw12.ReconFew", spec := "reconFew", inPlace := ["sync/atomic.LoadUint32", "(*internal/sync.Mutex).Lock", "internal/race.Disable", "sync/atomic.CompareAndSwapInt32", "internal/race.Enable", "internal/race.Acquire", "(*internal/sync.Mutex).lockSlow", "internal/sync.runtime_canSpin", "internal/sync.runtime_doSpin", "internal/sync.throw", "internal/sync.runtime_nanotime", "internal/sync.runtime_SemacquireMutex", "sync/atomic.AddInt32", "(*internal/sync.Mutex).Unlock", "internal/race.ReleaseMerge", "(*internal/sync.Mutex).unlockSlow", "internal/sync.fatal", "internal/sync.runtime_Semrelease", "sync/atomic.StoreUint32"], unfollowed := true, recurses := true, apart := false, narrowed := true }
def ReconFewUptoSaid : Prop := reconFewUptoRow.holds Tryz.pinned (OpenSpec.upto reconFewSpec)

/-- 'gambrellaw12.ReconChanges', WHERE WHAT IT READS IS OF BULK AT MOST 1048576: true; the input reads as it did. -/
def reconChangesUptoRow : OpenClaim := { program := "ytpdakdcmahlghaagreat", sum := "76a975f229bc535cc07312df16a24f6d0dd3d6dfe9bdc27bee0bb708a1a6751e", func := "gambrel/gambrellaw12.ReconChanges", spec := "reconChanges", inPlace := ["sync/atomic.LoadUint32", "(*internal/sync.Mutex).Lock", "internal/race.Disable", "sync/atomic.CompareAndSwapInt32", "internal/race.Enable", "internal/race.Acquire", "(*internal/sync.Mutex).lockSlow", "internal/sync.runtime_canSpin", "internal/sync.runtime_doSpin", "internal/sync.throw", "internal/sync.runtime_nanotime", "internal/sync.runtime_SemacquireMutex", "sync/atomic.AddInt32", "(*internal/sync.Mutex).Unlock", "internal/race.ReleaseMerge", "(*internal/sync.Mutex).unlockSlow", "internal/sync.fatal", "internal/sync.runtime_Semrelease", "sync/atomic.StoreUint32"], unfollowed := true, recurses := true, apart := false, narrowed := true }
def ReconChangesUptoSaid : Prop := reconChangesUptoRow.holds Tryz.pinned (OpenSpec.upto reconChangesSpec)

end Rows
end Go.Proofs.YtpdakdcmahlghaaGreat

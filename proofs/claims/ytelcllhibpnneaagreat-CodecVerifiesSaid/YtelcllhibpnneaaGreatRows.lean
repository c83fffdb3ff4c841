/-
  No cell of these rows narrows 'for every input' (looked for: loops, veiled, ifaces, maps, wideKeys, modest, calm, conditions, laid).
  DERIVED. THE GIVEN ROWS OF THIS SEAT. 12 by the template 'for every input the law returns true; each argument reads behind the call as it read before'; 0 by the template 'total and deterministic' (their statements: YtelcllhibpnneaaGreatTotals.lean).
  GIVEN WITH THE SEED: the statements are not yours to turn. If you find one false, say at which input.
  Laid BY PROGRAM, IN A SANDBOX (cutbox-rows.mjs): the forced cells as the released guide's own fill.sh prints them over the translation 774516db9366f0ca… (all of the seat's roots in one cut). By AI agents, Wed Nov 11 2026. No macro, syntax, notation, axiom, sorry.
-/
import Derived.Test.YtelcllhibpnneaaGreatChecked
import GoSem.Claim
import GoSem.ClaimJoined
import GoSem.ClaimMapViews
import Derived.JoinedTies
import Derived.KernelRfl
namespace Go.Proofs.YtelcllhibpnneaaGreat
/- THE CELL 'sum', in the pinned program and in every row, IS THE sha256 OF THE DUMP (.gsa) THAT YtelcllhibpnneaaGreatProg.lean LOADS. Nothing in Lean hashes anything: it is a label: what it is worth is what the hold of that sum in a sandbox is worth. -/
noncomputable def Tryz.pinned : Pinned := { name := "ytelcllhibpnneaagreat", sum := "774516db9366f0ca1a7d4c73a850e366085fca264cd7c1b93fa4e4a4f019ad5c", checked := Tryz.checked }
namespace Rows
def none {H : Type} : Left H := { results := [], args := [] }

/-- 'gambrellaw11.CodecParity': WHATEVER THE INPUT: true; the input reads as it did. -/
def codecParitySpec : ChangeSpec := { name := "codecParity", fn := fun _ => fun
  | [d1, d2] => { results := [.lit (.bool true)], args := [d1, d2] }
  | _ => none }
def codecParityRow : OpenClaim := { program := "ytelcllhibpnneaagreat", sum := "774516db9366f0ca1a7d4c73a850e366085fca264cd7c1b93fa4e4a4f019ad5c", func := "gambrel/gambrellaw11.CodecParity", spec := "codecParity", inPlace := ["sync/atomic.LoadUint32", "(*internal/sync.Mutex).Lock", "internal/race.Disable", "sync/atomic.CompareAndSwapInt32", "internal/race.Enable", "internal/race.Acquire", "(*internal/sync.Mutex).lockSlow", "internal/sync.runtime_canSpin", "internal/sync.runtime_doSpin", "internal/sync.throw", "internal/sync.runtime_nanotime", "internal/sync.runtime_SemacquireMutex", "sync/atomic.AddInt32", "(*internal/sync.Mutex).Unlock", "internal/race.ReleaseMerge", "(*internal/sync.Mutex).unlockSlow", "internal/sync.fatal", "internal/sync.runtime_Semrelease", "sync/atomic.StoreUint32"], unfollowed := true, recurses := true, apart := false }
def CodecParitySaid : Prop := codecParityRow.holds Tryz.pinned (OpenSpec.ofChange codecParitySpec)

/-- ITS FALSE NEIGHBOUR: 'it returns false'. Refute it at one input. -/
def codecParityWrong : ChangeSpec := { name := "codecParity", fn := fun _ => fun
  | [d1, d2] => { results := [.lit (.bool false)], args := [d1, d2] }
  | _ => none }
def CodecParityWrongFalsely : Prop := codecParityRow.holds Tryz.pinned (OpenSpec.ofChange codecParityWrong)

/-- 'gambrellaw11.CodecEncodes': WHATEVER THE INPUT: true; the input reads as it did. -/
def codecEncodesSpec : ChangeSpec := { name := "codecEncodes", fn := fun _ => fun
  | [d1, d2] => { results := [.lit (.bool true)], args := [d1, d2] }
  | _ => none }
def codecEncodesRow : OpenClaim := { program := "ytelcllhibpnneaagreat", sum := "774516db9366f0ca1a7d4c73a850e366085fca264cd7c1b93fa4e4a4f019ad5c", func := "gambrel/gambrellaw11.CodecEncodes", spec := "codecEncodes", inPlace := ["sync/atomic.LoadUint32", "(*internal/sync.Mutex).Lock", "internal/race.Disable", "sync/atomic.CompareAndSwapInt32", "internal/race.Enable", "internal/race.Acquire", "(*internal/sync.Mutex).lockSlow", "internal/sync.runtime_canSpin", "internal/sync.runtime_doSpin", "internal/sync.throw", "internal/sync.runtime_nanotime", "internal/sync.runtime_SemacquireMutex", "sync/atomic.AddInt32", "(*internal/sync.Mutex).Unlock", "internal/race.ReleaseMerge", "(*internal/sync.Mutex).unlockSlow", "internal/sync.fatal", "internal/sync.runtime_Semrelease", "sync/atomic.StoreUint32"], unfollowed := true, recurses := true, apart := false }
def CodecEncodesSaid : Prop := codecEncodesRow.holds Tryz.pinned (OpenSpec.ofChange codecEncodesSpec)

/-- ITS FALSE NEIGHBOUR: 'it returns false'. Refute it at one input. -/
def codecEncodesWrong : ChangeSpec := { name := "codecEncodes", fn := fun _ => fun
  | [d1, d2] => { results := [.lit (.bool false)], args := [d1, d2] }
  | _ => none }
def CodecEncodesWrongFalsely : Prop := codecEncodesRow.holds Tryz.pinned (OpenSpec.ofChange codecEncodesWrong)

/-- 'gambrellaw11.CodecLinear': WHATEVER THE INPUT: true; the input reads as it did. -/
def codecLinearSpec : ChangeSpec := { name := "codecLinear", fn := fun _ => fun
  | [d1, d2, d3] => { results := [.lit (.bool true)], args := [d1, d2, d3] }
  | _ => none }
def codecLinearRow : OpenClaim := { program := "ytelcllhibpnneaagreat", sum := "774516db9366f0ca1a7d4c73a850e366085fca264cd7c1b93fa4e4a4f019ad5c", func := "gambrel/gambrellaw11.CodecLinear", spec := "codecLinear", inPlace := ["sync/atomic.LoadUint32", "(*internal/sync.Mutex).Lock", "internal/race.Disable", "sync/atomic.CompareAndSwapInt32", "internal/race.Enable", "internal/race.Acquire", "(*internal/sync.Mutex).lockSlow", "internal/sync.runtime_canSpin", "internal/sync.runtime_doSpin", "internal/sync.throw", "internal/sync.runtime_nanotime", "internal/sync.runtime_SemacquireMutex", "sync/atomic.AddInt32", "(*internal/sync.Mutex).Unlock", "internal/race.ReleaseMerge", "(*internal/sync.Mutex).unlockSlow", "internal/sync.fatal", "internal/sync.runtime_Semrelease", "sync/atomic.StoreUint32"], unfollowed := true, recurses := true, apart := false }
def CodecLinearSaid : Prop := codecLinearRow.holds Tryz.pinned (OpenSpec.ofChange codecLinearSpec)

/-- ITS FALSE NEIGHBOUR: 'it returns false'. Refute it at one input. -/
def codecLinearWrong : ChangeSpec := { name := "codecLinear", fn := fun _ => fun
  | [d1, d2, d3] => { results := [.lit (.bool false)], args := [d1, d2, d3] }
  | _ => none }
def CodecLinearWrongFalsely : Prop := codecLinearRow.holds Tryz.pinned (OpenSpec.ofChange codecLinearWrong)

/-- 'gambrellaw11.CodecColumns': WHATEVER THE INPUT: true; the input reads as it did. -/
def codecColumnsSpec : ChangeSpec := { name := "codecColumns", fn := fun _ => fun
  | [d1, d2, d3] => { results := [.lit (.bool true)], args := [d1, d2, d3] }
  | _ => none }
def codecColumnsRow : OpenClaim := { program := "ytelcllhibpnneaagreat", sum := "774516db9366f0ca1a7d4c73a850e366085fca264cd7c1b93fa4e4a4f019ad5c", func := "gambrel/gambrellaw11.CodecColumns", spec := "codecColumns", inPlace := ["sync/atomic.LoadUint32", "(*internal/sync.Mutex).Lock", "internal/race.Disable", "sync/atomic.CompareAndSwapInt32", "internal/race.Enable", "internal/race.Acquire", "(*internal/sync.Mutex).lockSlow", "internal/sync.runtime_canSpin", "internal/sync.runtime_doSpin", "internal/sync.throw", "internal/sync.runtime_nanotime", "internal/sync.runtime_SemacquireMutex", "sync/atomic.AddInt32", "(*internal/sync.Mutex).Unlock", "internal/race.ReleaseMerge", "(*internal/sync.Mutex).unlockSlow", "internal/sync.fatal", "internal/sync.runtime_Semrelease", "sync/atomic.StoreUint32"], unfollowed := true, recurses := true, apart := false }
def CodecColumnsSaid : Prop := codecColumnsRow.holds Tryz.pinned (OpenSpec.ofChange codecColumnsSpec)

/-- ITS FALSE NEIGHBOUR: 'it returns false'. Refute it at one input. -/
def codecColumnsWrong : ChangeSpec := { name := "codecColumns", fn := fun _ => fun
  | [d1, d2, d3] => { results := [.lit (.bool false)], args := [d1, d2, d3] }
  | _ => none }
def CodecColumnsWrongFalsely : Prop := codecColumnsRow.holds Tryz.pinned (OpenSpec.ofChange codecColumnsWrong)

/-- 'gambrellaw11.CodecXor': WHATEVER THE INPUT: true; the input reads as it did. -/
def codecXorSpec : ChangeSpec := { name := "codecXor", fn := fun _ => fun
  | [d1, d2] => { results := [.lit (.bool true)], args := [d1, d2] }
  | _ => none }
def codecXorRow : OpenClaim := { program := "ytelcllhibpnneaagreat", sum := "774516db9366f0ca1a7d4c73a850e366085fca264cd7c1b93fa4e4a4f019ad5c", func := "gambrel/gambrellaw11.CodecXor", spec := "codecXor", inPlace := ["sync/atomic.LoadUint32", "(*internal/sync.Mutex).Lock", "internal/race.Disable", "sync/atomic.CompareAndSwapInt32", "internal/race.Enable", "internal/race.Acquire", "(*internal/sync.Mutex).lockSlow", "internal/sync.runtime_canSpin", "internal/sync.runtime_doSpin", "internal/sync.throw", "internal/sync.runtime_nanotime", "internal/sync.runtime_SemacquireMutex", "sync/atomic.AddInt32", "(*internal/sync.Mutex).Unlock", "internal/race.ReleaseMerge", "(*internal/sync.Mutex).unlockSlow", "internal/sync.fatal", "internal/sync.runtime_Semrelease", "sync/atomic.StoreUint32"], unfollowed := true, recurses := true, apart := false }
def CodecXorSaid : Prop := codecXorRow.holds Tryz.pinned (OpenSpec.ofChange codecXorSpec)

/-- ITS FALSE NEIGHBOUR: 'it returns false'. Refute it at one input. -/
def codecXorWrong : ChangeSpec := { name := "codecXor", fn := fun _ => fun
  | [d1, d2] => { results := [.lit (.bool false)], args := [d1, d2] }
  | _ => none }
def CodecXorWrongFalsely : Prop := codecXorRow.holds Tryz.pinned (OpenSpec.ofChange codecXorWrong)

/-- 'gambrellaw12.ReconTells': WHATEVER THE INPUT: true; the input reads as it did. -/
def reconTellsSpec : ChangeSpec := { name := "reconTells", fn := fun _ => fun
  | [d1, d2, d3] => { results := [.lit (.bool true)], args := [d1, d2, d3] }
  | _ => none }
def reconTellsRow : OpenClaim := { program := "ytelcllhibpnneaagreat", sum := "774516db9366f0ca1a7d4c73a850e366085fca264cd7c1b93fa4e4a4f019ad5c", func := "gambrel/gambrellaw12.ReconTells", spec := "reconTells", inPlace := ["sync/atomic.LoadUint32", "(*internal/sync.Mutex).Lock", "internal/race.Disable", "sync/atomic.CompareAndSwapInt32", "internal/race.Enable", "internal/race.Acquire", "(*internal/sync.Mutex).lockSlow", "internal/sync.runtime_canSpin", "internal/sync.runtime_doSpin", "internal/sync.throw", "internal/sync.runtime_nanotime", "internal/sync.runtime_SemacquireMutex", "sync/atomic.AddInt32", "(*internal/sync.Mutex).Unlock", "internal/race.ReleaseMerge", "(*internal/sync.Mutex).unlockSlow", "internal/sync.fatal", "internal/sync.runtime_Semrelease", "sync/atomic.StoreUint32"], unfollowed := true, recurses := true, apart := false }
def ReconTellsSaid : Prop := reconTellsRow.holds Tryz.pinned (OpenSpec.ofChange reconTellsSpec)

/-- ITS FALSE NEIGHBOUR: 'it returns false'. Refute it at one input. -/
def reconTellsWrong : ChangeSpec := { name := "reconTells", fn := fun _ => fun
  | [d1, d2, d3] => { results := [.lit (.bool false)], args := [d1, d2, d3] }
  | _ => none }
def ReconTellsWrongFalsely : Prop := reconTellsRow.holds Tryz.pinned (OpenSpec.ofChange reconTellsWrong)

/-- 'gambrellaw12.ReconWhich': WHATEVER THE INPUT: true; the input reads as it did. -/
def reconWhichSpec : ChangeSpec := { name := "reconWhich", fn := fun _ => fun
  | [d1, d2, d3] => { results := [.lit (.bool true)], args := [d1, d2, d3] }
  | _ => none }
def reconWhichRow : OpenClaim := { program := "ytelcllhibpnneaagreat", sum := "774516db9366f0ca1a7d4c73a850e366085fca264cd7c1b93fa4e4a4f019ad5c", func := "gambrel/gambrellaw12.ReconWhich", spec := "reconWhich", inPlace := ["sync/atomic.LoadUint32", "(*internal/sync.Mutex).Lock", "internal/race.Disable", "sync/atomic.CompareAndSwapInt32", "internal/race.Enable", "internal/race.Acquire", "(*internal/sync.Mutex).lockSlow", "internal/sync.runtime_canSpin", "internal/sync.runtime_doSpin", "internal/sync.throw", "internal/sync.runtime_nanotime", "internal/sync.runtime_SemacquireMutex", "sync/atomic.AddInt32", "(*internal/sync.Mutex).Unlock", "internal/race.ReleaseMerge", "(*internal/sync.Mutex).unlockSlow", "internal/sync.fatal", "internal/sync.runtime_Semrelease", "sync/atomic.StoreUint32"], unfollowed := true, recurses := true, apart := false }
def ReconWhichSaid : Prop := reconWhichRow.holds Tryz.pinned (OpenSpec.ofChange reconWhichSpec)

/-- ITS FALSE NEIGHBOUR: 'it returns false'. Refute it at one input. -/
def reconWhichWrong : ChangeSpec := { name := "reconWhich", fn := fun _ => fun
  | [d1, d2, d3] => { results := [.lit (.bool false)], args := [d1, d2, d3] }
  | _ => none }
def ReconWhichWrongFalsely : Prop := reconWhichRow.holds Tryz.pinned (OpenSpec.ofChange reconWhichWrong)

/-- 'gambrellaw12.ReconUpdates': WHATEVER THE INPUT: true; the input reads as it did. -/
def reconUpdatesSpec : ChangeSpec := { name := "reconUpdates", fn := fun _ => fun
  | [d1, d2, d3] => { results := [.lit (.bool true)], args := [d1, d2, d3] }
  | _ => none }
def reconUpdatesRow : OpenClaim := { program := "ytelcllhibpnneaagreat", sum := "774516db9366f0ca1a7d4c73a850e366085fca264cd7c1b93fa4e4a4f019ad5c", func := "gambrel/gambrellaw12.ReconUpdates", spec := "reconUpdates", inPlace := ["sync/atomic.LoadUint32", "(*internal/sync.Mutex).Lock", "internal/race.Disable", "sync/atomic.CompareAndSwapInt32", "internal/race.Enable", "internal/race.Acquire", "(*internal/sync.Mutex).lockSlow", "internal/sync.runtime_canSpin", "internal/sync.runtime_doSpin", "internal/sync.throw", "internal/sync.runtime_nanotime", "internal/sync.runtime_SemacquireMutex", "sync/atomic.AddInt32", "(*internal/sync.Mutex).Unlock", "internal/race.ReleaseMerge", "(*internal/sync.Mutex).unlockSlow", "internal/sync.fatal", "internal/sync.runtime_Semrelease", "sync/atomic.StoreUint32"], unfollowed := true, recurses := true, apart := false }
def ReconUpdatesSaid : Prop := reconUpdatesRow.holds Tryz.pinned (OpenSpec.ofChange reconUpdatesSpec)

/-- ITS FALSE NEIGHBOUR: 'it returns false'. Refute it at one input. -/
def reconUpdatesWrong : ChangeSpec := { name := "reconUpdates", fn := fun _ => fun
  | [d1, d2, d3] => { results := [.lit (.bool false)], args := [d1, d2, d3] }
  | _ => none }
def ReconUpdatesWrongFalsely : Prop := reconUpdatesRow.holds Tryz.pinned (OpenSpec.ofChange reconUpdatesWrong)

/-- 'gambrellaw11.CodecVerifies': WHATEVER THE INPUT: true; the input reads as it did. -/
def codecVerifiesSpec : ChangeSpec := { name := "codecVerifies", fn := fun _ => fun
  | [d1, d2, d3] => { results := [.lit (.bool true)], args := [d1, d2, d3] }
  | _ => none }
def codecVerifiesRow : OpenClaim := { program := "ytelcllhibpnneaagreat", sum := "774516db9366f0ca1a7d4c73a850e366085fca264cd7c1b93fa4e4a4f019ad5c", func := "gambrel/gambrellaw11.CodecVerifies", spec := "codecVerifies", inPlace := ["sync/atomic.LoadUint32", "(*internal/sync.Mutex).Lock", "internal/race.Disable", "sync/atomic.CompareAndSwapInt32", "internal/race.Enable", "internal/race.Acquire", "(*internal/sync.Mutex).lockSlow", "internal/sync.runtime_canSpin", "internal/sync.runtime_doSpin", "internal/sync.throw", "internal/sync.runtime_nanotime", "internal/sync.runtime_SemacquireMutex", "sync/atomic.AddInt32", "(*internal/sync.Mutex).Unlock", "internal/race.ReleaseMerge", "(*internal/sync.Mutex).unlockSlow", "internal/sync.fatal", "internal/sync.runtime_Semrelease", "sync/atomic.StoreUint32"], unfollowed := true, recurses := true, apart := false }
def CodecVerifiesSaid : Prop := codecVerifiesRow.holds Tryz.pinned (OpenSpec.ofChange codecVerifiesSpec)

/-- ITS FALSE NEIGHBOUR: 'it returns false'. Refute it at one input. -/
def codecVerifiesWrong : ChangeSpec := { name := "codecVerifies", fn := fun _ => fun
  | [d1, d2, d3] => { results := [.lit (.bool false)], args := [d1, d2, d3] }
  | _ => none }
def CodecVerifiesWrongFalsely : Prop := codecVerifiesRow.holds Tryz.pinned (OpenSpec.ofChange codecVerifiesWrong)

/-- 'gambrellaw12.ReconAny': WHATEVER THE INPUT: true; the input reads as it did. -/
def reconAnySpec : ChangeSpec := { name := "reconAny", fn := fun _ => fun
  | [d1, d2, d3] => { results := [.lit (.bool true)], args := [d1, d2, d3] }
  | _ => none }
def reconAnyRow : OpenClaim := { program := "ytelcllhibpnneaagreat", sum := "774516db9366f0ca1a7d4c73a850e366085fca264cd7c1b93fa4e4a4f019ad5c", func := "gambrel/gambrellaw12.ReconAny", spec := "reconAny", inPlace := ["sync/atomic.LoadUint32", "(*internal/sync.Mutex).Lock", "internal/race.Disable", "sync/atomic.CompareAndSwapInt32", "internal/race.Enable", "internal/race.Acquire", "(*internal/sync.Mutex).lockSlow", "internal/sync.runtime_canSpin", "internal/sync.runtime_doSpin", "internal/sync.throw", "internal/sync.runtime_nanotime", "internal/sync.runtime_SemacquireMutex", "sync/atomic.AddInt32", "(*internal/sync.Mutex).Unlock", "internal/race.ReleaseMerge", "(*internal/sync.Mutex).unlockSlow", "internal/sync.fatal", "internal/sync.runtime_Semrelease", "sync/atomic.StoreUint32"], unfollowed := true, recurses := true, apart := false }
def ReconAnySaid : Prop := reconAnyRow.holds Tryz.pinned (OpenSpec.ofChange reconAnySpec)

/-- ITS FALSE NEIGHBOUR: 'it returns false'. Refute it at one input. -/
def reconAnyWrong : ChangeSpec := { name := "reconAny", fn := fun _ => fun
  | [d1, d2, d3] => { results := [.lit (.bool false)], args := [d1, d2, d3] }
  | _ => none }
def ReconAnyWrongFalsely : Prop := reconAnyRow.holds Tryz.pinned (OpenSpec.ofChange reconAnyWrong)

/-- 'gambrellaw12.ReconFew': WHATEVER THE INPUT: true; the input reads as it did. -/
def reconFewSpec : ChangeSpec := { name := "reconFew", fn := fun _ => fun
  | [d1, d2, d3] => { results := [.lit (.bool true)], args := [d1, d2, d3] }
  | _ => none }
def reconFewRow : OpenClaim := { program := "ytelcllhibpnneaagreat", sum := "774516db9366f0ca1a7d4c73a850e366085fca264cd7c1b93fa4e4a4f019ad5c", func := "gambrel/gambrellaw12.ReconFew", spec := "reconFew", inPlace := ["sync/atomic.LoadUint32", "(*internal/sync.Mutex).Lock", "internal/race.Disable", "sync/atomic.CompareAndSwapInt32", "internal/race.Enable", "internal/race.Acquire", "(*internal/sync.Mutex).lockSlow", "internal/sync.runtime_canSpin", "internal/sync.runtime_doSpin", "internal/sync.throw", "internal/sync.runtime_nanotime", "internal/sync.runtime_SemacquireMutex", "sync/atomic.AddInt32", "(*internal/sync.Mutex).Unlock", "internal/race.ReleaseMerge", "(*internal/sync.Mutex).unlockSlow", "internal/sync.fatal", "internal/sync.runtime_Semrelease", "sync/atomic.StoreUint32"], unfollowed := true, recurses := true, apart := false }
def ReconFewSaid : Prop := reconFewRow.holds Tryz.pinned (OpenSpec.ofChange reconFewSpec)

/-- ITS FALSE NEIGHBOUR: 'it returns false'. Refute it at one input. -/
def reconFewWrong : ChangeSpec := { name := "reconFew", fn := fun _ => fun
  | [d1, d2, d3] => { results := [.lit (.bool false)], args := [d1, d2, d3] }
  | _ => none }
def ReconFewWrongFalsely : Prop := reconFewRow.holds Tryz.pinned (OpenSpec.ofChange reconFewWrong)

/-- 'gambrellaw12.ReconChanges': WHATEVER THE INPUT: true; the input reads as it did. -/
def reconChangesSpec : ChangeSpec := { name := "reconChanges", fn := fun _ => fun
  | [d1, d2, d3] => { results := [.lit (.bool true)], args := [d1, d2, d3] }
  | _ => none }
def reconChangesRow : OpenClaim := { program := "ytelcllhibpnneaagreat", sum := "774516db9366f0ca1a7d4c73a850e366085fca264cd7c1b93fa4e4a4f019ad5c", func := "gambrel/gambrellaw12.ReconChanges", spec := "reconChanges", inPlace := ["sync/atomic.LoadUint32", "(*internal/sync.Mutex).Lock", "internal/race.Disable", "sync/atomic.CompareAndSwapInt32", "internal/race.Enable", "internal/race.Acquire", "(*internal/sync.Mutex).lockSlow", "internal/sync.runtime_canSpin", "internal/sync.runtime_doSpin", "internal/sync.throw", "internal/sync.runtime_nanotime", "internal/sync.runtime_SemacquireMutex", "sync/atomic.AddInt32", "(*internal/sync.Mutex).Unlock", "internal/race.ReleaseMerge", "(*internal/sync.Mutex).unlockSlow", "internal/sync.fatal", "internal/sync.runtime_Semrelease", "sync/atomic.StoreUint32"], unfollowed := true, recurses := true, apart := false }
def ReconChangesSaid : Prop := reconChangesRow.holds Tryz.pinned (OpenSpec.ofChange reconChangesSpec)

/-- ITS FALSE NEIGHBOUR: 'it returns false'. Refute it at one input. -/
def reconChangesWrong : ChangeSpec := { name := "reconChanges", fn := fun _ => fun
  | [d1, d2, d3] => { results := [.lit (.bool false)], args := [d1, d2, d3] }
  | _ => none }
def ReconChangesWrongFalsely : Prop := reconChangesRow.holds Tryz.pinned (OpenSpec.ofChange reconChangesWrong)

/- THE SECOND FORM. 'bulk': how many values and letters a reading holds, each counted each time it is reached (what is shared counts as often as it is met; a slice's spare places count too). A statement '..UptoSaid' is the law's where the arguments, and the package variables that the reading takes, are together of bulk at most 1048576: NARROWER than '..Said'. Prove '..Said' where nothing that the law and all that it calls make is longer than what came in: it says more and counts as full. Else prove '..UptoSaid'. A law counts once. -/
mutual
def uptoBulk {H : Type} : DataW H → Nat
  | .lit (.string bytes) => bytes.length + 1
  | .lit _ => 1
  | .nil => 1
  | .ptr d => uptoBulk d + 1
  | .slice elems spare => uptoBulkAll elems + uptoBulkAll spare + 1
  | .agg parts => uptoBulkAll parts + 1
  | .iface _ d => uptoBulk d + 1
  | .map entries => uptoBulkEntries entries + 1
  | .held _ => 1
def uptoBulkAll {H : Type} : List (DataW H) → Nat
  | [] => 0
  | d :: r => uptoBulk d + uptoBulkAll r
def uptoBulkEntries {H : Type} : List (Lit × DataW H) → Nat
  | [] => 0
  | x :: r => uptoBulkEntry x + uptoBulkEntries r
def uptoBulkEntry {H : Type} : Lit × DataW H → Nat
  | (.string bytes, d) => bytes.length + uptoBulk d + 1
  | (_, d) => uptoBulk d + 1
 end
def uptoSmall : (H : Type) → List (DataW H) → Bool := fun _ ds => decide (uptoBulkAll ds ≤ 1048576)
def OpenSpec.upto (s : _root_.Go.ChangeSpec) : _root_.Go.OpenSpec := { _root_.Go.OpenSpec.ofChange s with cond := some uptoSmall }

/-- 'gambrellaw11.CodecParity', WHERE WHAT IT READS IS OF BULK AT MOST 1048576: true; the input reads as it did. -/
def codecParityUptoRow : OpenClaim := { program := "ytelcllhibpnneaagreat", sum := "774516db9366f0ca1a7d4c73a850e366085fca264cd7c1b93fa4e4a4f019ad5c", func := "gambrel/gambrellaw11.CodecParity", spec := "codecParity", inPlace := ["sync/atomic.LoadUint32", "(*internal/sync.Mutex).Lock", "internal/race.Disable", "sync/atomic.CompareAndSwapInt32", "internal/race.Enable", "internal/race.Acquire", "(*internal/sync.Mutex).lockSlow", "internal/sync.runtime_canSpin", "internal/sync.runtime_doSpin", "internal/sync.throw", "internal/sync.runtime_nanotime", "internal/sync.runtime_SemacquireMutex", "sync/atomic.AddInt32", "(*internal/sync.Mutex).Unlock", "internal/race.ReleaseMerge", "(*internal/sync.Mutex).unlockSlow", "internal/sync.fatal", "internal/sync.runtime_Semrelease", "sync/atomic.StoreUint32"], unfollowed := true, recurses := true, apart := false, narrowed := true }
def CodecParityUptoSaid : Prop := codecParityUptoRow.holds Tryz.pinned (OpenSpec.upto codecParitySpec)

/-- 'gambrellaw11.CodecEncodes', WHERE WHAT IT READS IS OF BULK AT MOST 1048576: true; the input reads as it did. -/
def codecEncodesUptoRow : OpenClaim := { program := "ytelcllhibpnneaagreat", sum := "774516db9366f0ca1a7d4c73a850e366085fca264cd7c1b93fa4e4a4f019ad5c", func := "gambrel/gambrellaw11.CodecEncodes", spec := "codecEncodes", inPlace := ["sync/atomic.LoadUint32", "(*internal/sync.Mutex).Lock", "internal/race.Disable", "sync/atomic.CompareAndSwapInt32", "internal/race.Enable", "internal/race.Acquire", "(*internal/sync.Mutex).lockSlow", "internal/sync.runtime_canSpin", "internal/sync.runtime_doSpin", "internal/sync.throw", "internal/sync.runtime_nanotime", "internal/sync.runtime_SemacquireMutex", "sync/atomic.AddInt32", "(*internal/sync.Mutex).Unlock", "internal/race.ReleaseMerge", "(*internal/sync.Mutex).unlockSlow", "internal/sync.fatal", "internal/sync.runtime_Semrelease", "sync/atomic.StoreUint32"], unfollowed := true, recurses := true, apart := false, narrowed := true }
def CodecEncodesUptoSaid : Prop := codecEncodesUptoRow.holds Tryz.pinned (OpenSpec.upto codecEncodesSpec)

/-- 'gambrellaw11.CodecLinear', WHERE WHAT IT READS IS OF BULK AT MOST 1048576: true; the input reads as it did. -/
def codecLinearUptoRow : OpenClaim := { program := "ytelcllhibpnneaagreat", sum := "774516db9366f0ca1a7d4c73a850e366085fca264cd7c1b93fa4e4a4f019ad5c", func := "gambrel/gambrellaw11.CodecLinear", spec := "codecLinear", inPlace := ["sync/atomic.LoadUint32", "(*internal/sync.Mutex).Lock", "internal/race.Disable", "sync/atomic.CompareAndSwapInt32", "internal/race.Enable", "internal/race.Acquire", "(*internal/sync.Mutex).lockSlow", "internal/sync.runtime_canSpin", "internal/sync.runtime_doSpin", "internal/sync.throw", "internal/sync.runtime_nanotime", "internal/sync.runtime_SemacquireMutex", "sync/atomic.AddInt32", "(*internal/sync.Mutex).Unlock", "internal/race.ReleaseMerge", "(*internal/sync.Mutex).unlockSlow", "internal/sync.fatal", "internal/sync.runtime_Semrelease", "sync/atomic.StoreUint32"], unfollowed := true, recurses := true, apart := false, narrowed := true }
def CodecLinearUptoSaid : Prop := codecLinearUptoRow.holds Tryz.pinned (OpenSpec.upto codecLinearSpec)

/-- 'gambrellaw11.CodecColumns', WHERE WHAT IT READS IS OF BULK AT MOST 1048576: true; the input reads as it did. -/
def codecColumnsUptoRow : OpenClaim := { program := "ytelcllhibpnneaagreat", sum := "774516db9366f0ca1a7d4c73a850e366085fca264cd7c1b93fa4e4a4f019ad5c", func := "gambrel/gambrellaw11.CodecColumns", spec := "codecColumns", inPlace := ["sync/atomic.LoadUint32", "(*internal/sync.Mutex).Lock", "internal/race.Disable", "sync/atomic.CompareAndSwapInt32", "internal/race.Enable", "internal/race.Acquire", "(*internal/sync.Mutex).lockSlow", "internal/sync.runtime_canSpin", "internal/sync.runtime_doSpin", "internal/sync.throw", "internal/sync.runtime_nanotime", "internal/sync.runtime_SemacquireMutex", "sync/atomic.AddInt32", "(*internal/sync.Mutex).Unlock", "internal/race.ReleaseMerge", "(*internal/sync.Mutex).unlockSlow", "internal/sync.fatal", "internal/sync.runtime_Semrelease", "sync/atomic.StoreUint32"], unfollowed := true, recurses := true, apart := false, narrowed := true }
def CodecColumnsUptoSaid : Prop := codecColumnsUptoRow.holds Tryz.pinned (OpenSpec.upto codecColumnsSpec)

/-- 'gambrellaw11.CodecXor', WHERE WHAT IT READS IS OF BULK AT MOST 1048576: true; the input reads as it did. -/
def codecXorUptoRow : OpenClaim := { program := "ytelcllhibpnneaagreat", sum := "774516db9366f0ca1a7d4c73a850e366085fca264cd7c1b93fa4e4a4f019ad5c", func := "gambrel/gambrellaw11.CodecXor", spec := "codecXor", inPlace := ["sync/atomic.LoadUint32", "(*internal/sync.Mutex).Lock", "internal/race.Disable", "sync/atomic.CompareAndSwapInt32", "internal/race.Enable", "internal/race.Acquire", "(*internal/sync.Mutex).lockSlow", "internal/sync.runtime_canSpin", "internal/sync.runtime_doSpin", "internal/sync.throw", "internal/sync.runtime_nanotime", "internal/sync.runtime_SemacquireMutex", "sync/atomic.AddInt32", "(*internal/sync.Mutex).Unlock", "internal/race.ReleaseMerge", "(*internal/sync.Mutex).unlockSlow", "internal/sync.fatal", "internal/sync.runtime_Semrelease", "sync/atomic.StoreUint32"], unfollowed := true, recurses := true, apart := false, narrowed := true }
def CodecXorUptoSaid : Prop := codecXorUptoRow.holds Tryz.pinned (OpenSpec.upto codecXorSpec)

/-- 'gambrellaw12.ReconTells', WHERE WHAT IT READS IS OF BULK AT MOST 1048576: true; the input reads as it did. -/
def reconTellsUptoRow : OpenClaim := { program := "ytelcllhibpnneaagreat", sum := "774516db9366f0ca1a7d4c73a850e366085fca264cd7c1b93fa4e4a4f019ad5c", func := "gambrel/gambrellaw12.ReconTells", spec := "reconTells", inPlace := ["sync/atomic.LoadUint32", "(*internal/sync.Mutex).Lock", "internal/race.Disable", "sync/atomic.CompareAndSwapInt32", "internal/race.Enable", "internal/race.Acquire", "(*internal/sync.Mutex).lockSlow", "internal/sync.runtime_canSpin", "internal/sync.runtime_doSpin", "internal/sync.throw", "internal/sync.runtime_nanotime", "internal/sync.runtime_SemacquireMutex", "sync/atomic.AddInt32", "(*internal/sync.Mutex).Unlock", "internal/race.ReleaseMerge", "(*internal/sync.Mutex).unlockSlow", "internal/sync.fatal", "internal/sync.runtime_Semrelease", "sync/atomic.StoreUint32"], unfollowed := true, recurses := true, apart := false, narrowed := true }
def ReconTellsUptoSaid : Prop := reconTellsUptoRow.holds Tryz.pinned (OpenSpec.upto reconTellsSpec)

/-- 'gambrellaw12.ReconWhich', WHERE WHAT IT READS IS OF BULK AT MOST 1048576: true; the input reads as it did. -/
def reconWhichUptoRow : OpenClaim := { program := "ytelcllhibpnneaagreat", sum := "774516db9366f0ca1a7d4c73a850e366085fca264cd7c1b93fa4e4a4f019ad5c", func := "gambrel/gambrellaw12.ReconWhich", spec := "reconWhich", inPlace := ["sync/atomic.LoadUint32", "(*internal/sync.Mutex).Lock", "internal/race.Disable", "sync/atomic.CompareAndSwapInt32", "internal/race.Enable", "internal/race.Acquire", "(*internal/sync.Mutex).lockSlow", "internal/sync.runtime_canSpin", "internal/sync.runtime_doSpin", "internal/sync.throw", "internal/sync.runtime_nanotime", "internal/sync.runtime_SemacquireMutex", "sync/atomic.AddInt32", "(*internal/sync.Mutex).Unlock", "internal/race.ReleaseMerge", "(*internal/sync.Mutex).unlockSlow", "internal/sync.fatal", "internal/sync.runtime_Semrelease", "sync/atomic.StoreUint32"], unfollowed := true, recurses := true, apart := false, narrowed := true }
def ReconWhichUptoSaid : Prop := reconWhichUptoRow.holds Tryz.pinned (OpenSpec.upto reconWhichSpec)

/-- 'gambrellaw12.ReconUpdates', WHERE WHAT IT READS IS OF BULK AT MOST 1048576: true; the input reads as it did. -/
def reconUpdatesUptoRow : OpenClaim := { program := "ytelcllhibpnneaagreat", sum := "774516db9366f0ca1a7d4c73a850e366085fca264cd7c1b93fa4e4a4f019ad5c", func := "gambrel/gambrellaw12.ReconUpdates", spec := "reconUpdates", inPlace := ["sync/atomic.LoadUint32", "(*internal/sync.Mutex).Lock", "internal/race.Disable", "sync/atomic.CompareAndSwapInt32", "internal/race.Enable", "internal/race.Acquire", "(*internal/sync.Mutex).lockSlow", "internal/sync.runtime_canSpin", "internal/sync.runtime_doSpin", "internal/sync.throw", "internal/sync.runtime_nanotime", "internal/sync.runtime_SemacquireMutex", "sync/atomic.AddInt32", "(*internal/sync.Mutex).Unlock", "internal/race.ReleaseMerge", "(*internal/sync.Mutex).unlockSlow", "internal/sync.fatal", "internal/sync.runtime_Semrelease", "sync/atomic.StoreUint32"], unfollowed := true, recurses := true, apart := false, narrowed := true }
def ReconUpdatesUptoSaid : Prop := reconUpdatesUptoRow.holds Tryz.pinned (OpenSpec.upto reconUpdatesSpec)

/-- 'gambrellaw11.CodecVerifies', WHERE WHAT IT READS IS OF BULK AT MOST 1048576: true; the input reads as it did. -/
def codecVerifiesUptoRow : OpenClaim := { program := "ytelcllhibpnneaagreat", sum := "774516db9366f0ca1a7d4c73a850e366085fca264cd7c1b93fa4e4a4f019ad5c", func := "gambrel/gambrellaw11.CodecVerifies", spec := "codecVerifies", inPlace := ["sync/atomic.LoadUint32", "(*internal/sync.Mutex).Lock", "internal/race.Disable", "sync/atomic.CompareAndSwapInt32", "internal/race.Enable", "internal/race.Acquire", "(*internal/sync.Mutex).lockSlow", "internal/sync.runtime_canSpin", "internal/sync.runtime_doSpin", "internal/sync.throw", "internal/sync.runtime_nanotime", "internal/sync.runtime_SemacquireMutex", "sync/atomic.AddInt32", "(*internal/sync.Mutex).Unlock", "internal/race.ReleaseMerge", "(*internal/sync.Mutex).unlockSlow", "internal/sync.fatal", "internal/sync.runtime_Semrelease", "sync/atomic.StoreUint32"], unfollowed := true, recurses := true, apart := false, narrowed := true }
def CodecVerifiesUptoSaid : Prop := codecVerifiesUptoRow.holds Tryz.pinned (OpenSpec.upto codecVerifiesSpec)

/-- 'gambrellaw12.ReconAny', WHERE WHAT IT READS IS OF BULK AT MOST 1048576: true; the input reads as it did. -/
def reconAnyUptoRow : OpenClaim := { program := "ytelcllhibpnneaagreat", sum := "774516db9366f0ca1a7d4c73a850e366085fca264cd7c1b93fa4e4a4f019ad5c", func := "gambrel/gambrellaw12.ReconAny", spec := "reconAny", inPlace := ["sync/atomic.LoadUint32", "(*internal/sync.Mutex).Lock", "internal/race.Disable", "sync/atomic.CompareAndSwapInt32", "internal/race.Enable", "internal/race.Acquire", "(*internal/sync.Mutex).lockSlow", "internal/sync.runtime_canSpin", "internal/sync.runtime_doSpin", "internal/sync.throw", "internal/sync.runtime_nanotime", "internal/sync.runtime_SemacquireMutex", "sync/atomic.AddInt32", "(*internal/sync.Mutex).Unlock", "internal/race.ReleaseMerge", "(*internal/sync.Mutex).unlockSlow", "internal/sync.fatal", "internal/sync.runtime_Semrelease", "sync/atomic.StoreUint32"], unfollowed := true, recurses := true, apart := false, narrowed := true }
def ReconAnyUptoSaid : Prop := reconAnyUptoRow.holds Tryz.pinned (OpenSpec.upto reconAnySpec)

/-- 'gambrellaw12.ReconFew', WHERE WHAT IT READS IS OF BULK AT MOST 1048576: true; the input reads as it did. -/
def reconFewUptoRow : OpenClaim := { program := "ytelcllhibpnneaagreat", sum := "774516db9366f0ca1a7d4c73a850e366085fca264cd7c1b93fa4e4a4f019ad5c", func := "gambrel/gambrellaw12.ReconFew", spec := "reconFew", inPlace := ["sync/atomic.LoadUint32", "(*internal/sync.Mutex).Lock", "internal/race.Disable", "sync/atomic.CompareAndSwapInt32", "internal/race.Enable", "internal/race.Acquire", "(*internal/sync.Mutex).lockSlow", "internal/sync.runtime_canSpin", "internal/sync.runtime_doSpin", "internal/sync.throw", "internal/sync.runtime_nanotime", "internal/sync.runtime_SemacquireMutex", "sync/atomic.AddInt32", "(*internal/sync.Mutex).Unlock", "internal/race.ReleaseMerge", "(*internal/sync.Mutex).unlockSlow", "internal/sync.fatal", "internal/sync.runtime_Semrelease", "sync/atomic.StoreUint32"], unfollowed := true, recurses := true, apart := false, narrowed := true }
def ReconFewUptoSaid : Prop := reconFewUptoRow.holds Tryz.pinned (OpenSpec.upto reconFewSpec)

/-- 'gambrellaw12.ReconChanges', WHERE WHAT IT READS IS OF BULK AT MOST 1048576: true; the input reads as it did. -/
def reconChangesUptoRow : OpenClaim := { program := "ytelcllhibpnneaagreat", sum := "774516db9366f0ca1a7d4c73a850e366085fca264cd7c1b93fa4e4a4f019ad5c", func := "gambrel/gambrellaw12.ReconChanges", spec := "reconChanges", inPlace := ["sync/atomic.LoadUint32", "(*internal/sync.Mutex).Lock", "internal/race.Disable", "sync/atomic.CompareAndSwapInt32", "internal/race.Enable", "internal/race.Acquire", "(*internal/sync.Mutex).lockSlow", "internal/sync.runtime_canSpin", "internal/sync.runtime_doSpin", "internal/sync.throw", "internal/sync.runtime_nanotime", "internal/sync.runtime_SemacquireMutex", "sync/atomic.AddInt32", "(*internal/sync.Mutex).Unlock", "internal/race.ReleaseMerge", "(*internal/sync.Mutex).unlockSlow", "internal/sync.fatal", "internal/sync.runtime_Semrelease", "sync/atomic.StoreUint32"], unfollowed := true, recurses := true, apart := false, narrowed := true }
def ReconChangesUptoSaid : Prop := reconChangesUptoRow.holds Tryz.pinned (OpenSpec.upto reconChangesSpec)

end Rows
end Go.Proofs.YtelcllhibpnneaaGreat

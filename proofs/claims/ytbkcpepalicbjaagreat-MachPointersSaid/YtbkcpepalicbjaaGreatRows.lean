/-
  No cell of these rows narrows 'for every input' (looked for: loops, veiled, ifaces, maps, wideKeys, modest, calm, conditions, laid).
  DERIVED. THE GIVEN ROWS OF THIS SEAT. 16 by the template 'for every input the law returns true; each argument reads behind the call as it read before'; 0 by the template 'total and deterministic' (their statements: YtbkcpepalicbjaaGreatTotals.lean).
  GIVEN WITH THE SEED: the statements are not yours to turn. If you find one false, say at which input.
  Laid BY PROGRAM, IN A SANDBOX (cutbox-rows.mjs): the forced cells as the released guide's own fill.sh prints them over the translation 65beef5df8357109… (all of the seat's roots in one cut). By AI agents, Wed Nov 11 2026. No macro, syntax, notation, axiom, sorry.
-/
import Derived.Test.YtbkcpepalicbjaaGreatChecked
import GoSem.Claim
import GoSem.ClaimJoined
import GoSem.ClaimMapViews
import Derived.JoinedTies
import Derived.KernelRfl
namespace Go.Proofs.YtbkcpepalicbjaaGreat
/- THE CELL 'sum', in the pinned program and in every row, IS THE sha256 OF THE DUMP (.gsa) THAT YtbkcpepalicbjaaGreatProg.lean LOADS. Nothing in Lean hashes anything: it is a label: what it is worth is what the hold of that sum in a sandbox is worth. -/
noncomputable def Tryz.pinned : Pinned := { name := "ytbkcpepalicbjaagreat", sum := "65beef5df8357109307c3ecd31675b78f3a271dca0bc9d91ac5b808fc77859cb", checked := Tryz.checked }
namespace Rows
def none {H : Type} : Left H := { results := [], args := [] }

/-- 'warrantlaw08.MachAlu': WHATEVER THE INPUT: true; the input reads as it did. -/
def machAluSpec : ChangeSpec := { name := "machAlu", fn := fun _ => fun
  | [d1, d2] => { results := [.lit (.bool true)], args := [d1, d2] }
  | _ => none }
def machAluRow : OpenClaim := { program := "ytbkcpepalicbjaagreat", sum := "65beef5df8357109307c3ecd31675b78f3a271dca0bc9d91ac5b808fc77859cb", func := "warrant/warrantlaw08.MachAlu", spec := "machAlu", inPlace := ["sync/atomic.LoadUint32", "(*internal/sync.Mutex).Lock", "internal/race.Disable", "sync/atomic.CompareAndSwapInt32", "internal/race.Enable", "internal/race.Acquire", "(*internal/sync.Mutex).lockSlow", "internal/sync.runtime_canSpin", "internal/sync.runtime_doSpin", "internal/sync.throw", "internal/sync.runtime_nanotime", "internal/sync.runtime_SemacquireMutex", "sync/atomic.AddInt32", "(*internal/sync.Mutex).Unlock", "internal/race.ReleaseMerge", "(*internal/sync.Mutex).unlockSlow", "internal/sync.fatal", "internal/sync.runtime_Semrelease", "sync/atomic.StoreUint32", "internal/bytealg.Compare", "internal/bytealg.IndexByte"], unfollowed := true, recurses := true, apart := false }
def MachAluSaid : Prop := machAluRow.holds Tryz.pinned (OpenSpec.ofChange machAluSpec)

/-- ITS FALSE NEIGHBOUR: 'it returns false'. Refute it at one input. -/
def machAluWrong : ChangeSpec := { name := "machAlu", fn := fun _ => fun
  | [d1, d2] => { results := [.lit (.bool false)], args := [d1, d2] }
  | _ => none }
def MachAluWrongFalsely : Prop := machAluRow.holds Tryz.pinned (OpenSpec.ofChange machAluWrong)

/-- 'warrantlaw08.MachParts': WHATEVER THE INPUT: true; the input reads as it did. -/
def machPartsSpec : ChangeSpec := { name := "machParts", fn := fun _ => fun
  | [d1, d2] => { results := [.lit (.bool true)], args := [d1, d2] }
  | _ => none }
def machPartsRow : OpenClaim := { program := "ytbkcpepalicbjaagreat", sum := "65beef5df8357109307c3ecd31675b78f3a271dca0bc9d91ac5b808fc77859cb", func := "warrant/warrantlaw08.MachParts", spec := "machParts", inPlace := ["sync/atomic.LoadUint32", "(*internal/sync.Mutex).Lock", "internal/race.Disable", "sync/atomic.CompareAndSwapInt32", "internal/race.Enable", "internal/race.Acquire", "(*internal/sync.Mutex).lockSlow", "internal/sync.runtime_canSpin", "internal/sync.runtime_doSpin", "internal/sync.throw", "internal/sync.runtime_nanotime", "internal/sync.runtime_SemacquireMutex", "sync/atomic.AddInt32", "(*internal/sync.Mutex).Unlock", "internal/race.ReleaseMerge", "(*internal/sync.Mutex).unlockSlow", "internal/sync.fatal", "internal/sync.runtime_Semrelease", "sync/atomic.StoreUint32", "internal/bytealg.Compare", "internal/bytealg.IndexByte"], unfollowed := true, recurses := true, apart := false }
def MachPartsSaid : Prop := machPartsRow.holds Tryz.pinned (OpenSpec.ofChange machPartsSpec)

/-- ITS FALSE NEIGHBOUR: 'it returns false'. Refute it at one input. -/
def machPartsWrong : ChangeSpec := { name := "machParts", fn := fun _ => fun
  | [d1, d2] => { results := [.lit (.bool false)], args := [d1, d2] }
  | _ => none }
def MachPartsWrongFalsely : Prop := machPartsRow.holds Tryz.pinned (OpenSpec.ofChange machPartsWrong)

/-- 'warrantlaw08.MachMemory': WHATEVER THE INPUT: true; the input reads as it did. -/
def machMemorySpec : ChangeSpec := { name := "machMemory", fn := fun _ => fun
  | [d1, d2, d3, d4, d5] => { results := [.lit (.bool true)], args := [d1, d2, d3, d4, d5] }
  | _ => none }
def machMemoryRow : OpenClaim := { program := "ytbkcpepalicbjaagreat", sum := "65beef5df8357109307c3ecd31675b78f3a271dca0bc9d91ac5b808fc77859cb", func := "warrant/warrantlaw08.MachMemory", spec := "machMemory", inPlace := ["sync/atomic.LoadUint32", "(*internal/sync.Mutex).Lock", "internal/race.Disable", "sync/atomic.CompareAndSwapInt32", "internal/race.Enable", "internal/race.Acquire", "(*internal/sync.Mutex).lockSlow", "internal/sync.runtime_canSpin", "internal/sync.runtime_doSpin", "internal/sync.throw", "internal/sync.runtime_nanotime", "internal/sync.runtime_SemacquireMutex", "sync/atomic.AddInt32", "(*internal/sync.Mutex).Unlock", "internal/race.ReleaseMerge", "(*internal/sync.Mutex).unlockSlow", "internal/sync.fatal", "internal/sync.runtime_Semrelease", "sync/atomic.StoreUint32", "internal/bytealg.Compare", "internal/bytealg.IndexByte"], unfollowed := true, recurses := true, apart := false }
def MachMemorySaid : Prop := machMemoryRow.holds Tryz.pinned (OpenSpec.ofChange machMemorySpec)

/-- ITS FALSE NEIGHBOUR: 'it returns false'. Refute it at one input. -/
def machMemoryWrong : ChangeSpec := { name := "machMemory", fn := fun _ => fun
  | [d1, d2, d3, d4, d5] => { results := [.lit (.bool false)], args := [d1, d2, d3, d4, d5] }
  | _ => none }
def MachMemoryWrongFalsely : Prop := machMemoryRow.holds Tryz.pinned (OpenSpec.ofChange machMemoryWrong)

/-- 'warrantlaw08.MachAtoms': WHATEVER THE INPUT: true; the input reads as it did. -/
def machAtomsSpec : ChangeSpec := { name := "machAtoms", fn := fun _ => fun
  | [d1, d2, d3] => { results := [.lit (.bool true)], args := [d1, d2, d3] }
  | _ => none }
def machAtomsRow : OpenClaim := { program := "ytbkcpepalicbjaagreat", sum := "65beef5df8357109307c3ecd31675b78f3a271dca0bc9d91ac5b808fc77859cb", func := "warrant/warrantlaw08.MachAtoms", spec := "machAtoms", inPlace := ["sync/atomic.LoadUint32", "(*internal/sync.Mutex).Lock", "internal/race.Disable", "sync/atomic.CompareAndSwapInt32", "internal/race.Enable", "internal/race.Acquire", "(*internal/sync.Mutex).lockSlow", "internal/sync.runtime_canSpin", "internal/sync.runtime_doSpin", "internal/sync.throw", "internal/sync.runtime_nanotime", "internal/sync.runtime_SemacquireMutex", "sync/atomic.AddInt32", "(*internal/sync.Mutex).Unlock", "internal/race.ReleaseMerge", "(*internal/sync.Mutex).unlockSlow", "internal/sync.fatal", "internal/sync.runtime_Semrelease", "sync/atomic.StoreUint32", "internal/bytealg.Compare", "internal/bytealg.IndexByte"], unfollowed := true, recurses := true, apart := false }
def MachAtomsSaid : Prop := machAtomsRow.holds Tryz.pinned (OpenSpec.ofChange machAtomsSpec)

/-- ITS FALSE NEIGHBOUR: 'it returns false'. Refute it at one input. -/
def machAtomsWrong : ChangeSpec := { name := "machAtoms", fn := fun _ => fun
  | [d1, d2, d3] => { results := [.lit (.bool false)], args := [d1, d2, d3] }
  | _ => none }
def MachAtomsWrongFalsely : Prop := machAtomsRow.holds Tryz.pinned (OpenSpec.ofChange machAtomsWrong)

/-- 'warrantlaw08.MachSends': WHATEVER THE INPUT: true; the input reads as it did. -/
def machSendsSpec : ChangeSpec := { name := "machSends", fn := fun _ => fun
  | [d1, d2] => { results := [.lit (.bool true)], args := [d1, d2] }
  | _ => none }
def machSendsRow : OpenClaim := { program := "ytbkcpepalicbjaagreat", sum := "65beef5df8357109307c3ecd31675b78f3a271dca0bc9d91ac5b808fc77859cb", func := "warrant/warrantlaw08.MachSends", spec := "machSends", inPlace := ["sync/atomic.LoadUint32", "(*internal/sync.Mutex).Lock", "internal/race.Disable", "sync/atomic.CompareAndSwapInt32", "internal/race.Enable", "internal/race.Acquire", "(*internal/sync.Mutex).lockSlow", "internal/sync.runtime_canSpin", "internal/sync.runtime_doSpin", "internal/sync.throw", "internal/sync.runtime_nanotime", "internal/sync.runtime_SemacquireMutex", "sync/atomic.AddInt32", "(*internal/sync.Mutex).Unlock", "internal/race.ReleaseMerge", "(*internal/sync.Mutex).unlockSlow", "internal/sync.fatal", "internal/sync.runtime_Semrelease", "sync/atomic.StoreUint32", "internal/bytealg.Compare", "internal/bytealg.IndexByte"], unfollowed := true, recurses := true, apart := false }
def MachSendsSaid : Prop := machSendsRow.holds Tryz.pinned (OpenSpec.ofChange machSendsSpec)

/-- ITS FALSE NEIGHBOUR: 'it returns false'. Refute it at one input. -/
def machSendsWrong : ChangeSpec := { name := "machSends", fn := fun _ => fun
  | [d1, d2] => { results := [.lit (.bool false)], args := [d1, d2] }
  | _ => none }
def MachSendsWrongFalsely : Prop := machSendsRow.holds Tryz.pinned (OpenSpec.ofChange machSendsWrong)

/-- 'warrantlaw08.MachOffsets': WHATEVER THE INPUT: true; the input reads as it did. -/
def machOffsetsSpec : ChangeSpec := { name := "machOffsets", fn := fun _ => fun
  | [d1, d2] => { results := [.lit (.bool true)], args := [d1, d2] }
  | _ => none }
def machOffsetsRow : OpenClaim := { program := "ytbkcpepalicbjaagreat", sum := "65beef5df8357109307c3ecd31675b78f3a271dca0bc9d91ac5b808fc77859cb", func := "warrant/warrantlaw08.MachOffsets", spec := "machOffsets", inPlace := ["sync/atomic.LoadUint32", "(*internal/sync.Mutex).Lock", "internal/race.Disable", "sync/atomic.CompareAndSwapInt32", "internal/race.Enable", "internal/race.Acquire", "(*internal/sync.Mutex).lockSlow", "internal/sync.runtime_canSpin", "internal/sync.runtime_doSpin", "internal/sync.throw", "internal/sync.runtime_nanotime", "internal/sync.runtime_SemacquireMutex", "sync/atomic.AddInt32", "(*internal/sync.Mutex).Unlock", "internal/race.ReleaseMerge", "(*internal/sync.Mutex).unlockSlow", "internal/sync.fatal", "internal/sync.runtime_Semrelease", "sync/atomic.StoreUint32", "internal/bytealg.Compare", "internal/bytealg.IndexByte"], unfollowed := true, recurses := true, apart := false }
def MachOffsetsSaid : Prop := machOffsetsRow.holds Tryz.pinned (OpenSpec.ofChange machOffsetsSpec)

/-- ITS FALSE NEIGHBOUR: 'it returns false'. Refute it at one input. -/
def machOffsetsWrong : ChangeSpec := { name := "machOffsets", fn := fun _ => fun
  | [d1, d2] => { results := [.lit (.bool false)], args := [d1, d2] }
  | _ => none }
def MachOffsetsWrongFalsely : Prop := machOffsetsRow.holds Tryz.pinned (OpenSpec.ofChange machOffsetsWrong)

/-- 'warrantlaw08.MachPointers': WHATEVER THE INPUT: true; the input reads as it did. -/
def machPointersSpec : ChangeSpec := { name := "machPointers", fn := fun _ => fun
  | [d1, d2, d3, d4] => { results := [.lit (.bool true)], args := [d1, d2, d3, d4] }
  | _ => none }
def machPointersRow : OpenClaim := { program := "ytbkcpepalicbjaagreat", sum := "65beef5df8357109307c3ecd31675b78f3a271dca0bc9d91ac5b808fc77859cb", func := "warrant/warrantlaw08.MachPointers", spec := "machPointers", inPlace := ["sync/atomic.LoadUint32", "(*internal/sync.Mutex).Lock", "internal/race.Disable", "sync/atomic.CompareAndSwapInt32", "internal/race.Enable", "internal/race.Acquire", "(*internal/sync.Mutex).lockSlow", "internal/sync.runtime_canSpin", "internal/sync.runtime_doSpin", "internal/sync.throw", "internal/sync.runtime_nanotime", "internal/sync.runtime_SemacquireMutex", "sync/atomic.AddInt32", "(*internal/sync.Mutex).Unlock", "internal/race.ReleaseMerge", "(*internal/sync.Mutex).unlockSlow", "internal/sync.fatal", "internal/sync.runtime_Semrelease", "sync/atomic.StoreUint32", "internal/bytealg.Compare", "internal/bytealg.IndexByte"], unfollowed := true, recurses := true, apart := false }
def MachPointersSaid : Prop := machPointersRow.holds Tryz.pinned (OpenSpec.ofChange machPointersSpec)

/-- ITS FALSE NEIGHBOUR: 'it returns false'. Refute it at one input. -/
def machPointersWrong : ChangeSpec := { name := "machPointers", fn := fun _ => fun
  | [d1, d2, d3, d4] => { results := [.lit (.bool false)], args := [d1, d2, d3, d4] }
  | _ => none }
def MachPointersWrongFalsely : Prop := machPointersRow.holds Tryz.pinned (OpenSpec.ofChange machPointersWrong)

/-- 'warrantlaw08.MachHelps': WHATEVER THE INPUT: true; the input reads as it did. -/
def machHelpsSpec : ChangeSpec := { name := "machHelps", fn := fun _ => fun
  | [d1, d2, d3, d4, d5] => { results := [.lit (.bool true)], args := [d1, d2, d3, d4, d5] }
  | _ => none }
def machHelpsRow : OpenClaim := { program := "ytbkcpepalicbjaagreat", sum := "65beef5df8357109307c3ecd31675b78f3a271dca0bc9d91ac5b808fc77859cb", func := "warrant/warrantlaw08.MachHelps", spec := "machHelps", inPlace := ["sync/atomic.LoadUint32", "(*internal/sync.Mutex).Lock", "internal/race.Disable", "sync/atomic.CompareAndSwapInt32", "internal/race.Enable", "internal/race.Acquire", "(*internal/sync.Mutex).lockSlow", "internal/sync.runtime_canSpin", "internal/sync.runtime_doSpin", "internal/sync.throw", "internal/sync.runtime_nanotime", "internal/sync.runtime_SemacquireMutex", "sync/atomic.AddInt32", "(*internal/sync.Mutex).Unlock", "internal/race.ReleaseMerge", "(*internal/sync.Mutex).unlockSlow", "internal/sync.fatal", "internal/sync.runtime_Semrelease", "sync/atomic.StoreUint32", "internal/bytealg.Compare", "internal/bytealg.IndexByte"], unfollowed := true, recurses := true, apart := false }
def MachHelpsSaid : Prop := machHelpsRow.holds Tryz.pinned (OpenSpec.ofChange machHelpsSpec)

/-- ITS FALSE NEIGHBOUR: 'it returns false'. Refute it at one input. -/
def machHelpsWrong : ChangeSpec := { name := "machHelps", fn := fun _ => fun
  | [d1, d2, d3, d4, d5] => { results := [.lit (.bool false)], args := [d1, d2, d3, d4, d5] }
  | _ => none }
def MachHelpsWrongFalsely : Prop := machHelpsRow.holds Tryz.pinned (OpenSpec.ofChange machHelpsWrong)

/-- 'warrantlaw08.MachRuns': WHATEVER THE INPUT: true; the input reads as it did. -/
def machRunsSpec : ChangeSpec := { name := "machRuns", fn := fun _ => fun
  | [d1, d2, d3] => { results := [.lit (.bool true)], args := [d1, d2, d3] }
  | _ => none }
def machRunsRow : OpenClaim := { program := "ytbkcpepalicbjaagreat", sum := "65beef5df8357109307c3ecd31675b78f3a271dca0bc9d91ac5b808fc77859cb", func := "warrant/warrantlaw08.MachRuns", spec := "machRuns", inPlace := ["sync/atomic.LoadUint32", "(*internal/sync.Mutex).Lock", "internal/race.Disable", "sync/atomic.CompareAndSwapInt32", "internal/race.Enable", "internal/race.Acquire", "(*internal/sync.Mutex).lockSlow", "internal/sync.runtime_canSpin", "internal/sync.runtime_doSpin", "internal/sync.throw", "internal/sync.runtime_nanotime", "internal/sync.runtime_SemacquireMutex", "sync/atomic.AddInt32", "(*internal/sync.Mutex).Unlock", "internal/race.ReleaseMerge", "(*internal/sync.Mutex).unlockSlow", "internal/sync.fatal", "internal/sync.runtime_Semrelease", "sync/atomic.StoreUint32", "internal/bytealg.Compare", "internal/bytealg.IndexByte"], unfollowed := true, recurses := true, apart := false }
def MachRunsSaid : Prop := machRunsRow.holds Tryz.pinned (OpenSpec.ofChange machRunsSpec)

/-- ITS FALSE NEIGHBOUR: 'it returns false'. Refute it at one input. -/
def machRunsWrong : ChangeSpec := { name := "machRuns", fn := fun _ => fun
  | [d1, d2, d3] => { results := [.lit (.bool false)], args := [d1, d2, d3] }
  | _ => none }
def MachRunsWrongFalsely : Prop := machRunsRow.holds Tryz.pinned (OpenSpec.ofChange machRunsWrong)

/-- 'warrantlaw08.MachSteps': WHATEVER THE INPUT: true; the input reads as it did. -/
def machStepsSpec : ChangeSpec := { name := "machSteps", fn := fun _ => fun
  | [d1, d2, d3] => { results := [.lit (.bool true)], args := [d1, d2, d3] }
  | _ => none }
def machStepsRow : OpenClaim := { program := "ytbkcpepalicbjaagreat", sum := "65beef5df8357109307c3ecd31675b78f3a271dca0bc9d91ac5b808fc77859cb", func := "warrant/warrantlaw08.MachSteps", spec := "machSteps", inPlace := ["sync/atomic.LoadUint32", "(*internal/sync.Mutex).Lock", "internal/race.Disable", "sync/atomic.CompareAndSwapInt32", "internal/race.Enable", "internal/race.Acquire", "(*internal/sync.Mutex).lockSlow", "internal/sync.runtime_canSpin", "internal/sync.runtime_doSpin", "internal/sync.throw", "internal/sync.runtime_nanotime", "internal/sync.runtime_SemacquireMutex", "sync/atomic.AddInt32", "(*internal/sync.Mutex).Unlock", "internal/race.ReleaseMerge", "(*internal/sync.Mutex).unlockSlow", "internal/sync.fatal", "internal/sync.runtime_Semrelease", "sync/atomic.StoreUint32", "internal/bytealg.Compare", "internal/bytealg.IndexByte"], unfollowed := true, recurses := true, apart := false }
def MachStepsSaid : Prop := machStepsRow.holds Tryz.pinned (OpenSpec.ofChange machStepsSpec)

/-- ITS FALSE NEIGHBOUR: 'it returns false'. Refute it at one input. -/
def machStepsWrong : ChangeSpec := { name := "machSteps", fn := fun _ => fun
  | [d1, d2, d3] => { results := [.lit (.bool false)], args := [d1, d2, d3] }
  | _ => none }
def MachStepsWrongFalsely : Prop := machStepsRow.holds Tryz.pinned (OpenSpec.ofChange machStepsWrong)

/-- 'warrantlaw08.MachNews': WHATEVER THE INPUT: true; the input reads as it did. -/
def machNewsSpec : ChangeSpec := { name := "machNews", fn := fun _ => fun
  | [d1, d2, d3, d4] => { results := [.lit (.bool true)], args := [d1, d2, d3, d4] }
  | _ => none }
def machNewsRow : OpenClaim := { program := "ytbkcpepalicbjaagreat", sum := "65beef5df8357109307c3ecd31675b78f3a271dca0bc9d91ac5b808fc77859cb", func := "warrant/warrantlaw08.MachNews", spec := "machNews", inPlace := ["sync/atomic.LoadUint32", "(*internal/sync.Mutex).Lock", "internal/race.Disable", "sync/atomic.CompareAndSwapInt32", "internal/race.Enable", "internal/race.Acquire", "(*internal/sync.Mutex).lockSlow", "internal/sync.runtime_canSpin", "internal/sync.runtime_doSpin", "internal/sync.throw", "internal/sync.runtime_nanotime", "internal/sync.runtime_SemacquireMutex", "sync/atomic.AddInt32", "(*internal/sync.Mutex).Unlock", "internal/race.ReleaseMerge", "(*internal/sync.Mutex).unlockSlow", "internal/sync.fatal", "internal/sync.runtime_Semrelease", "sync/atomic.StoreUint32", "internal/bytealg.Compare", "internal/bytealg.IndexByte"], unfollowed := true, recurses := true, apart := false }
def MachNewsSaid : Prop := machNewsRow.holds Tryz.pinned (OpenSpec.ofChange machNewsSpec)

/-- ITS FALSE NEIGHBOUR: 'it returns false'. Refute it at one input. -/
def machNewsWrong : ChangeSpec := { name := "machNews", fn := fun _ => fun
  | [d1, d2, d3, d4] => { results := [.lit (.bool false)], args := [d1, d2, d3, d4] }
  | _ => none }
def MachNewsWrongFalsely : Prop := machNewsRow.holds Tryz.pinned (OpenSpec.ofChange machNewsWrong)

/-- 'warrantlaw08.MachSplits': WHATEVER THE INPUT: true; the input reads as it did. -/
def machSplitsSpec : ChangeSpec := { name := "machSplits", fn := fun _ => fun
  | [d1, d2, d3, d4] => { results := [.lit (.bool true)], args := [d1, d2, d3, d4] }
  | _ => none }
def machSplitsRow : OpenClaim := { program := "ytbkcpepalicbjaagreat", sum := "65beef5df8357109307c3ecd31675b78f3a271dca0bc9d91ac5b808fc77859cb", func := "warrant/warrantlaw08.MachSplits", spec := "machSplits", inPlace := ["sync/atomic.LoadUint32", "(*internal/sync.Mutex).Lock", "internal/race.Disable", "sync/atomic.CompareAndSwapInt32", "internal/race.Enable", "internal/race.Acquire", "(*internal/sync.Mutex).lockSlow", "internal/sync.runtime_canSpin", "internal/sync.runtime_doSpin", "internal/sync.throw", "internal/sync.runtime_nanotime", "internal/sync.runtime_SemacquireMutex", "sync/atomic.AddInt32", "(*internal/sync.Mutex).Unlock", "internal/race.ReleaseMerge", "(*internal/sync.Mutex).unlockSlow", "internal/sync.fatal", "internal/sync.runtime_Semrelease", "sync/atomic.StoreUint32", "internal/bytealg.Compare", "internal/bytealg.IndexByte"], unfollowed := true, recurses := true, apart := false }
def MachSplitsSaid : Prop := machSplitsRow.holds Tryz.pinned (OpenSpec.ofChange machSplitsSpec)

/-- ITS FALSE NEIGHBOUR: 'it returns false'. Refute it at one input. -/
def machSplitsWrong : ChangeSpec := { name := "machSplits", fn := fun _ => fun
  | [d1, d2, d3, d4] => { results := [.lit (.bool false)], args := [d1, d2, d3, d4] }
  | _ => none }
def MachSplitsWrongFalsely : Prop := machSplitsRow.holds Tryz.pinned (OpenSpec.ofChange machSplitsWrong)

/-- 'warrantlaw08.MachApart': WHATEVER THE INPUT: true; the input reads as it did. -/
def machApartSpec : ChangeSpec := { name := "machApart", fn := fun _ => fun
  | [d1, d2, d3, d4] => { results := [.lit (.bool true)], args := [d1, d2, d3, d4] }
  | _ => none }
def machApartRow : OpenClaim := { program := "ytbkcpepalicbjaagreat", sum := "65beef5df8357109307c3ecd31675b78f3a271dca0bc9d91ac5b808fc77859cb", func := "warrant/warrantlaw08.MachApart", spec := "machApart", inPlace := ["sync/atomic.LoadUint32", "(*internal/sync.Mutex).Lock", "internal/race.Disable", "sync/atomic.CompareAndSwapInt32", "internal/race.Enable", "internal/race.Acquire", "(*internal/sync.Mutex).lockSlow", "internal/sync.runtime_canSpin", "internal/sync.runtime_doSpin", "internal/sync.throw", "internal/sync.runtime_nanotime", "internal/sync.runtime_SemacquireMutex", "sync/atomic.AddInt32", "(*internal/sync.Mutex).Unlock", "internal/race.ReleaseMerge", "(*internal/sync.Mutex).unlockSlow", "internal/sync.fatal", "internal/sync.runtime_Semrelease", "sync/atomic.StoreUint32", "internal/bytealg.Compare", "internal/bytealg.IndexByte"], unfollowed := true, recurses := true, apart := false }
def MachApartSaid : Prop := machApartRow.holds Tryz.pinned (OpenSpec.ofChange machApartSpec)

/-- ITS FALSE NEIGHBOUR: 'it returns false'. Refute it at one input. -/
def machApartWrong : ChangeSpec := { name := "machApart", fn := fun _ => fun
  | [d1, d2, d3, d4] => { results := [.lit (.bool false)], args := [d1, d2, d3, d4] }
  | _ => none }
def MachApartWrongFalsely : Prop := machApartRow.holds Tryz.pinned (OpenSpec.ofChange machApartWrong)

/-- 'warrantlaw08.MachOutput': WHATEVER THE INPUT: true; the input reads as it did. -/
def machOutputSpec : ChangeSpec := { name := "machOutput", fn := fun _ => fun
  | [d1, d2] => { results := [.lit (.bool true)], args := [d1, d2] }
  | _ => none }
def machOutputRow : OpenClaim := { program := "ytbkcpepalicbjaagreat", sum := "65beef5df8357109307c3ecd31675b78f3a271dca0bc9d91ac5b808fc77859cb", func := "warrant/warrantlaw08.MachOutput", spec := "machOutput", inPlace := ["sync/atomic.LoadUint32", "(*internal/sync.Mutex).Lock", "internal/race.Disable", "sync/atomic.CompareAndSwapInt32", "internal/race.Enable", "internal/race.Acquire", "(*internal/sync.Mutex).lockSlow", "internal/sync.runtime_canSpin", "internal/sync.runtime_doSpin", "internal/sync.throw", "internal/sync.runtime_nanotime", "internal/sync.runtime_SemacquireMutex", "sync/atomic.AddInt32", "(*internal/sync.Mutex).Unlock", "internal/race.ReleaseMerge", "(*internal/sync.Mutex).unlockSlow", "internal/sync.fatal", "internal/sync.runtime_Semrelease", "sync/atomic.StoreUint32", "internal/bytealg.Compare", "internal/bytealg.IndexByte"], unfollowed := true, recurses := true, apart := false }
def MachOutputSaid : Prop := machOutputRow.holds Tryz.pinned (OpenSpec.ofChange machOutputSpec)

/-- ITS FALSE NEIGHBOUR: 'it returns false'. Refute it at one input. -/
def machOutputWrong : ChangeSpec := { name := "machOutput", fn := fun _ => fun
  | [d1, d2] => { results := [.lit (.bool false)], args := [d1, d2] }
  | _ => none }
def MachOutputWrongFalsely : Prop := machOutputRow.holds Tryz.pinned (OpenSpec.ofChange machOutputWrong)

/-- 'warrantlaw08.MachJumps': WHATEVER THE INPUT: true; the input reads as it did. -/
def machJumpsSpec : ChangeSpec := { name := "machJumps", fn := fun _ => fun
  | [d1, d2] => { results := [.lit (.bool true)], args := [d1, d2] }
  | _ => none }
def machJumpsRow : OpenClaim := { program := "ytbkcpepalicbjaagreat", sum := "65beef5df8357109307c3ecd31675b78f3a271dca0bc9d91ac5b808fc77859cb", func := "warrant/warrantlaw08.MachJumps", spec := "machJumps", inPlace := ["sync/atomic.LoadUint32", "(*internal/sync.Mutex).Lock", "internal/race.Disable", "sync/atomic.CompareAndSwapInt32", "internal/race.Enable", "internal/race.Acquire", "(*internal/sync.Mutex).lockSlow", "internal/sync.runtime_canSpin", "internal/sync.runtime_doSpin", "internal/sync.throw", "internal/sync.runtime_nanotime", "internal/sync.runtime_SemacquireMutex", "sync/atomic.AddInt32", "(*internal/sync.Mutex).Unlock", "internal/race.ReleaseMerge", "(*internal/sync.Mutex).unlockSlow", "internal/sync.fatal", "internal/sync.runtime_Semrelease", "sync/atomic.StoreUint32", "internal/bytealg.Compare", "internal/bytealg.IndexByte"], unfollowed := true, recurses := true, apart := false }
def MachJumpsSaid : Prop := machJumpsRow.holds Tryz.pinned (OpenSpec.ofChange machJumpsSpec)

/-- ITS FALSE NEIGHBOUR: 'it returns false'. Refute it at one input. -/
def machJumpsWrong : ChangeSpec := { name := "machJumps", fn := fun _ => fun
  | [d1, d2] => { results := [.lit (.bool false)], args := [d1, d2] }
  | _ => none }
def MachJumpsWrongFalsely : Prop := machJumpsRow.holds Tryz.pinned (OpenSpec.ofChange machJumpsWrong)

/-- 'warrantlaw08.MachSums': WHATEVER THE INPUT: true; the input reads as it did. -/
def machSumsSpec : ChangeSpec := { name := "machSums", fn := fun _ => fun
  | [d] => { results := [.lit (.bool true)], args := [d] }
  | _ => none }
def machSumsRow : OpenClaim := { program := "ytbkcpepalicbjaagreat", sum := "65beef5df8357109307c3ecd31675b78f3a271dca0bc9d91ac5b808fc77859cb", func := "warrant/warrantlaw08.MachSums", spec := "machSums", inPlace := ["sync/atomic.LoadUint32", "(*internal/sync.Mutex).Lock", "internal/race.Disable", "sync/atomic.CompareAndSwapInt32", "internal/race.Enable", "internal/race.Acquire", "(*internal/sync.Mutex).lockSlow", "internal/sync.runtime_canSpin", "internal/sync.runtime_doSpin", "internal/sync.throw", "internal/sync.runtime_nanotime", "internal/sync.runtime_SemacquireMutex", "sync/atomic.AddInt32", "(*internal/sync.Mutex).Unlock", "internal/race.ReleaseMerge", "(*internal/sync.Mutex).unlockSlow", "internal/sync.fatal", "internal/sync.runtime_Semrelease", "sync/atomic.StoreUint32", "internal/bytealg.Compare", "internal/bytealg.IndexByte"], unfollowed := true, recurses := true, apart := false }
def MachSumsSaid : Prop := machSumsRow.holds Tryz.pinned (OpenSpec.ofChange machSumsSpec)

/-- ITS FALSE NEIGHBOUR: 'it returns false'. Refute it at one input. -/
def machSumsWrong : ChangeSpec := { name := "machSums", fn := fun _ => fun
  | [d] => { results := [.lit (.bool false)], args := [d] }
  | _ => none }
def MachSumsWrongFalsely : Prop := machSumsRow.holds Tryz.pinned (OpenSpec.ofChange machSumsWrong)

/- THE SECOND FORM. 'bulk': how many values and letters a reading holds, each counted each time it is reached (what is shared counts as often as it is met; a slice's spare places count too). A statement '..UptoSaid' is the law's where the arguments, and the package variables that the reading takes, are together of bulk at most 1048576: NARROWER than '..Said'. Prove '..Said' where nothing that the law and all that it calls make is longer than what came in: it says more and counts as full. Else prove '..UptoSaid'. A law counts once. -/
mutual
def uptoBulk {H : Type} : DataW H → Nat
  | .lit (.string bytes) => bytes.length + 1
  | .lit _ => 1
  | .nil => 1
  | .ptr d => uptoBulk d + 1
  | .slice elems spare => uptoBulkAll elems + uptoBulkAll spare + 1
  | .agg parts => uptoBulkAll parts + 1
  | .iface _ d => uptoBulk d + 1
  | .map entries => uptoBulkEntries entries + 1
  | .held _ => 1
def uptoBulkAll {H : Type} : List (DataW H) → Nat
  | [] => 0
  | d :: r => uptoBulk d + uptoBulkAll r
def uptoBulkEntries {H : Type} : List (Lit × DataW H) → Nat
  | [] => 0
  | x :: r => uptoBulkEntry x + uptoBulkEntries r
def uptoBulkEntry {H : Type} : Lit × DataW H → Nat
  | (.string bytes, d) => bytes.length + uptoBulk d + 1
  | (_, d) => uptoBulk d + 1
 end
def uptoSmall : (H : Type) → List (DataW H) → Bool := fun _ ds => decide (uptoBulkAll ds ≤ 1048576)
def OpenSpec.upto (s : _root_.Go.ChangeSpec) : _root_.Go.OpenSpec := { _root_.Go.OpenSpec.ofChange s with cond := some uptoSmall }

/-- 'warrantlaw08.MachAlu', WHERE WHAT IT READS IS OF BULK AT MOST 1048576: true; the input reads as it did. -/
def machAluUptoRow : OpenClaim := { program := "ytbkcpepalicbjaagreat", sum := "65beef5df8357109307c3ecd31675b78f3a271dca0bc9d91ac5b808fc77859cb", func := "warrant/warrantlaw08.MachAlu", spec := "machAlu", inPlace := ["sync/atomic.LoadUint32", "(*internal/sync.Mutex).Lock", "internal/race.Disable", "sync/atomic.CompareAndSwapInt32", "internal/race.Enable", "internal/race.Acquire", "(*internal/sync.Mutex).lockSlow", "internal/sync.runtime_canSpin", "internal/sync.runtime_doSpin", "internal/sync.throw", "internal/sync.runtime_nanotime", "internal/sync.runtime_SemacquireMutex", "sync/atomic.AddInt32", "(*internal/sync.Mutex).Unlock", "internal/race.ReleaseMerge", "(*internal/sync.Mutex).unlockSlow", "internal/sync.fatal", "internal/sync.runtime_Semrelease", "sync/atomic.StoreUint32", "internal/bytealg.Compare", "internal/bytealg.IndexByte"], unfollowed := true, recurses := true, apart := false, narrowed := true }
def MachAluUptoSaid : Prop := machAluUptoRow.holds Tryz.pinned (OpenSpec.upto machAluSpec)

/-- 'warrantlaw08.MachParts', WHERE WHAT IT READS IS OF BULK AT MOST 1048576: true; the input reads as it did. -/
def machPartsUptoRow : OpenClaim := { program := "ytbkcpepalicbjaagreat", sum := "65beef5df8357109307c3ecd31675b78f3a271dca0bc9d91ac5b808fc77859cb", func := "warrant/warrantlaw08.MachParts", spec := "machParts", inPlace := ["sync/atomic.LoadUint32", "(*internal/sync.Mutex).Lock", "internal/race.Disable", "sync/atomic.CompareAndSwapInt32", "internal/race.Enable", "internal/race.Acquire", "(*internal/sync.Mutex).lockSlow", "internal/sync.runtime_canSpin", "internal/sync.runtime_doSpin", "internal/sync.throw", "internal/sync.runtime_nanotime", "internal/sync.runtime_SemacquireMutex", "sync/atomic.AddInt32", "(*internal/sync.Mutex).Unlock", "internal/race.ReleaseMerge", "(*internal/sync.Mutex).unlockSlow", "internal/sync.fatal", "internal/sync.runtime_Semrelease", "sync/atomic.StoreUint32", "internal/bytealg.Compare", "internal/bytealg.IndexByte"], unfollowed := true, recurses := true, apart := false, narrowed := true }
def MachPartsUptoSaid : Prop := machPartsUptoRow.holds Tryz.pinned (OpenSpec.upto machPartsSpec)

/-- 'warrantlaw08.MachMemory', WHERE WHAT IT READS IS OF BULK AT MOST 1048576: true; the input reads as it did. -/
def machMemoryUptoRow : OpenClaim := { program := "ytbkcpepalicbjaagreat", sum := "65beef5df8357109307c3ecd31675b78f3a271dca0bc9d91ac5b808fc77859cb", func := "warrant/warrantlaw08.MachMemory", spec := "machMemory", inPlace := ["sync/atomic.LoadUint32", "(*internal/sync.Mutex).Lock", "internal/race.Disable", "sync/atomic.CompareAndSwapInt32", "internal/race.Enable", "internal/race.Acquire", "(*internal/sync.Mutex).lockSlow", "internal/sync.runtime_canSpin", "internal/sync.runtime_doSpin", "internal/sync.throw", "internal/sync.runtime_nanotime", "internal/sync.runtime_SemacquireMutex", "sync/atomic.AddInt32", "(*internal/sync.Mutex).Unlock", "internal/race.ReleaseMerge", "(*internal/sync.Mutex).unlockSlow", "internal/sync.fatal", "internal/sync.runtime_Semrelease", "sync/atomic.StoreUint32", "internal/bytealg.Compare", "internal/bytealg.IndexByte"], unfollowed := true, recurses := true, apart := false, narrowed := true }
def MachMemoryUptoSaid : Prop := machMemoryUptoRow.holds Tryz.pinned (OpenSpec.upto machMemorySpec)

/-- 'warrantlaw08.MachAtoms', WHERE WHAT IT READS IS OF BULK AT MOST 1048576: true; the input reads as it did. -/
def machAtomsUptoRow : OpenClaim := { program := "ytbkcpepalicbjaagreat", sum := "65beef5df8357109307c3ecd31675b78f3a271dca0bc9d91ac5b808fc77859cb", func := "warrant/warrantlaw08.MachAtoms", spec := "machAtoms", inPlace := ["sync/atomic.LoadUint32", "(*internal/sync.Mutex).Lock", "internal/race.Disable", "sync/atomic.CompareAndSwapInt32", "internal/race.Enable", "internal/race.Acquire", "(*internal/sync.Mutex).lockSlow", "internal/sync.runtime_canSpin", "internal/sync.runtime_doSpin", "internal/sync.throw", "internal/sync.runtime_nanotime", "internal/sync.runtime_SemacquireMutex", "sync/atomic.AddInt32", "(*internal/sync.Mutex).Unlock", "internal/race.ReleaseMerge", "(*internal/sync.Mutex).unlockSlow", "internal/sync.fatal", "internal/sync.runtime_Semrelease", "sync/atomic.StoreUint32", "internal/bytealg.Compare", "internal/bytealg.IndexByte"], unfollowed := true, recurses := true, apart := false, narrowed := true }
def MachAtomsUptoSaid : Prop := machAtomsUptoRow.holds Tryz.pinned (OpenSpec.upto machAtomsSpec)

/-- 'warrantlaw08.MachSends', WHERE WHAT IT READS IS OF BULK AT MOST 1048576: true; the input reads as it did. -/
def machSendsUptoRow : OpenClaim := { program := "ytbkcpepalicbjaagreat", sum := "65beef5df8357109307c3ecd31675b78f3a271dca0bc9d91ac5b808fc77859cb", func := "warrant/warrantlaw08.MachSends", spec := "machSends", inPlace := ["sync/atomic.LoadUint32", "(*internal/sync.Mutex).Lock", "internal/race.Disable", "sync/atomic.CompareAndSwapInt32", "internal/race.Enable", "internal/race.Acquire", "(*internal/sync.Mutex).lockSlow", "internal/sync.runtime_canSpin", "internal/sync.runtime_doSpin", "internal/sync.throw", "internal/sync.runtime_nanotime", "internal/sync.runtime_SemacquireMutex", "sync/atomic.AddInt32", "(*internal/sync.Mutex).Unlock", "internal/race.ReleaseMerge", "(*internal/sync.Mutex).unlockSlow", "internal/sync.fatal", "internal/sync.runtime_Semrelease", "sync/atomic.StoreUint32", "internal/bytealg.Compare", "internal/bytealg.IndexByte"], unfollowed := true, recurses := true, apart := false, narrowed := true }
def MachSendsUptoSaid : Prop := machSendsUptoRow.holds Tryz.pinned (OpenSpec.upto machSendsSpec)

/-- 'warrantlaw08.MachOffsets', WHERE WHAT IT READS IS OF BULK AT MOST 1048576: true; the input reads as it did. -/
def machOffsetsUptoRow : OpenClaim := { program := "ytbkcpepalicbjaagreat", sum := "65beef5df8357109307c3ecd31675b78f3a271dca0bc9d91ac5b808fc77859cb", func := "warrant/warrantlaw08.MachOffsets", spec := "machOffsets", inPlace := ["sync/atomic.LoadUint32", "(*internal/sync.Mutex).Lock", "internal/race.Disable", "sync/atomic.CompareAndSwapInt32", "internal/race.Enable", "internal/race.Acquire", "(*internal/sync.Mutex).lockSlow", "internal/sync.runtime_canSpin", "internal/sync.runtime_doSpin", "internal/sync.throw", "internal/sync.runtime_nanotime", "internal/sync.runtime_SemacquireMutex", "sync/atomic.AddInt32", "(*internal/sync.Mutex).Unlock", "internal/race.ReleaseMerge", "(*internal/sync.Mutex).unlockSlow", "internal/sync.fatal", "internal/sync.runtime_Semrelease", "sync/atomic.StoreUint32", "internal/bytealg.Compare", "internal/bytealg.IndexByte"], unfollowed := true, recurses := true, apart := false, narrowed := true }
def MachOffsetsUptoSaid : Prop := machOffsetsUptoRow.holds Tryz.pinned (OpenSpec.upto machOffsetsSpec)

/-- 'warrantlaw08.MachPointers', WHERE WHAT IT READS IS OF BULK AT MOST 1048576: true; the input reads as it did. -/
def machPointersUptoRow : OpenClaim := { program := "ytbkcpepalicbjaagreat", sum := "65beef5df8357109307c3ecd31675b78f3a271dca0bc9d91ac5b808fc77859cb", func := "warrant/warrantlaw08.MachPointers", spec := "machPointers", inPlace := ["sync/atomic.LoadUint32", "(*internal/sync.Mutex).Lock", "internal/race.Disable", "sync/atomic.CompareAndSwapInt32", "internal/race.Enable", "internal/race.Acquire", "(*internal/sync.Mutex).lockSlow", "internal/sync.runtime_canSpin", "internal/sync.runtime_doSpin", "internal/sync.throw", "internal/sync.runtime_nanotime", "internal/sync.runtime_SemacquireMutex", "sync/atomic.AddInt32", "(*internal/sync.Mutex).Unlock", "internal/race.ReleaseMerge", "(*internal/sync.Mutex).unlockSlow", "internal/sync.fatal", "internal/sync.runtime_Semrelease", "sync/atomic.StoreUint32", "internal/bytealg.Compare", "internal/bytealg.IndexByte"], unfollowed := true, recurses := true, apart := false, narrowed := true }
def MachPointersUptoSaid : Prop := machPointersUptoRow.holds Tryz.pinned (OpenSpec.upto machPointersSpec)

/-- 'warrantlaw08.MachHelps', WHERE WHAT IT READS IS OF BULK AT MOST 1048576: true; the input reads as it did. -/
def machHelpsUptoRow : OpenClaim := { program := "ytbkcpepalicbjaagreat", sum := "65beef5df8357109307c3ecd31675b78f3a271dca0bc9d91ac5b808fc77859cb", func := "warrant/warrantlaw08.MachHelps", spec := "machHelps", inPlace := ["sync/atomic.LoadUint32", "(*internal/sync.Mutex).Lock", "internal/race.Disable", "sync/atomic.CompareAndSwapInt32", "internal/race.Enable", "internal/race.Acquire", "(*internal/sync.Mutex).lockSlow", "internal/sync.runtime_canSpin", "internal/sync.runtime_doSpin", "internal/sync.throw", "internal/sync.runtime_nanotime", "internal/sync.runtime_SemacquireMutex", "sync/atomic.AddInt32", "(*internal/sync.Mutex).Unlock", "internal/race.ReleaseMerge", "(*internal/sync.Mutex).unlockSlow", "internal/sync.fatal", "internal/sync.runtime_Semrelease", "sync/atomic.StoreUint32", "internal/bytealg.Compare", "internal/bytealg.IndexByte"], unfollowed := true, recurses := true, apart := false, narrowed := true }
def MachHelpsUptoSaid : Prop := machHelpsUptoRow.holds Tryz.pinned (OpenSpec.upto machHelpsSpec)

/-- 'warrantlaw08.MachRuns', WHERE WHAT IT READS IS OF BULK AT MOST 1048576: true; the input reads as it did. -/
def machRunsUptoRow : OpenClaim := { program := "ytbkcpepalicbjaagreat", sum := "65beef5df8357109307c3ecd31675b78f3a271dca0bc9d91ac5b808fc77859cb", func := "warrant/warrantlaw08.MachRuns", spec := "machRuns", inPlace := ["sync/atomic.LoadUint32", "(*internal/sync.Mutex).Lock", "internal/race.Disable", "sync/atomic.CompareAndSwapInt32", "internal/race.Enable", "internal/race.Acquire", "(*internal/sync.Mutex).lockSlow", "internal/sync.runtime_canSpin", "internal/sync.runtime_doSpin", "internal/sync.throw", "internal/sync.runtime_nanotime", "internal/sync.runtime_SemacquireMutex", "sync/atomic.AddInt32", "(*internal/sync.Mutex).Unlock", "internal/race.ReleaseMerge", "(*internal/sync.Mutex).unlockSlow", "internal/sync.fatal", "internal/sync.runtime_Semrelease", "sync/atomic.StoreUint32", "internal/bytealg.Compare", "internal/bytealg.IndexByte"], unfollowed := true, recurses := true, apart := false, narrowed := true }
def MachRunsUptoSaid : Prop := machRunsUptoRow.holds Tryz.pinned (OpenSpec.upto machRunsSpec)

/-- 'warrantlaw08.MachSteps', WHERE WHAT IT READS IS OF BULK AT MOST 1048576: true; the input reads as it did. -/
def machStepsUptoRow : OpenClaim := { program := "ytbkcpepalicbjaagreat", sum := "65beef5df8357109307c3ecd31675b78f3a271dca0bc9d91ac5b808fc77859cb", func := "warrant/warrantlaw08.MachSteps", spec := "machSteps", inPlace := ["sync/atomic.LoadUint32", "(*internal/sync.Mutex).Lock", "internal/race.Disable", "sync/atomic.CompareAndSwapInt32", "internal/race.Enable", "internal/race.Acquire", "(*internal/sync.Mutex).lockSlow", "internal/sync.runtime_canSpin", "internal/sync.runtime_doSpin", "internal/sync.throw", "internal/sync.runtime_nanotime", "internal/sync.runtime_SemacquireMutex", "sync/atomic.AddInt32", "(*internal/sync.Mutex).Unlock", "internal/race.ReleaseMerge", "(*internal/sync.Mutex).unlockSlow", "internal/sync.fatal", "internal/sync.runtime_Semrelease", "sync/atomic.StoreUint32", "internal/bytealg.Compare", "internal/bytealg.IndexByte"], unfollowed := true, recurses := true, apart := false, narrowed := true }
def MachStepsUptoSaid : Prop := machStepsUptoRow.holds Tryz.pinned (OpenSpec.upto machStepsSpec)

/-- 'warrantlaw08.MachNews', WHERE WHAT IT READS IS OF BULK AT MOST 1048576: true; the input reads as it did. -/
def machNewsUptoRow : OpenClaim := { program := "ytbkcpepalicbjaagreat", sum := "65beef5df8357109307c3ecd31675b78f3a271dca0bc9d91ac5b808fc77859cb", func := "warrant/warrantlaw08.MachNews", spec := "machNews", inPlace := ["sync/atomic.LoadUint32", "(*internal/sync.Mutex).Lock", "internal/race.Disable", "sync/atomic.CompareAndSwapInt32", "internal/race.Enable", "internal/race.Acquire", "(*internal/sync.Mutex).lockSlow", "internal/sync.runtime_canSpin", "internal/sync.runtime_doSpin", "internal/sync.throw", "internal/sync.runtime_nanotime", "internal/sync.runtime_SemacquireMutex", "sync/atomic.AddInt32", "(*internal/sync.Mutex).Unlock", "internal/race.ReleaseMerge", "(*internal/sync.Mutex).unlockSlow", "internal/sync.fatal", "internal/sync.runtime_Semrelease", "sync/atomic.StoreUint32", "internal/bytealg.Compare", "internal/bytealg.IndexByte"], unfollowed := true, recurses := true, apart := false, narrowed := true }
def MachNewsUptoSaid : Prop := machNewsUptoRow.holds Tryz.pinned (OpenSpec.upto machNewsSpec)

/-- 'warrantlaw08.MachSplits', WHERE WHAT IT READS IS OF BULK AT MOST 1048576: true; the input reads as it did. -/
def machSplitsUptoRow : OpenClaim := { program := "ytbkcpepalicbjaagreat", sum := "65beef5df8357109307c3ecd31675b78f3a271dca0bc9d91ac5b808fc77859cb", func := "warrant/warrantlaw08.MachSplits", spec := "machSplits", inPlace := ["sync/atomic.LoadUint32", "(*internal/sync.Mutex).Lock", "internal/race.Disable", "sync/atomic.CompareAndSwapInt32", "internal/race.Enable", "internal/race.Acquire", "(*internal/sync.Mutex).lockSlow", "internal/sync.runtime_canSpin", "internal/sync.runtime_doSpin", "internal/sync.throw", "internal/sync.runtime_nanotime", "internal/sync.runtime_SemacquireMutex", "sync/atomic.AddInt32", "(*internal/sync.Mutex).Unlock", "internal/race.ReleaseMerge", "(*internal/sync.Mutex).unlockSlow", "internal/sync.fatal", "internal/sync.runtime_Semrelease", "sync/atomic.StoreUint32", "internal/bytealg.Compare", "internal/bytealg.IndexByte"], unfollowed := true, recurses := true, apart := false, narrowed := true }
def MachSplitsUptoSaid : Prop := machSplitsUptoRow.holds Tryz.pinned (OpenSpec.upto machSplitsSpec)

/-- 'warrantlaw08.MachApart', WHERE WHAT IT READS IS OF BULK AT MOST 1048576: true; the input reads as it did. -/
def machApartUptoRow : OpenClaim := { program := "ytbkcpepalicbjaagreat", sum := "65beef5df8357109307c3ecd31675b78f3a271dca0bc9d91ac5b808fc77859cb", func := "warrant/warrantlaw08.MachApart", spec := "machApart", inPlace := ["sync/atomic.LoadUint32", "(*internal/sync.Mutex).Lock", "internal/race.Disable", "sync/atomic.CompareAndSwapInt32", "internal/race.Enable", "internal/race.Acquire", "(*internal/sync.Mutex).lockSlow", "internal/sync.runtime_canSpin", "internal/sync.runtime_doSpin", "internal/sync.throw", "internal/sync.runtime_nanotime", "internal/sync.runtime_SemacquireMutex", "sync/atomic.AddInt32", "(*internal/sync.Mutex).Unlock", "internal/race.ReleaseMerge", "(*internal/sync.Mutex).unlockSlow", "internal/sync.fatal", "internal/sync.runtime_Semrelease", "sync/atomic.StoreUint32", "internal/bytealg.Compare", "internal/bytealg.IndexByte"], unfollowed := true, recurses := true, apart := false, narrowed := true }
def MachApartUptoSaid : Prop := machApartUptoRow.holds Tryz.pinned (OpenSpec.upto machApartSpec)

/-- 'warrantlaw08.MachOutput', WHERE WHAT IT READS IS OF BULK AT MOST 1048576: true; the input reads as it did. -/
def machOutputUptoRow : OpenClaim := { program := "ytbkcpepalicbjaagreat", sum := "65beef5df8357109307c3ecd31675b78f3a271dca0bc9d91ac5b808fc77859cb", func := "warrant/warrantlaw08.MachOutput", spec := "machOutput", inPlace := ["sync/atomic.LoadUint32", "(*internal/sync.Mutex).Lock", "internal/race.Disable", "sync/atomic.CompareAndSwapInt32", "internal/race.Enable", "internal/race.Acquire", "(*internal/sync.Mutex).lockSlow", "internal/sync.runtime_canSpin", "internal/sync.runtime_doSpin", "internal/sync.throw", "internal/sync.runtime_nanotime", "internal/sync.runtime_SemacquireMutex", "sync/atomic.AddInt32", "(*internal/sync.Mutex).Unlock", "internal/race.ReleaseMerge", "(*internal/sync.Mutex).unlockSlow", "internal/sync.fatal", "internal/sync.runtime_Semrelease", "sync/atomic.StoreUint32", "internal/bytealg.Compare", "internal/bytealg.IndexByte"], unfollowed := true, recurses := true, apart := false, narrowed := true }
def MachOutputUptoSaid : Prop := machOutputUptoRow.holds Tryz.pinned (OpenSpec.upto machOutputSpec)

/-- 'warrantlaw08.MachJumps', WHERE WHAT IT READS IS OF BULK AT MOST 1048576: true; the input reads as it did. -/
def machJumpsUptoRow : OpenClaim := { program := "ytbkcpepalicbjaagreat", sum := "65beef5df8357109307c3ecd31675b78f3a271dca0bc9d91ac5b808fc77859cb", func := "warrant/warrantlaw08.MachJumps", spec := "machJumps", inPlace := ["sync/atomic.LoadUint32", "(*internal/sync.Mutex).Lock", "internal/race.Disable", "sync/atomic.CompareAndSwapInt32", "internal/race.Enable", "internal/race.Acquire", "(*internal/sync.Mutex).lockSlow", "internal/sync.runtime_canSpin", "internal/sync.runtime_doSpin", "internal/sync.throw", "internal/sync.runtime_nanotime", "internal/sync.runtime_SemacquireMutex", "sync/atomic.AddInt32", "(*internal/sync.Mutex).Unlock", "internal/race.ReleaseMerge", "(*internal/sync.Mutex).unlockSlow", "internal/sync.fatal", "internal/sync.runtime_Semrelease", "sync/atomic.StoreUint32", "internal/bytealg.Compare", "internal/bytealg.IndexByte"], unfollowed := true, recurses := true, apart := false, narrowed := true }
def MachJumpsUptoSaid : Prop := machJumpsUptoRow.holds Tryz.pinned (OpenSpec.upto machJumpsSpec)

/-- 'warrantlaw08.MachSums', WHERE WHAT IT READS IS OF BULK AT MOST 1048576: true; the input reads as it did. -/
def machSumsUptoRow : OpenClaim := { program := "ytbkcpepalicbjaagreat", sum := "65beef5df8357109307c3ecd31675b78f3a271dca0bc9d91ac5b808fc77859cb", func := "warrant/warrantlaw08.MachSums", spec := "machSums", inPlace := ["sync/atomic.LoadUint32", "(*internal/sync.Mutex).Lock", "internal/race.Disable", "sync/atomic.CompareAndSwapInt32", "internal/race.Enable", "internal/race.Acquire", "(*internal/sync.Mutex).lockSlow", "internal/sync.runtime_canSpin", "internal/sync.runtime_doSpin", "internal/sync.throw", "internal/sync.runtime_nanotime", "internal/sync.runtime_SemacquireMutex", "sync/atomic.AddInt32", "(*internal/sync.Mutex).Unlock", "internal/race.ReleaseMerge", "(*internal/sync.Mutex).unlockSlow", "internal/sync.fatal", "internal/sync.runtime_Semrelease", "sync/atomic.StoreUint32", "internal/bytealg.Compare", "internal/bytealg.IndexByte"], unfollowed := true, recurses := true, apart := false, narrowed := true }
def MachSumsUptoSaid : Prop := machSumsUptoRow.holds Tryz.pinned (OpenSpec.upto machSumsSpec)

end Rows
end Go.Proofs.YtbkcpepalicbjaaGreat

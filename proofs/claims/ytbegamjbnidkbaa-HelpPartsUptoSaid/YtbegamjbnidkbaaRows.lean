/-
  No cell of these rows narrows 'for every input' (looked for: loops, veiled, ifaces, maps, wideKeys, modest, calm, conditions, laid).
  DERIVED. THE GIVEN ROWS OF THIS SEAT. 13 by the template 'for every input the law returns true; each argument reads behind the call as it read before'; 0 by the template 'total and deterministic' (their statements: YtbegamjbnidkbaaTotals.lean).
  GIVEN WITH THE SEED: the statements are not yours to turn. If you find one false, say at which input.
  Laid BY PROGRAM, IN A SANDBOX (cutbox-rows.mjs): the forced cells as the released guide's own fill.sh prints them over the translation 99e34cb8f57c5156… (all of the seat's roots in one cut). By AI agents, Wed Nov 11 2026. No macro, syntax, notation, axiom, sorry.
-/
import Derived.Test.YtbegamjbnidkbaaChecked
import GoSem.Claim
import GoSem.ClaimJoined
import GoSem.ClaimMapViews
import Derived.JoinedTies
import Derived.KernelRfl
namespace Go.Proofs.Ytbegamjbnidkbaa
/- THE CELL 'sum', in the pinned program and in every row, IS THE sha256 OF THE DUMP (.gsa) THAT YtbegamjbnidkbaaProg.lean LOADS. Nothing in Lean hashes anything: it is a label: what it is worth is what the hold of that sum in a sandbox is worth. -/
noncomputable def Try.pinned : Pinned := { name := "ytbegamjbnidkbaa", sum := "99e34cb8f57c515649aa3951a5c9d212c990c7abc08b84158e892a44c139385f", checked := Try.checked }
namespace Rows
def none {H : Type} : Left H := { results := [], args := [] }

/-- 'warrantlaw07.HelpNames': WHATEVER THE INPUT: true; the input reads as it did. -/
def helpNamesSpec : ChangeSpec := { name := "helpNames", fn := fun _ => fun
  | [] => { results := [.lit (.bool true)], args := [] }
  | _ => none }
def helpNamesRow : OpenClaim := { program := "ytbegamjbnidkbaa", sum := "99e34cb8f57c515649aa3951a5c9d212c990c7abc08b84158e892a44c139385f", func := "warrant/warrantlaw07.HelpNames", spec := "helpNames", inPlace := ["sync/atomic.LoadUint32", "(*internal/sync.Mutex).Lock", "internal/race.Disable", "sync/atomic.CompareAndSwapInt32", "internal/race.Enable", "internal/race.Acquire", "(*internal/sync.Mutex).lockSlow", "internal/sync.runtime_canSpin", "internal/sync.runtime_doSpin", "internal/sync.throw", "internal/sync.runtime_nanotime", "internal/sync.runtime_SemacquireMutex", "sync/atomic.AddInt32", "(*internal/sync.Mutex).Unlock", "internal/race.ReleaseMerge", "(*internal/sync.Mutex).unlockSlow", "internal/sync.fatal", "internal/sync.runtime_Semrelease", "sync/atomic.StoreUint32", "internal/bytealg.Compare", "internal/bytealg.IndexByte"], unfollowed := true, recurses := true, apart := false }
def HelpNamesSaid : Prop := helpNamesRow.holds Try.pinned (OpenSpec.ofChange helpNamesSpec)

/-- ITS FALSE NEIGHBOUR: 'it returns false'. Refute it at one input. -/
def helpNamesWrong : ChangeSpec := { name := "helpNames", fn := fun _ => fun
  | [] => { results := [.lit (.bool false)], args := [] }
  | _ => none }
def HelpNamesWrongFalsely : Prop := helpNamesRow.holds Try.pinned (OpenSpec.ofChange helpNamesWrong)

/-- 'warrantlaw07.HelpSigs': WHATEVER THE INPUT: true; the input reads as it did. -/
def helpSigsSpec : ChangeSpec := { name := "helpSigs", fn := fun _ => fun
  | [d] => { results := [.lit (.bool true)], args := [d] }
  | _ => none }
def helpSigsRow : OpenClaim := { program := "ytbegamjbnidkbaa", sum := "99e34cb8f57c515649aa3951a5c9d212c990c7abc08b84158e892a44c139385f", func := "warrant/warrantlaw07.HelpSigs", spec := "helpSigs", inPlace := ["sync/atomic.LoadUint32", "(*internal/sync.Mutex).Lock", "internal/race.Disable", "sync/atomic.CompareAndSwapInt32", "internal/race.Enable", "internal/race.Acquire", "(*internal/sync.Mutex).lockSlow", "internal/sync.runtime_canSpin", "internal/sync.runtime_doSpin", "internal/sync.throw", "internal/sync.runtime_nanotime", "internal/sync.runtime_SemacquireMutex", "sync/atomic.AddInt32", "(*internal/sync.Mutex).Unlock", "internal/race.ReleaseMerge", "(*internal/sync.Mutex).unlockSlow", "internal/sync.fatal", "internal/sync.runtime_Semrelease", "sync/atomic.StoreUint32", "internal/bytealg.Compare", "internal/bytealg.IndexByte"], unfollowed := true, recurses := true, apart := false }
def HelpSigsSaid : Prop := helpSigsRow.holds Try.pinned (OpenSpec.ofChange helpSigsSpec)

/-- ITS FALSE NEIGHBOUR: 'it returns false'. Refute it at one input. -/
def helpSigsWrong : ChangeSpec := { name := "helpSigs", fn := fun _ => fun
  | [d] => { results := [.lit (.bool false)], args := [d] }
  | _ => none }
def HelpSigsWrongFalsely : Prop := helpSigsRow.holds Try.pinned (OpenSpec.ofChange helpSigsWrong)

/-- 'warrantlaw07.HelpSums': WHATEVER THE INPUT: true; the input reads as it did. -/
def helpSumsSpec : ChangeSpec := { name := "helpSums", fn := fun _ => fun
  | [d1, d2] => { results := [.lit (.bool true)], args := [d1, d2] }
  | _ => none }
def helpSumsRow : OpenClaim := { program := "ytbegamjbnidkbaa", sum := "99e34cb8f57c515649aa3951a5c9d212c990c7abc08b84158e892a44c139385f", func := "warrant/warrantlaw07.HelpSums", spec := "helpSums", inPlace := ["sync/atomic.LoadUint32", "(*internal/sync.Mutex).Lock", "internal/race.Disable", "sync/atomic.CompareAndSwapInt32", "internal/race.Enable", "internal/race.Acquire", "(*internal/sync.Mutex).lockSlow", "internal/sync.runtime_canSpin", "internal/sync.runtime_doSpin", "internal/sync.throw", "internal/sync.runtime_nanotime", "internal/sync.runtime_SemacquireMutex", "sync/atomic.AddInt32", "(*internal/sync.Mutex).Unlock", "internal/race.ReleaseMerge", "(*internal/sync.Mutex).unlockSlow", "internal/sync.fatal", "internal/sync.runtime_Semrelease", "sync/atomic.StoreUint32", "internal/bytealg.Compare", "internal/bytealg.IndexByte"], unfollowed := true, recurses := true, apart := false }
def HelpSumsSaid : Prop := helpSumsRow.holds Try.pinned (OpenSpec.ofChange helpSumsSpec)

/-- ITS FALSE NEIGHBOUR: 'it returns false'. Refute it at one input. -/
def helpSumsWrong : ChangeSpec := { name := "helpSums", fn := fun _ => fun
  | [d1, d2] => { results := [.lit (.bool false)], args := [d1, d2] }
  | _ => none }
def HelpSumsWrongFalsely : Prop := helpSumsRow.holds Try.pinned (OpenSpec.ofChange helpSumsWrong)

/-- 'warrantlaw07.HelpDiffs': WHATEVER THE INPUT: true; the input reads as it did. -/
def helpDiffsSpec : ChangeSpec := { name := "helpDiffs", fn := fun _ => fun
  | [d1, d2] => { results := [.lit (.bool true)], args := [d1, d2] }
  | _ => none }
def helpDiffsRow : OpenClaim := { program := "ytbegamjbnidkbaa", sum := "99e34cb8f57c515649aa3951a5c9d212c990c7abc08b84158e892a44c139385f", func := "warrant/warrantlaw07.HelpDiffs", spec := "helpDiffs", inPlace := ["sync/atomic.LoadUint32", "(*internal/sync.Mutex).Lock", "internal/race.Disable", "sync/atomic.CompareAndSwapInt32", "internal/race.Enable", "internal/race.Acquire", "(*internal/sync.Mutex).lockSlow", "internal/sync.runtime_canSpin", "internal/sync.runtime_doSpin", "internal/sync.throw", "internal/sync.runtime_nanotime", "internal/sync.runtime_SemacquireMutex", "sync/atomic.AddInt32", "(*internal/sync.Mutex).Unlock", "internal/race.ReleaseMerge", "(*internal/sync.Mutex).unlockSlow", "internal/sync.fatal", "internal/sync.runtime_Semrelease", "sync/atomic.StoreUint32", "internal/bytealg.Compare", "internal/bytealg.IndexByte"], unfollowed := true, recurses := true, apart := false }
def HelpDiffsSaid : Prop := helpDiffsRow.holds Try.pinned (OpenSpec.ofChange helpDiffsSpec)

/-- ITS FALSE NEIGHBOUR: 'it returns false'. Refute it at one input. -/
def helpDiffsWrong : ChangeSpec := { name := "helpDiffs", fn := fun _ => fun
  | [d1, d2] => { results := [.lit (.bool false)], args := [d1, d2] }
  | _ => none }
def HelpDiffsWrongFalsely : Prop := helpDiffsRow.holds Try.pinned (OpenSpec.ofChange helpDiffsWrong)

/-- 'warrantlaw07.HelpFinds': WHATEVER THE INPUT: true; the input reads as it did. -/
def helpFindsSpec : ChangeSpec := { name := "helpFinds", fn := fun _ => fun
  | [d1, d2] => { results := [.lit (.bool true)], args := [d1, d2] }
  | _ => none }
def helpFindsRow : OpenClaim := { program := "ytbegamjbnidkbaa", sum := "99e34cb8f57c515649aa3951a5c9d212c990c7abc08b84158e892a44c139385f", func := "warrant/warrantlaw07.HelpFinds", spec := "helpFinds", inPlace := ["sync/atomic.LoadUint32", "(*internal/sync.Mutex).Lock", "internal/race.Disable", "sync/atomic.CompareAndSwapInt32", "internal/race.Enable", "internal/race.Acquire", "(*internal/sync.Mutex).lockSlow", "internal/sync.runtime_canSpin", "internal/sync.runtime_doSpin", "internal/sync.throw", "internal/sync.runtime_nanotime", "internal/sync.runtime_SemacquireMutex", "sync/atomic.AddInt32", "(*internal/sync.Mutex).Unlock", "internal/race.ReleaseMerge", "(*internal/sync.Mutex).unlockSlow", "internal/sync.fatal", "internal/sync.runtime_Semrelease", "sync/atomic.StoreUint32", "internal/bytealg.Compare", "internal/bytealg.IndexByte"], unfollowed := true, recurses := true, apart := false }
def HelpFindsSaid : Prop := helpFindsRow.holds Try.pinned (OpenSpec.ofChange helpFindsSpec)

/-- ITS FALSE NEIGHBOUR: 'it returns false'. Refute it at one input. -/
def helpFindsWrong : ChangeSpec := { name := "helpFinds", fn := fun _ => fun
  | [d1, d2] => { results := [.lit (.bool false)], args := [d1, d2] }
  | _ => none }
def HelpFindsWrongFalsely : Prop := helpFindsRow.holds Try.pinned (OpenSpec.ofChange helpFindsWrong)

/-- 'warrantlaw07.HelpMixes': WHATEVER THE INPUT: true; the input reads as it did. -/
def helpMixesSpec : ChangeSpec := { name := "helpMixes", fn := fun _ => fun
  | [d1, d2] => { results := [.lit (.bool true)], args := [d1, d2] }
  | _ => none }
def helpMixesRow : OpenClaim := { program := "ytbegamjbnidkbaa", sum := "99e34cb8f57c515649aa3951a5c9d212c990c7abc08b84158e892a44c139385f", func := "warrant/warrantlaw07.HelpMixes", spec := "helpMixes", inPlace := ["sync/atomic.LoadUint32", "(*internal/sync.Mutex).Lock", "internal/race.Disable", "sync/atomic.CompareAndSwapInt32", "internal/race.Enable", "internal/race.Acquire", "(*internal/sync.Mutex).lockSlow", "internal/sync.runtime_canSpin", "internal/sync.runtime_doSpin", "internal/sync.throw", "internal/sync.runtime_nanotime", "internal/sync.runtime_SemacquireMutex", "sync/atomic.AddInt32", "(*internal/sync.Mutex).Unlock", "internal/race.ReleaseMerge", "(*internal/sync.Mutex).unlockSlow", "internal/sync.fatal", "internal/sync.runtime_Semrelease", "sync/atomic.StoreUint32", "internal/bytealg.Compare", "internal/bytealg.IndexByte"], unfollowed := true, recurses := true, apart := false }
def HelpMixesSaid : Prop := helpMixesRow.holds Try.pinned (OpenSpec.ofChange helpMixesSpec)

/-- ITS FALSE NEIGHBOUR: 'it returns false'. Refute it at one input. -/
def helpMixesWrong : ChangeSpec := { name := "helpMixes", fn := fun _ => fun
  | [d1, d2] => { results := [.lit (.bool false)], args := [d1, d2] }
  | _ => none }
def HelpMixesWrongFalsely : Prop := helpMixesRow.holds Try.pinned (OpenSpec.ofChange helpMixesWrong)

/-- 'warrantlaw07.HelpParts': WHATEVER THE INPUT: true; the input reads as it did. -/
def helpPartsSpec : ChangeSpec := { name := "helpParts", fn := fun _ => fun
  | [d1, d2, d3] => { results := [.lit (.bool true)], args := [d1, d2, d3] }
  | _ => none }
def helpPartsRow : OpenClaim := { program := "ytbegamjbnidkbaa", sum := "99e34cb8f57c515649aa3951a5c9d212c990c7abc08b84158e892a44c139385f", func := "warrant/warrantlaw07.HelpParts", spec := "helpParts", inPlace := ["sync/atomic.LoadUint32", "(*internal/sync.Mutex).Lock", "internal/race.Disable", "sync/atomic.CompareAndSwapInt32", "internal/race.Enable", "internal/race.Acquire", "(*internal/sync.Mutex).lockSlow", "internal/sync.runtime_canSpin", "internal/sync.runtime_doSpin", "internal/sync.throw", "internal/sync.runtime_nanotime", "internal/sync.runtime_SemacquireMutex", "sync/atomic.AddInt32", "(*internal/sync.Mutex).Unlock", "internal/race.ReleaseMerge", "(*internal/sync.Mutex).unlockSlow", "internal/sync.fatal", "internal/sync.runtime_Semrelease", "sync/atomic.StoreUint32", "internal/bytealg.Compare", "internal/bytealg.IndexByte"], unfollowed := true, recurses := true, apart := false }
def HelpPartsSaid : Prop := helpPartsRow.holds Try.pinned (OpenSpec.ofChange helpPartsSpec)

/-- ITS FALSE NEIGHBOUR: 'it returns false'. Refute it at one input. -/
def helpPartsWrong : ChangeSpec := { name := "helpParts", fn := fun _ => fun
  | [d1, d2, d3] => { results := [.lit (.bool false)], args := [d1, d2, d3] }
  | _ => none }
def HelpPartsWrongFalsely : Prop := helpPartsRow.holds Try.pinned (OpenSpec.ofChange helpPartsWrong)

/-- 'warrantlaw07.HelpWords': WHATEVER THE INPUT: true; the input reads as it did. -/
def helpWordsSpec : ChangeSpec := { name := "helpWords", fn := fun _ => fun
  | [d1, d2, d3, d4] => { results := [.lit (.bool true)], args := [d1, d2, d3, d4] }
  | _ => none }
def helpWordsRow : OpenClaim := { program := "ytbegamjbnidkbaa", sum := "99e34cb8f57c515649aa3951a5c9d212c990c7abc08b84158e892a44c139385f", func := "warrant/warrantlaw07.HelpWords", spec := "helpWords", inPlace := ["sync/atomic.LoadUint32", "(*internal/sync.Mutex).Lock", "internal/race.Disable", "sync/atomic.CompareAndSwapInt32", "internal/race.Enable", "internal/race.Acquire", "(*internal/sync.Mutex).lockSlow", "internal/sync.runtime_canSpin", "internal/sync.runtime_doSpin", "internal/sync.throw", "internal/sync.runtime_nanotime", "internal/sync.runtime_SemacquireMutex", "sync/atomic.AddInt32", "(*internal/sync.Mutex).Unlock", "internal/race.ReleaseMerge", "(*internal/sync.Mutex).unlockSlow", "internal/sync.fatal", "internal/sync.runtime_Semrelease", "sync/atomic.StoreUint32", "internal/bytealg.Compare", "internal/bytealg.IndexByte"], unfollowed := true, recurses := true, apart := false }
def HelpWordsSaid : Prop := helpWordsRow.holds Try.pinned (OpenSpec.ofChange helpWordsSpec)

/-- ITS FALSE NEIGHBOUR: 'it returns false'. Refute it at one input. -/
def helpWordsWrong : ChangeSpec := { name := "helpWords", fn := fun _ => fun
  | [d1, d2, d3, d4] => { results := [.lit (.bool false)], args := [d1, d2, d3, d4] }
  | _ => none }
def HelpWordsWrongFalsely : Prop := helpWordsRow.holds Try.pinned (OpenSpec.ofChange helpWordsWrong)

/-- 'warrantlaw07.HelpSlow': WHATEVER THE INPUT: true; the input reads as it did. -/
def helpSlowSpec : ChangeSpec := { name := "helpSlow", fn := fun _ => fun
  | [d1, d2] => { results := [.lit (.bool true)], args := [d1, d2] }
  | _ => none }
def helpSlowRow : OpenClaim := { program := "ytbegamjbnidkbaa", sum := "99e34cb8f57c515649aa3951a5c9d212c990c7abc08b84158e892a44c139385f", func := "warrant/warrantlaw07.HelpSlow", spec := "helpSlow", inPlace := ["sync/atomic.LoadUint32", "(*internal/sync.Mutex).Lock", "internal/race.Disable", "sync/atomic.CompareAndSwapInt32", "internal/race.Enable", "internal/race.Acquire", "(*internal/sync.Mutex).lockSlow", "internal/sync.runtime_canSpin", "internal/sync.runtime_doSpin", "internal/sync.throw", "internal/sync.runtime_nanotime", "internal/sync.runtime_SemacquireMutex", "sync/atomic.AddInt32", "(*internal/sync.Mutex).Unlock", "internal/race.ReleaseMerge", "(*internal/sync.Mutex).unlockSlow", "internal/sync.fatal", "internal/sync.runtime_Semrelease", "sync/atomic.StoreUint32", "internal/bytealg.Compare", "internal/bytealg.IndexByte"], unfollowed := true, recurses := true, apart := false }
def HelpSlowSaid : Prop := helpSlowRow.holds Try.pinned (OpenSpec.ofChange helpSlowSpec)

/-- ITS FALSE NEIGHBOUR: 'it returns false'. Refute it at one input. -/
def helpSlowWrong : ChangeSpec := { name := "helpSlow", fn := fun _ => fun
  | [d1, d2] => { results := [.lit (.bool false)], args := [d1, d2] }
  | _ => none }
def HelpSlowWrongFalsely : Prop := helpSlowRow.holds Try.pinned (OpenSpec.ofChange helpSlowWrong)

/-- 'warrantlaw07.HelpOrders': WHATEVER THE INPUT: true; the input reads as it did. -/
def helpOrdersSpec : ChangeSpec := { name := "helpOrders", fn := fun _ => fun
  | [d1, d2, d3] => { results := [.lit (.bool true)], args := [d1, d2, d3] }
  | _ => none }
def helpOrdersRow : OpenClaim := { program := "ytbegamjbnidkbaa", sum := "99e34cb8f57c515649aa3951a5c9d212c990c7abc08b84158e892a44c139385f", func := "warrant/warrantlaw07.HelpOrders", spec := "helpOrders", inPlace := ["sync/atomic.LoadUint32", "(*internal/sync.Mutex).Lock", "internal/race.Disable", "sync/atomic.CompareAndSwapInt32", "internal/race.Enable", "internal/race.Acquire", "(*internal/sync.Mutex).lockSlow", "internal/sync.runtime_canSpin", "internal/sync.runtime_doSpin", "internal/sync.throw", "internal/sync.runtime_nanotime", "internal/sync.runtime_SemacquireMutex", "sync/atomic.AddInt32", "(*internal/sync.Mutex).Unlock", "internal/race.ReleaseMerge", "(*internal/sync.Mutex).unlockSlow", "internal/sync.fatal", "internal/sync.runtime_Semrelease", "sync/atomic.StoreUint32", "internal/bytealg.Compare", "internal/bytealg.IndexByte"], unfollowed := true, recurses := true, apart := false }
def HelpOrdersSaid : Prop := helpOrdersRow.holds Try.pinned (OpenSpec.ofChange helpOrdersSpec)

/-- ITS FALSE NEIGHBOUR: 'it returns false'. Refute it at one input. -/
def helpOrdersWrong : ChangeSpec := { name := "helpOrders", fn := fun _ => fun
  | [d1, d2, d3] => { results := [.lit (.bool false)], args := [d1, d2, d3] }
  | _ => none }
def HelpOrdersWrongFalsely : Prop := helpOrdersRow.holds Try.pinned (OpenSpec.ofChange helpOrdersWrong)

/-- 'warrantlaw07.HelpPlaces': WHATEVER THE INPUT: true; the input reads as it did. -/
def helpPlacesSpec : ChangeSpec := { name := "helpPlaces", fn := fun _ => fun
  | [d1, d2] => { results := [.lit (.bool true)], args := [d1, d2] }
  | _ => none }
def helpPlacesRow : OpenClaim := { program := "ytbegamjbnidkbaa", sum := "99e34cb8f57c515649aa3951a5c9d212c990c7abc08b84158e892a44c139385f", func := "warrant/warrantlaw07.HelpPlaces", spec := "helpPlaces", inPlace := ["sync/atomic.LoadUint32", "(*internal/sync.Mutex).Lock", "internal/race.Disable", "sync/atomic.CompareAndSwapInt32", "internal/race.Enable", "internal/race.Acquire", "(*internal/sync.Mutex).lockSlow", "internal/sync.runtime_canSpin", "internal/sync.runtime_doSpin", "internal/sync.throw", "internal/sync.runtime_nanotime", "internal/sync.runtime_SemacquireMutex", "sync/atomic.AddInt32", "(*internal/sync.Mutex).Unlock", "internal/race.ReleaseMerge", "(*internal/sync.Mutex).unlockSlow", "internal/sync.fatal", "internal/sync.runtime_Semrelease", "sync/atomic.StoreUint32", "internal/bytealg.Compare", "internal/bytealg.IndexByte"], unfollowed := true, recurses := true, apart := false }
def HelpPlacesSaid : Prop := helpPlacesRow.holds Try.pinned (OpenSpec.ofChange helpPlacesSpec)

/-- ITS FALSE NEIGHBOUR: 'it returns false'. Refute it at one input. -/
def helpPlacesWrong : ChangeSpec := { name := "helpPlaces", fn := fun _ => fun
  | [d1, d2] => { results := [.lit (.bool false)], args := [d1, d2] }
  | _ => none }
def HelpPlacesWrongFalsely : Prop := helpPlacesRow.holds Try.pinned (OpenSpec.ofChange helpPlacesWrong)

/-- 'warrantlaw07.HelpUnlike': WHATEVER THE INPUT: true; the input reads as it did. -/
def helpUnlikeSpec : ChangeSpec := { name := "helpUnlike", fn := fun _ => fun
  | [d1, d2, d3] => { results := [.lit (.bool true)], args := [d1, d2, d3] }
  | _ => none }
def helpUnlikeRow : OpenClaim := { program := "ytbegamjbnidkbaa", sum := "99e34cb8f57c515649aa3951a5c9d212c990c7abc08b84158e892a44c139385f", func := "warrant/warrantlaw07.HelpUnlike", spec := "helpUnlike", inPlace := ["sync/atomic.LoadUint32", "(*internal/sync.Mutex).Lock", "internal/race.Disable", "sync/atomic.CompareAndSwapInt32", "internal/race.Enable", "internal/race.Acquire", "(*internal/sync.Mutex).lockSlow", "internal/sync.runtime_canSpin", "internal/sync.runtime_doSpin", "internal/sync.throw", "internal/sync.runtime_nanotime", "internal/sync.runtime_SemacquireMutex", "sync/atomic.AddInt32", "(*internal/sync.Mutex).Unlock", "internal/race.ReleaseMerge", "(*internal/sync.Mutex).unlockSlow", "internal/sync.fatal", "internal/sync.runtime_Semrelease", "sync/atomic.StoreUint32", "internal/bytealg.Compare", "internal/bytealg.IndexByte"], unfollowed := true, recurses := true, apart := false }
def HelpUnlikeSaid : Prop := helpUnlikeRow.holds Try.pinned (OpenSpec.ofChange helpUnlikeSpec)

/-- ITS FALSE NEIGHBOUR: 'it returns false'. Refute it at one input. -/
def helpUnlikeWrong : ChangeSpec := { name := "helpUnlike", fn := fun _ => fun
  | [d1, d2, d3] => { results := [.lit (.bool false)], args := [d1, d2, d3] }
  | _ => none }
def HelpUnlikeWrongFalsely : Prop := helpUnlikeRow.holds Try.pinned (OpenSpec.ofChange helpUnlikeWrong)

/-- 'warrantlaw07.HelpSpans': WHATEVER THE INPUT: true; the input reads as it did. -/
def helpSpansSpec : ChangeSpec := { name := "helpSpans", fn := fun _ => fun
  | [d1, d2, d3] => { results := [.lit (.bool true)], args := [d1, d2, d3] }
  | _ => none }
def helpSpansRow : OpenClaim := { program := "ytbegamjbnidkbaa", sum := "99e34cb8f57c515649aa3951a5c9d212c990c7abc08b84158e892a44c139385f", func := "warrant/warrantlaw07.HelpSpans", spec := "helpSpans", inPlace := ["sync/atomic.LoadUint32", "(*internal/sync.Mutex).Lock", "internal/race.Disable", "sync/atomic.CompareAndSwapInt32", "internal/race.Enable", "internal/race.Acquire", "(*internal/sync.Mutex).lockSlow", "internal/sync.runtime_canSpin", "internal/sync.runtime_doSpin", "internal/sync.throw", "internal/sync.runtime_nanotime", "internal/sync.runtime_SemacquireMutex", "sync/atomic.AddInt32", "(*internal/sync.Mutex).Unlock", "internal/race.ReleaseMerge", "(*internal/sync.Mutex).unlockSlow", "internal/sync.fatal", "internal/sync.runtime_Semrelease", "sync/atomic.StoreUint32", "internal/bytealg.Compare", "internal/bytealg.IndexByte"], unfollowed := true, recurses := true, apart := false }
def HelpSpansSaid : Prop := helpSpansRow.holds Try.pinned (OpenSpec.ofChange helpSpansSpec)

/-- ITS FALSE NEIGHBOUR: 'it returns false'. Refute it at one input. -/
def helpSpansWrong : ChangeSpec := { name := "helpSpans", fn := fun _ => fun
  | [d1, d2, d3] => { results := [.lit (.bool false)], args := [d1, d2, d3] }
  | _ => none }
def HelpSpansWrongFalsely : Prop := helpSpansRow.holds Try.pinned (OpenSpec.ofChange helpSpansWrong)

/- THE SECOND FORM. 'bulk': how many values and letters a reading holds, each counted each time it is reached (what is shared counts as often as it is met; a slice's spare places count too). A statement '..UptoSaid' is the law's where the arguments, and the package variables that the reading takes, are together of bulk at most 1048576: NARROWER than '..Said'. Prove '..Said' where nothing that the law and all that it calls make is longer than what came in: it says more and counts as full. Else prove '..UptoSaid'. A law counts once. -/
mutual
def uptoBulk {H : Type} : DataW H → Nat
  | .lit (.string bytes) => bytes.length + 1
  | .lit _ => 1
  | .nil => 1
  | .ptr d => uptoBulk d + 1
  | .slice elems spare => uptoBulkAll elems + uptoBulkAll spare + 1
  | .agg parts => uptoBulkAll parts + 1
  | .iface _ d => uptoBulk d + 1
  | .map entries => uptoBulkEntries entries + 1
  | .held _ => 1
def uptoBulkAll {H : Type} : List (DataW H) → Nat
  | [] => 0
  | d :: r => uptoBulk d + uptoBulkAll r
def uptoBulkEntries {H : Type} : List (Lit × DataW H) → Nat
  | [] => 0
  | x :: r => uptoBulkEntry x + uptoBulkEntries r
def uptoBulkEntry {H : Type} : Lit × DataW H → Nat
  | (.string bytes, d) => bytes.length + uptoBulk d + 1
  | (_, d) => uptoBulk d + 1
 end
def uptoSmall : (H : Type) → List (DataW H) → Bool := fun _ ds => decide (uptoBulkAll ds ≤ 1048576)
def OpenSpec.upto (s : _root_.Go.ChangeSpec) : _root_.Go.OpenSpec := { _root_.Go.OpenSpec.ofChange s with cond := some uptoSmall }

/-- 'warrantlaw07.HelpNames', WHERE WHAT IT READS IS OF BULK AT MOST 1048576: true; the input reads as it did. -/
def helpNamesUptoRow : OpenClaim := { program := "ytbegamjbnidkbaa", sum := "99e34cb8f57c515649aa3951a5c9d212c990c7abc08b84158e892a44c139385f", func := "warrant/warrantlaw07.HelpNames", spec := "helpNames", inPlace := ["sync/atomic.LoadUint32", "(*internal/sync.Mutex).Lock", "internal/race.Disable", "sync/atomic.CompareAndSwapInt32", "internal/race.Enable", "internal/race.Acquire", "(*internal/sync.Mutex).lockSlow", "internal/sync.runtime_canSpin", "internal/sync.runtime_doSpin", "internal/sync.throw", "internal/sync.runtime_nanotime", "internal/sync.runtime_SemacquireMutex", "sync/atomic.AddInt32", "(*internal/sync.Mutex).Unlock", "internal/race.ReleaseMerge", "(*internal/sync.Mutex).unlockSlow", "internal/sync.fatal", "internal/sync.runtime_Semrelease", "sync/atomic.StoreUint32", "internal/bytealg.Compare", "internal/bytealg.IndexByte"], unfollowed := true, recurses := true, apart := false, narrowed := true }
def HelpNamesUptoSaid : Prop := helpNamesUptoRow.holds Try.pinned (OpenSpec.upto helpNamesSpec)

/-- 'warrantlaw07.HelpSigs', WHERE WHAT IT READS IS OF BULK AT MOST 1048576: true; the input reads as it did. -/
def helpSigsUptoRow : OpenClaim := { program := "ytbegamjbnidkbaa", sum := "99e34cb8f57c515649aa3951a5c9d212c990c7abc08b84158e892a44c139385f", func := "warrant/warrantlaw07.HelpSigs", spec := "helpSigs", inPlace := ["sync/atomic.LoadUint32", "(*internal/sync.Mutex).Lock", "internal/race.Disable", "sync/atomic.CompareAndSwapInt32", "internal/race.Enable", "internal/race.Acquire", "(*internal/sync.Mutex).lockSlow", "internal/sync.runtime_canSpin", "internal/sync.runtime_doSpin", "internal/sync.throw", "internal/sync.runtime_nanotime", "internal/sync.runtime_SemacquireMutex", "sync/atomic.AddInt32", "(*internal/sync.Mutex).Unlock", "internal/race.ReleaseMerge", "(*internal/sync.Mutex).unlockSlow", "internal/sync.fatal", "internal/sync.runtime_Semrelease", "sync/atomic.StoreUint32", "internal/bytealg.Compare", "internal/bytealg.IndexByte"], unfollowed := true, recurses := true, apart := false, narrowed := true }
def HelpSigsUptoSaid : Prop := helpSigsUptoRow.holds Try.pinned (OpenSpec.upto helpSigsSpec)

/-- 'warrantlaw07.HelpSums', WHERE WHAT IT READS IS OF BULK AT MOST 1048576: true; the input reads as it did. -/
def helpSumsUptoRow : OpenClaim := { program := "ytbegamjbnidkbaa", sum := "99e34cb8f57c515649aa3951a5c9d212c990c7abc08b84158e892a44c139385f", func := "warrant/warrantlaw07.HelpSums", spec := "helpSums", inPlace := ["sync/atomic.LoadUint32", "(*internal/sync.Mutex).Lock", "internal/race.Disable", "sync/atomic.CompareAndSwapInt32", "internal/race.Enable", "internal/race.Acquire", "(*internal/sync.Mutex).lockSlow", "internal/sync.runtime_canSpin", "internal/sync.runtime_doSpin", "internal/sync.throw", "internal/sync.runtime_nanotime", "internal/sync.runtime_SemacquireMutex", "sync/atomic.AddInt32", "(*internal/sync.Mutex).Unlock", "internal/race.ReleaseMerge", "(*internal/sync.Mutex).unlockSlow", "internal/sync.fatal", "internal/sync.runtime_Semrelease", "sync/atomic.StoreUint32", "internal/bytealg.Compare", "internal/bytealg.IndexByte"], unfollowed := true, recurses := true, apart := false, narrowed := true }
def HelpSumsUptoSaid : Prop := helpSumsUptoRow.holds Try.pinned (OpenSpec.upto helpSumsSpec)

/-- 'warrantlaw07.HelpDiffs', WHERE WHAT IT READS IS OF BULK AT MOST 1048576: true; the input reads as it did. -/
def helpDiffsUptoRow : OpenClaim := { program := "ytbegamjbnidkbaa", sum := "99e34cb8f57c515649aa3951a5c9d212c990c7abc08b84158e892a44c139385f", func := "warrant/warrantlaw07.HelpDiffs", spec := "helpDiffs", inPlace := ["sync/atomic.LoadUint32", "(*internal/sync.Mutex).Lock", "internal/race.Disable", "sync/atomic.CompareAndSwapInt32", "internal/race.Enable", "internal/race.Acquire", "(*internal/sync.Mutex).lockSlow", "internal/sync.runtime_canSpin", "internal/sync.runtime_doSpin", "internal/sync.throw", "internal/sync.runtime_nanotime", "internal/sync.runtime_SemacquireMutex", "sync/atomic.AddInt32", "(*internal/sync.Mutex).Unlock", "internal/race.ReleaseMerge", "(*internal/sync.Mutex).unlockSlow", "internal/sync.fatal", "internal/sync.runtime_Semrelease", "sync/atomic.StoreUint32", "internal/bytealg.Compare", "internal/bytealg.IndexByte"], unfollowed := true, recurses := true, apart := false, narrowed := true }
def HelpDiffsUptoSaid : Prop := helpDiffsUptoRow.holds Try.pinned (OpenSpec.upto helpDiffsSpec)

/-- 'warrantlaw07.HelpFinds', WHERE WHAT IT READS IS OF BULK AT MOST 1048576: true; the input reads as it did. -/
def helpFindsUptoRow : OpenClaim := { program := "ytbegamjbnidkbaa", sum := "99e34cb8f57c515649aa3951a5c9d212c990c7abc08b84158e892a44c139385f", func := "warrant/warrantlaw07.HelpFinds", spec := "helpFinds", inPlace := ["sync/atomic.LoadUint32", "(*internal/sync.Mutex).Lock", "internal/race.Disable", "sync/atomic.CompareAndSwapInt32", "internal/race.Enable", "internal/race.Acquire", "(*internal/sync.Mutex).lockSlow", "internal/sync.runtime_canSpin", "internal/sync.runtime_doSpin", "internal/sync.throw", "internal/sync.runtime_nanotime", "internal/sync.runtime_SemacquireMutex", "sync/atomic.AddInt32", "(*internal/sync.Mutex).Unlock", "internal/race.ReleaseMerge", "(*internal/sync.Mutex).unlockSlow", "internal/sync.fatal", "internal/sync.runtime_Semrelease", "sync/atomic.StoreUint32", "internal/bytealg.Compare", "internal/bytealg.IndexByte"], unfollowed := true, recurses := true, apart := false, narrowed := true }
def HelpFindsUptoSaid : Prop := helpFindsUptoRow.holds Try.pinned (OpenSpec.upto helpFindsSpec)

/-- 'warrantlaw07.HelpMixes', WHERE WHAT IT READS IS OF BULK AT MOST 1048576: true; the input reads as it did. -/
def helpMixesUptoRow : OpenClaim := { program := "ytbegamjbnidkbaa", sum := "99e34cb8f57c515649aa3951a5c9d212c990c7abc08b84158e892a44c139385f", func := "warrant/warrantlaw07.HelpMixes", spec := "helpMixes", inPlace := ["sync/atomic.LoadUint32", "(*internal/sync.Mutex).Lock", "internal/race.Disable", "sync/atomic.CompareAndSwapInt32", "internal/race.Enable", "internal/race.Acquire", "(*internal/sync.Mutex).lockSlow", "internal/sync.runtime_canSpin", "internal/sync.runtime_doSpin", "internal/sync.throw", "internal/sync.runtime_nanotime", "internal/sync.runtime_SemacquireMutex", "sync/atomic.AddInt32", "(*internal/sync.Mutex).Unlock", "internal/race.ReleaseMerge", "(*internal/sync.Mutex).unlockSlow", "internal/sync.fatal", "internal/sync.runtime_Semrelease", "sync/atomic.StoreUint32", "internal/bytealg.Compare", "internal/bytealg.IndexByte"], unfollowed := true, recurses := true, apart := false, narrowed := true }
def HelpMixesUptoSaid : Prop := helpMixesUptoRow.holds Try.pinned (OpenSpec.upto helpMixesSpec)

/-- 'warrantlaw07.HelpParts', WHERE WHAT IT READS IS OF BULK AT MOST 1048576: true; the input reads as it did. -/
def helpPartsUptoRow : OpenClaim := { program := "ytbegamjbnidkbaa", sum := "99e34cb8f57c515649aa3951a5c9d212c990c7abc08b84158e892a44c139385f", func := "warrant/warrantlaw07.HelpParts", spec := "helpParts", inPlace := ["sync/atomic.LoadUint32", "(*internal/sync.Mutex).Lock", "internal/race.Disable", "sync/atomic.CompareAndSwapInt32", "internal/race.Enable", "internal/race.Acquire", "(*internal/sync.Mutex).lockSlow", "internal/sync.runtime_canSpin", "internal/sync.runtime_doSpin", "internal/sync.throw", "internal/sync.runtime_nanotime", "internal/sync.runtime_SemacquireMutex", "sync/atomic.AddInt32", "(*internal/sync.Mutex).Unlock", "internal/race.ReleaseMerge", "(*internal/sync.Mutex).unlockSlow", "internal/sync.fatal", "internal/sync.runtime_Semrelease", "sync/atomic.StoreUint32", "internal/bytealg.Compare", "internal/bytealg.IndexByte"], unfollowed := true, recurses := true, apart := false, narrowed := true }
def HelpPartsUptoSaid : Prop := helpPartsUptoRow.holds Try.pinned (OpenSpec.upto helpPartsSpec)

/-- 'warrantlaw07.HelpWords', WHERE WHAT IT READS IS OF BULK AT MOST 1048576: true; the input reads as it did. -/
def helpWordsUptoRow : OpenClaim := { program := "ytbegamjbnidkbaa", sum := "99e34cb8f57c515649aa3951a5c9d212c990c7abc08b84158e892a44c139385f", func := "warrant/warrantlaw07.HelpWords", spec := "helpWords", inPlace := ["sync/atomic.LoadUint32", "(*internal/sync.Mutex).Lock", "internal/race.Disable", "sync/atomic.CompareAndSwapInt32", "internal/race.Enable", "internal/race.Acquire", "(*internal/sync.Mutex).lockSlow", "internal/sync.runtime_canSpin", "internal/sync.runtime_doSpin", "internal/sync.throw", "internal/sync.runtime_nanotime", "internal/sync.runtime_SemacquireMutex", "sync/atomic.AddInt32", "(*internal/sync.Mutex).Unlock", "internal/race.ReleaseMerge", "(*internal/sync.Mutex).unlockSlow", "internal/sync.fatal", "internal/sync.runtime_Semrelease", "sync/atomic.StoreUint32", "internal/bytealg.Compare", "internal/bytealg.IndexByte"], unfollowed := true, recurses := true, apart := false, narrowed := true }
def HelpWordsUptoSaid : Prop := helpWordsUptoRow.holds Try.pinned (OpenSpec.upto helpWordsSpec)

/-- 'warrantlaw07.HelpSlow', WHERE WHAT IT READS IS OF BULK AT MOST 1048576: true; the input reads as it did. -/
def helpSlowUptoRow : OpenClaim := { program := "ytbegamjbnidkbaa", sum := "99e34cb8f57c515649aa3951a5c9d212c990c7abc08b84158e892a44c139385f", func := "warrant/warrantlaw07.HelpSlow", spec := "helpSlow", inPlace := ["sync/atomic.LoadUint32", "(*internal/sync.Mutex).Lock", "internal/race.Disable", "sync/atomic.CompareAndSwapInt32", "internal/race.Enable", "internal/race.Acquire", "(*internal/sync.Mutex).lockSlow", "internal/sync.runtime_canSpin", "internal/sync.runtime_doSpin", "internal/sync.throw", "internal/sync.runtime_nanotime", "internal/sync.runtime_SemacquireMutex", "sync/atomic.AddInt32", "(*internal/sync.Mutex).Unlock", "internal/race.ReleaseMerge", "(*internal/sync.Mutex).unlockSlow", "internal/sync.fatal", "internal/sync.runtime_Semrelease", "sync/atomic.StoreUint32", "internal/bytealg.Compare", "internal/bytealg.IndexByte"], unfollowed := true, recurses := true, apart := false, narrowed := true }
def HelpSlowUptoSaid : Prop := helpSlowUptoRow.holds Try.pinned (OpenSpec.upto helpSlowSpec)

/-- 'warrantlaw07.HelpOrders', WHERE WHAT IT READS IS OF BULK AT MOST 1048576: true; the input reads as it did. -/
def helpOrdersUptoRow : OpenClaim := { program := "ytbegamjbnidkbaa", sum := "99e34cb8f57c515649aa3951a5c9d212c990c7abc08b84158e892a44c139385f", func := "warrant/warrantlaw07.HelpOrders", spec := "helpOrders", inPlace := ["sync/atomic.LoadUint32", "(*internal/sync.Mutex).Lock", "internal/race.Disable", "sync/atomic.CompareAndSwapInt32", "internal/race.Enable", "internal/race.Acquire", "(*internal/sync.Mutex).lockSlow", "internal/sync.runtime_canSpin", "internal/sync.runtime_doSpin", "internal/sync.throw", "internal/sync.runtime_nanotime", "internal/sync.runtime_SemacquireMutex", "sync/atomic.AddInt32", "(*internal/sync.Mutex).Unlock", "internal/race.ReleaseMerge", "(*internal/sync.Mutex).unlockSlow", "internal/sync.fatal", "internal/sync.runtime_Semrelease", "sync/atomic.StoreUint32", "internal/bytealg.Compare", "internal/bytealg.IndexByte"], unfollowed := true, recurses := true, apart := false, narrowed := true }
def HelpOrdersUptoSaid : Prop := helpOrdersUptoRow.holds Try.pinned (OpenSpec.upto helpOrdersSpec)

/-- 'warrantlaw07.HelpPlaces', WHERE WHAT IT READS IS OF BULK AT MOST 1048576: true; the input reads as it did. -/
def helpPlacesUptoRow : OpenClaim := { program := "ytbegamjbnidkbaa", sum := "99e34cb8f57c515649aa3951a5c9d212c990c7abc08b84158e892a44c139385f", func := "warrant/warrantlaw07.HelpPlaces", spec := "helpPlaces", inPlace := ["sync/atomic.LoadUint32", "(*internal/sync.Mutex).Lock", "internal/race.Disable", "sync/atomic.CompareAndSwapInt32", "internal/race.Enable", "internal/race.Acquire", "(*internal/sync.Mutex).lockSlow", "internal/sync.runtime_canSpin", "internal/sync.runtime_doSpin", "internal/sync.throw", "internal/sync.runtime_nanotime", "internal/sync.runtime_SemacquireMutex", "sync/atomic.AddInt32", "(*internal/sync.Mutex).Unlock", "internal/race.ReleaseMerge", "(*internal/sync.Mutex).unlockSlow", "internal/sync.fatal", "internal/sync.runtime_Semrelease", "sync/atomic.StoreUint32", "internal/bytealg.Compare", "internal/bytealg.IndexByte"], unfollowed := true, recurses := true, apart := false, narrowed := true }
def HelpPlacesUptoSaid : Prop := helpPlacesUptoRow.holds Try.pinned (OpenSpec.upto helpPlacesSpec)

/-- 'warrantlaw07.HelpUnlike', WHERE WHAT IT READS IS OF BULK AT MOST 1048576: true; the input reads as it did. -/
def helpUnlikeUptoRow : OpenClaim := { program := "ytbegamjbnidkbaa", sum := "99e34cb8f57c515649aa3951a5c9d212c990c7abc08b84158e892a44c139385f", func := "warrant/warrantlaw07.HelpUnlike", spec := "helpUnlike", inPlace := ["sync/atomic.LoadUint32", "(*internal/sync.Mutex).Lock", "internal/race.Disable", "sync/atomic.CompareAndSwapInt32", "internal/race.Enable", "internal/race.Acquire", "(*internal/sync.Mutex).lockSlow", "internal/sync.runtime_canSpin", "internal/sync.runtime_doSpin", "internal/sync.throw", "internal/sync.runtime_nanotime", "internal/sync.runtime_SemacquireMutex", "sync/atomic.AddInt32", "(*internal/sync.Mutex).Unlock", "internal/race.ReleaseMerge", "(*internal/sync.Mutex).unlockSlow", "internal/sync.fatal", "internal/sync.runtime_Semrelease", "sync/atomic.StoreUint32", "internal/bytealg.Compare", "internal/bytealg.IndexByte"], unfollowed := true, recurses := true, apart := false, narrowed := true }
def HelpUnlikeUptoSaid : Prop := helpUnlikeUptoRow.holds Try.pinned (OpenSpec.upto helpUnlikeSpec)

/-- 'warrantlaw07.HelpSpans', WHERE WHAT IT READS IS OF BULK AT MOST 1048576: true; the input reads as it did. -/
def helpSpansUptoRow : OpenClaim := { program := "ytbegamjbnidkbaa", sum := "99e34cb8f57c515649aa3951a5c9d212c990c7abc08b84158e892a44c139385f", func := "warrant/warrantlaw07.HelpSpans", spec := "helpSpans", inPlace := ["sync/atomic.LoadUint32", "(*internal/sync.Mutex).Lock", "internal/race.Disable", "sync/atomic.CompareAndSwapInt32", "internal/race.Enable", "internal/race.Acquire", "(*internal/sync.Mutex).lockSlow", "internal/sync.runtime_canSpin", "internal/sync.runtime_doSpin", "internal/sync.throw", "internal/sync.runtime_nanotime", "internal/sync.runtime_SemacquireMutex", "sync/atomic.AddInt32", "(*internal/sync.Mutex).Unlock", "internal/race.ReleaseMerge", "(*internal/sync.Mutex).unlockSlow", "internal/sync.fatal", "internal/sync.runtime_Semrelease", "sync/atomic.StoreUint32", "internal/bytealg.Compare", "internal/bytealg.IndexByte"], unfollowed := true, recurses := true, apart := false, narrowed := true }
def HelpSpansUptoSaid : Prop := helpSpansUptoRow.holds Try.pinned (OpenSpec.upto helpSpansSpec)

end Rows
end Go.Proofs.Ytbegamjbnidkbaa

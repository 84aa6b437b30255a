/-
  No cell of these rows narrows 'for every input' (looked for: loops, veiled, ifaces, maps, wideKeys, modest, calm, conditions, laid).
  DERIVED. THE GIVEN ROWS OF THIS SEAT. 5 by the template 'for every input the law returns true; each argument reads behind the call as it read before'; 0 by the template 'total and deterministic' (their statements: YtdepknffpnnmmaaGreatTotals.lean).
  GIVEN WITH THE SEED: the statements are not yours to turn. If you find one false, say at which input.
  Laid BY PROGRAM, IN A SANDBOX (cutbox-rows.mjs): the forced cells as the released guide's own fill.sh prints them over the translation 68cd0737621d0f30… (all of the seat's roots in one cut). By AI agents, Wed Nov 11 2026. No macro, syntax, notation, axiom, sorry.
-/
import Derived.Test.YtdepknffpnnmmaaGreatChecked
import GoSem.Claim
import GoSem.ClaimJoined
import GoSem.ClaimMapViews
import Derived.JoinedTies
import Derived.KernelRfl
namespace Go.Proofs.YtdepknffpnnmmaaGreat
/- THE CELL 'sum', in the pinned program and in every row, IS THE sha256 OF THE DUMP (.gsa) THAT YtdepknffpnnmmaaGreatProg.lean LOADS. Nothing in Lean hashes anything: it is a label: what it is worth is what the hold of that sum in a sandbox is worth. -/
noncomputable def Tryz.pinned : Pinned := { name := "ytdepknffpnnmmaagreat", sum := "68cd0737621d0f308c05444f5c70246644c793f0b50b2fedd1143eb0a1b256c8", checked := Tryz.checked }
namespace Rows
def none {H : Type} : Left H := { results := [], args := [] }

/-- 'warrantlaw08.MachSends': WHATEVER THE INPUT: true; the input reads as it did. -/
def machSendsSpec : ChangeSpec := { name := "machSends", fn := fun _ => fun
  | [d1, d2] => { results := [.lit (.bool true)], args := [d1, d2] }
  | _ => none }
def machSendsRow : OpenClaim := { program := "ytdepknffpnnmmaagreat", sum := "68cd0737621d0f308c05444f5c70246644c793f0b50b2fedd1143eb0a1b256c8", func := "warrant/warrantlaw08.MachSends", spec := "machSends", inPlace := ["sync/atomic.LoadUint32", "(*internal/sync.Mutex).Lock", "internal/race.Disable", "sync/atomic.CompareAndSwapInt32", "internal/race.Enable", "internal/race.Acquire", "(*internal/sync.Mutex).lockSlow", "internal/sync.runtime_canSpin", "internal/sync.runtime_doSpin", "internal/sync.throw", "internal/sync.runtime_nanotime", "internal/sync.runtime_SemacquireMutex", "sync/atomic.AddInt32", "(*internal/sync.Mutex).Unlock", "internal/race.ReleaseMerge", "(*internal/sync.Mutex).unlockSlow", "internal/sync.fatal", "internal/sync.runtime_Semrelease", "sync/atomic.StoreUint32", "internal/bytealg.Compare", "internal/bytealg.IndexByte"], unfollowed := true, recurses := true, apart := false }
def MachSendsSaid : Prop := machSendsRow.holds Tryz.pinned (OpenSpec.ofChange machSendsSpec)

/-- ITS FALSE NEIGHBOUR: 'it returns false'. Refute it at one input. -/
def machSendsWrong : ChangeSpec := { name := "machSends", fn := fun _ => fun
  | [d1, d2] => { results := [.lit (.bool false)], args := [d1, d2] }
  | _ => none }
def MachSendsWrongFalsely : Prop := machSendsRow.holds Tryz.pinned (OpenSpec.ofChange machSendsWrong)

/-- 'warrantlaw08.MachHelps': WHATEVER THE INPUT: true; the input reads as it did. -/
def machHelpsSpec : ChangeSpec := { name := "machHelps", fn := fun _ => fun
  | [d1, d2, d3, d4, d5] => { results := [.lit (.bool true)], args := [d1, d2, d3, d4, d5] }
  | _ => none }
def machHelpsRow : OpenClaim := { program := "ytdepknffpnnmmaagreat", sum := "68cd0737621d0f308c05444f5c70246644c793f0b50b2fedd1143eb0a1b256c8", func := "warrant/warrantlaw08.MachHelps", spec := "machHelps", inPlace := ["sync/atomic.LoadUint32", "(*internal/sync.Mutex).Lock", "internal/race.Disable", "sync/atomic.CompareAndSwapInt32", "internal/race.Enable", "internal/race.Acquire", "(*internal/sync.Mutex).lockSlow", "internal/sync.runtime_canSpin", "internal/sync.runtime_doSpin", "internal/sync.throw", "internal/sync.runtime_nanotime", "internal/sync.runtime_SemacquireMutex", "sync/atomic.AddInt32", "(*internal/sync.Mutex).Unlock", "internal/race.ReleaseMerge", "(*internal/sync.Mutex).unlockSlow", "internal/sync.fatal", "internal/sync.runtime_Semrelease", "sync/atomic.StoreUint32", "internal/bytealg.Compare", "internal/bytealg.IndexByte"], unfollowed := true, recurses := true, apart := false }
def MachHelpsSaid : Prop := machHelpsRow.holds Tryz.pinned (OpenSpec.ofChange machHelpsSpec)

/-- ITS FALSE NEIGHBOUR: 'it returns false'. Refute it at one input. -/
def machHelpsWrong : ChangeSpec := { name := "machHelps", fn := fun _ => fun
  | [d1, d2, d3, d4, d5] => { results := [.lit (.bool false)], args := [d1, d2, d3, d4, d5] }
  | _ => none }
def MachHelpsWrongFalsely : Prop := machHelpsRow.holds Tryz.pinned (OpenSpec.ofChange machHelpsWrong)

/-- 'warrantlaw08.MachSplits': WHATEVER THE INPUT: true; the input reads as it did. -/
def machSplitsSpec : ChangeSpec := { name := "machSplits", fn := fun _ => fun
  | [d1, d2, d3, d4] => { results := [.lit (.bool true)], args := [d1, d2, d3, d4] }
  | _ => none }
def machSplitsRow : OpenClaim := { program := "ytdepknffpnnmmaagreat", sum := "68cd0737621d0f308c05444f5c70246644c793f0b50b2fedd1143eb0a1b256c8", func := "warrant/warrantlaw08.MachSplits", spec := "machSplits", inPlace := ["sync/atomic.LoadUint32", "(*internal/sync.Mutex).Lock", "internal/race.Disable", "sync/atomic.CompareAndSwapInt32", "internal/race.Enable", "internal/race.Acquire", "(*internal/sync.Mutex).lockSlow", "internal/sync.runtime_canSpin", "internal/sync.runtime_doSpin", "internal/sync.throw", "internal/sync.runtime_nanotime", "internal/sync.runtime_SemacquireMutex", "sync/atomic.AddInt32", "(*internal/sync.Mutex).Unlock", "internal/race.ReleaseMerge", "(*internal/sync.Mutex).unlockSlow", "internal/sync.fatal", "internal/sync.runtime_Semrelease", "sync/atomic.StoreUint32", "internal/bytealg.Compare", "internal/bytealg.IndexByte"], unfollowed := true, recurses := true, apart := false }
def MachSplitsSaid : Prop := machSplitsRow.holds Tryz.pinned (OpenSpec.ofChange machSplitsSpec)

/-- ITS FALSE NEIGHBOUR: 'it returns false'. Refute it at one input. -/
def machSplitsWrong : ChangeSpec := { name := "machSplits", fn := fun _ => fun
  | [d1, d2, d3, d4] => { results := [.lit (.bool false)], args := [d1, d2, d3, d4] }
  | _ => none }
def MachSplitsWrongFalsely : Prop := machSplitsRow.holds Tryz.pinned (OpenSpec.ofChange machSplitsWrong)

/-- 'warrantlaw08.MachApart': WHATEVER THE INPUT: true; the input reads as it did. -/
def machApartSpec : ChangeSpec := { name := "machApart", fn := fun _ => fun
  | [d1, d2, d3, d4] => { results := [.lit (.bool true)], args := [d1, d2, d3, d4] }
  | _ => none }
def machApartRow : OpenClaim := { program := "ytdepknffpnnmmaagreat", sum := "68cd0737621d0f308c05444f5c70246644c793f0b50b2fedd1143eb0a1b256c8", func := "warrant/warrantlaw08.MachApart", spec := "machApart", inPlace := ["sync/atomic.LoadUint32", "(*internal/sync.Mutex).Lock", "internal/race.Disable", "sync/atomic.CompareAndSwapInt32", "internal/race.Enable", "internal/race.Acquire", "(*internal/sync.Mutex).lockSlow", "internal/sync.runtime_canSpin", "internal/sync.runtime_doSpin", "internal/sync.throw", "internal/sync.runtime_nanotime", "internal/sync.runtime_SemacquireMutex", "sync/atomic.AddInt32", "(*internal/sync.Mutex).Unlock", "internal/race.ReleaseMerge", "(*internal/sync.Mutex).unlockSlow", "internal/sync.fatal", "internal/sync.runtime_Semrelease", "sync/atomic.StoreUint32", "internal/bytealg.Compare", "internal/bytealg.IndexByte"], unfollowed := true, recurses := true, apart := false }
def MachApartSaid : Prop := machApartRow.holds Tryz.pinned (OpenSpec.ofChange machApartSpec)

/-- ITS FALSE NEIGHBOUR: 'it returns false'. Refute it at one input. -/
def machApartWrong : ChangeSpec := { name := "machApart", fn := fun _ => fun
  | [d1, d2, d3, d4] => { results := [.lit (.bool false)], args := [d1, d2, d3, d4] }
  | _ => none }
def MachApartWrongFalsely : Prop := machApartRow.holds Tryz.pinned (OpenSpec.ofChange machApartWrong)

/-- 'warrantlaw08.MachOutput': WHATEVER THE INPUT: true; the input reads as it did. -/
def machOutputSpec : ChangeSpec := { name := "machOutput", fn := fun _ => fun
  | [d1, d2] => { results := [.lit (.bool true)], args := [d1, d2] }
  | _ => none }
def machOutputRow : OpenClaim := { program := "ytdepknffpnnmmaagreat", sum := "68cd0737621d0f308c05444f5c70246644c793f0b50b2fedd1143eb0a1b256c8", func := "warrant/warrantlaw08.MachOutput", spec := "machOutput", inPlace := ["sync/atomic.LoadUint32", "(*internal/sync.Mutex).Lock", "internal/race.Disable", "sync/atomic.CompareAndSwapInt32", "internal/race.Enable", "internal/race.Acquire", "(*internal/sync.Mutex).lockSlow", "internal/sync.runtime_canSpin", "internal/sync.runtime_doSpin", "internal/sync.throw", "internal/sync.runtime_nanotime", "internal/sync.runtime_SemacquireMutex", "sync/atomic.AddInt32", "(*internal/sync.Mutex).Unlock", "internal/race.ReleaseMerge", "(*internal/sync.Mutex).unlockSlow", "internal/sync.fatal", "internal/sync.runtime_Semrelease", "sync/atomic.StoreUint32", "internal/bytealg.Compare", "internal/bytealg.IndexByte"], unfollowed := true, recurses := true, apart := false }
def MachOutputSaid : Prop := machOutputRow.holds Tryz.pinned (OpenSpec.ofChange machOutputSpec)

/-- ITS FALSE NEIGHBOUR: 'it returns false'. Refute it at one input. -/
def machOutputWrong : ChangeSpec := { name := "machOutput", fn := fun _ => fun
  | [d1, d2] => { results := [.lit (.bool false)], args := [d1, d2] }
  | _ => none }
def MachOutputWrongFalsely : Prop := machOutputRow.holds Tryz.pinned (OpenSpec.ofChange machOutputWrong)

/- THE SECOND FORM. 'bulk': how many values and letters a reading holds, each counted each time it is reached (what is shared counts as often as it is met; a slice's spare places count too). A statement '..UptoSaid' is the law's where the arguments, and the package variables that the reading takes, are together of bulk at most 1048576: NARROWER than '..Said'. Prove '..Said' where nothing that the law and all that it calls make is longer than what came in: it says more and counts as full. Else prove '..UptoSaid'. A law counts once. -/
mutual
def uptoBulk {H : Type} : DataW H → Nat
  | .lit (.string bytes) => bytes.length + 1
  | .lit _ => 1
  | .nil => 1
  | .ptr d => uptoBulk d + 1
  | .slice elems spare => uptoBulkAll elems + uptoBulkAll spare + 1
  | .agg parts => uptoBulkAll parts + 1
  | .iface _ d => uptoBulk d + 1
  | .map entries => uptoBulkEntries entries + 1
  | .held _ => 1
def uptoBulkAll {H : Type} : List (DataW H) → Nat
  | [] => 0
  | d :: r => uptoBulk d + uptoBulkAll r
def uptoBulkEntries {H : Type} : List (Lit × DataW H) → Nat
  | [] => 0
  | x :: r => uptoBulkEntry x + uptoBulkEntries r
def uptoBulkEntry {H : Type} : Lit × DataW H → Nat
  | (.string bytes, d) => bytes.length + uptoBulk d + 1
  | (_, d) => uptoBulk d + 1
 end
def uptoSmall : (H : Type) → List (DataW H) → Bool := fun _ ds => decide (uptoBulkAll ds ≤ 1048576)
def OpenSpec.upto (s : _root_.Go.ChangeSpec) : _root_.Go.OpenSpec := { _root_.Go.OpenSpec.ofChange s with cond := some uptoSmall }

/-- 'warrantlaw08.MachSends', WHERE WHAT IT READS IS OF BULK AT MOST 1048576: true; the input reads as it did. -/
def machSendsUptoRow : OpenClaim := { program := "ytdepknffpnnmmaagreat", sum := "68cd0737621d0f308c05444f5c70246644c793f0b50b2fedd1143eb0a1b256c8", func := "warrant/warrantlaw08.MachSends", spec := "machSends", inPlace := ["sync/atomic.LoadUint32", "(*internal/sync.Mutex).Lock", "internal/race.Disable", "sync/atomic.CompareAndSwapInt32", "internal/race.Enable", "internal/race.Acquire", "(*internal/sync.Mutex).lockSlow", "internal/sync.runtime_canSpin", "internal/sync.runtime_doSpin", "internal/sync.throw", "internal/sync.runtime_nanotime", "internal/sync.runtime_SemacquireMutex", "sync/atomic.AddInt32", "(*internal/sync.Mutex).Unlock", "internal/race.ReleaseMerge", "(*internal/sync.Mutex).unlockSlow", "internal/sync.fatal", "internal/sync.runtime_Semrelease", "sync/atomic.StoreUint32", "internal/bytealg.Compare", "internal/bytealg.IndexByte"], unfollowed := true, recurses := true, apart := false, narrowed := true }
def MachSendsUptoSaid : Prop := machSendsUptoRow.holds Tryz.pinned (OpenSpec.upto machSendsSpec)

/-- 'warrantlaw08.MachHelps', WHERE WHAT IT READS IS OF BULK AT MOST 1048576: true; the input reads as it did. -/
def machHelpsUptoRow : OpenClaim := { program := "ytdepknffpnnmmaagreat", sum := "68cd0737621d0f308c05444f5c70246644c793f0b50b2fedd1143eb0a1b256c8", func := "warrant/warrantlaw08.MachHelps", spec := "machHelps", inPlace := ["sync/atomic.LoadUint32", "(*internal/sync.Mutex).Lock", "internal/race.Disable", "sync/atomic.CompareAndSwapInt32", "internal/race.Enable", "internal/race.Acquire", "(*internal/sync.Mutex).lockSlow", "internal/sync.runtime_canSpin", "internal/sync.runtime_doSpin", "internal/sync.throw", "internal/sync.runtime_nanotime", "internal/sync.runtime_SemacquireMutex", "sync/atomic.AddInt32", "(*internal/sync.Mutex).Unlock", "internal/race.ReleaseMerge", "(*internal/sync.Mutex).unlockSlow", "internal/sync.fatal", "internal/sync.runtime_Semrelease", "sync/atomic.StoreUint32", "internal/bytealg.Compare", "internal/bytealg.IndexByte"], unfollowed := true, recurses := true, apart := false, narrowed := true }
def MachHelpsUptoSaid : Prop := machHelpsUptoRow.holds Tryz.pinned (OpenSpec.upto machHelpsSpec)

/-- 'warrantlaw08.MachSplits', WHERE WHAT IT READS IS OF BULK AT MOST 1048576: true; the input reads as it did. -/
def machSplitsUptoRow : OpenClaim := { program := "ytdepknffpnnmmaagreat", sum := "68cd0737621d0f308c05444f5c70246644c793f0b50b2fedd1143eb0a1b256c8", func := "warrant/warrantlaw08.MachSplits", spec := "machSplits", inPlace := ["sync/atomic.LoadUint32", "(*internal/sync.Mutex).Lock", "internal/race.Disable", "sync/atomic.CompareAndSwapInt32", "internal/race.Enable", "internal/race.Acquire", "(*internal/sync.Mutex).lockSlow", "internal/sync.runtime_canSpin", "internal/sync.runtime_doSpin", "internal/sync.throw", "internal/sync.runtime_nanotime", "internal/sync.runtime_SemacquireMutex", "sync/atomic.AddInt32", "(*internal/sync.Mutex).Unlock", "internal/race.ReleaseMerge", "(*internal/sync.Mutex).unlockSlow", "internal/sync.fatal", "internal/sync.runtime_Semrelease", "sync/atomic.StoreUint32", "internal/bytealg.Compare", "internal/bytealg.IndexByte"], unfollowed := true, recurses := true, apart := false, narrowed := true }
def MachSplitsUptoSaid : Prop := machSplitsUptoRow.holds Tryz.pinned (OpenSpec.upto machSplitsSpec)

/-- 'warrantlaw08.MachApart', WHERE WHAT IT READS IS OF BULK AT MOST 1048576: true; the input reads as it did. -/
def machApartUptoRow : OpenClaim := { program := "ytdepknffpnnmmaagreat", sum := "68cd0737621d0f308c05444f5c70246644c793f0b50b2fedd1143eb0a1b256c8", func := "warrant/warrantlaw08.MachApart", spec := "machApart", inPlace := ["sync/atomic.LoadUint32", "(*internal/sync.Mutex).Lock", "internal/race.Disable", "sync/atomic.CompareAndSwapInt32", "internal/race.Enable", "internal/race.Acquire", "(*internal/sync.Mutex).lockSlow", "internal/sync.runtime_canSpin", "internal/sync.runtime_doSpin", "internal/sync.throw", "internal/sync.runtime_nanotime", "internal/sync.runtime_SemacquireMutex", "sync/atomic.AddInt32", "(*internal/sync.Mutex).Unlock", "internal/race.ReleaseMerge", "(*internal/sync.Mutex).unlockSlow", "internal/sync.fatal", "internal/sync.runtime_Semrelease", "sync/atomic.StoreUint32", "internal/bytealg.Compare", "internal/bytealg.IndexByte"], unfollowed := true, recurses := true, apart := false, narrowed := true }
def MachApartUptoSaid : Prop := machApartUptoRow.holds Tryz.pinned (OpenSpec.upto machApartSpec)

/-- 'warrantlaw08.MachOutput', WHERE WHAT IT READS IS OF BULK AT MOST 1048576: true; the input reads as it did. -/
def machOutputUptoRow : OpenClaim := { program := "ytdepknffpnnmmaagreat", sum := "68cd0737621d0f308c05444f5c70246644c793f0b50b2fedd1143eb0a1b256c8", func := "warrant/warrantlaw08.MachOutput", spec := "machOutput", inPlace := ["sync/atomic.LoadUint32", "(*internal/sync.Mutex).Lock", "internal/race.Disable", "sync/atomic.CompareAndSwapInt32", "internal/race.Enable", "internal/race.Acquire", "(*internal/sync.Mutex).lockSlow", "internal/sync.runtime_canSpin", "internal/sync.runtime_doSpin", "internal/sync.throw", "internal/sync.runtime_nanotime", "internal/sync.runtime_SemacquireMutex", "sync/atomic.AddInt32", "(*internal/sync.Mutex).Unlock", "internal/race.ReleaseMerge", "(*internal/sync.Mutex).unlockSlow", "internal/sync.fatal", "internal/sync.runtime_Semrelease", "sync/atomic.StoreUint32", "internal/bytealg.Compare", "internal/bytealg.IndexByte"], unfollowed := true, recurses := true, apart := false, narrowed := true }
def MachOutputUptoSaid : Prop := machOutputUptoRow.holds Tryz.pinned (OpenSpec.upto machOutputSpec)

end Rows
end Go.Proofs.YtdepknffpnnmmaaGreat

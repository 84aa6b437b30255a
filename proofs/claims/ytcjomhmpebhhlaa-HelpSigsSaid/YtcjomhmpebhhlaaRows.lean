/-
  No cell of these rows narrows 'for every input' (looked for: loops, veiled, ifaces, maps, wideKeys, modest, calm, conditions, laid).
  DERIVED. THE GIVEN ROWS OF THIS SEAT. 6 by the template 'for every input the law returns true; each argument reads behind the call as it read before'; 0 by the template 'total and deterministic' (their statements: YtcjomhmpebhhlaaTotals.lean).
  GIVEN WITH THE SEED: the statements are not yours to turn. If you find one false, say at which input.
  Laid BY PROGRAM, IN A SANDBOX (cutbox-rows.mjs): the forced cells as the released guide's own fill.sh prints them over the translation ce77cf1b39605047… (all of the seat's roots in one cut). By AI agents, Wed Nov 11 2026. No macro, syntax, notation, axiom, sorry.
-/
import Derived.Test.YtcjomhmpebhhlaaChecked
import GoSem.Claim
import GoSem.ClaimJoined
import GoSem.ClaimMapViews
import Derived.JoinedTies
import Derived.KernelRfl
namespace Go.Proofs.Ytcjomhmpebhhlaa
/- THE CELL 'sum', in the pinned program and in every row, IS THE sha256 OF THE DUMP (.gsa) THAT YtcjomhmpebhhlaaProg.lean LOADS. Nothing in Lean hashes anything: it is a label: what it is worth is what the hold of that sum in a sandbox is worth. -/
noncomputable def Try.pinned : Pinned := { name := "ytcjomhmpebhhlaa", sum := "ce77cf1b396050474e2e9257053f6fca11f3a5f905309607880a68aa75a7a5b6", checked := Try.checked }
namespace Rows
def none {H : Type} : Left H := { results := [], args := [] }

/-- 'warrantlaw01.WordPuts': WHATEVER THE INPUT: true; the input reads as it did. -/
def wordPutsSpec : ChangeSpec := { name := "wordPuts", fn := fun _ => fun
  | [d1, d2] => { results := [.lit (.bool true)], args := [d1, d2] }
  | _ => none }
def wordPutsRow : OpenClaim := { program := "ytcjomhmpebhhlaa", sum := "ce77cf1b396050474e2e9257053f6fca11f3a5f905309607880a68aa75a7a5b6", func := "warrant/warrantlaw01.WordPuts", spec := "wordPuts", apart := false }
def WordPutsSaid : Prop := wordPutsRow.holds Try.pinned (OpenSpec.ofChange wordPutsSpec)

/-- ITS FALSE NEIGHBOUR: 'it returns false'. Refute it at one input. -/
def wordPutsWrong : ChangeSpec := { name := "wordPuts", fn := fun _ => fun
  | [d1, d2] => { results := [.lit (.bool false)], args := [d1, d2] }
  | _ => none }
def WordPutsWrongFalsely : Prop := wordPutsRow.holds Try.pinned (OpenSpec.ofChange wordPutsWrong)

/-- 'warrantlaw01.WordGets': WHATEVER THE INPUT: true; the input reads as it did. -/
def wordGetsSpec : ChangeSpec := { name := "wordGets", fn := fun _ => fun
  | [d] => { results := [.lit (.bool true)], args := [d] }
  | _ => none }
def wordGetsRow : OpenClaim := { program := "ytcjomhmpebhhlaa", sum := "ce77cf1b396050474e2e9257053f6fca11f3a5f905309607880a68aa75a7a5b6", func := "warrant/warrantlaw01.WordGets", spec := "wordGets", apart := false }
def WordGetsSaid : Prop := wordGetsRow.holds Try.pinned (OpenSpec.ofChange wordGetsSpec)

/-- ITS FALSE NEIGHBOUR: 'it returns false'. Refute it at one input. -/
def wordGetsWrong : ChangeSpec := { name := "wordGets", fn := fun _ => fun
  | [d] => { results := [.lit (.bool false)], args := [d] }
  | _ => none }
def WordGetsWrongFalsely : Prop := wordGetsRow.holds Try.pinned (OpenSpec.ofChange wordGetsWrong)

/-- 'warrantlaw06.SpanMakes': WHATEVER THE INPUT: true; the input reads as it did. -/
def spanMakesSpec : ChangeSpec := { name := "spanMakes", fn := fun _ => fun
  | [d1, d2, d3, d4, d5] => { results := [.lit (.bool true)], args := [d1, d2, d3, d4, d5] }
  | _ => none }
def spanMakesRow : OpenClaim := { program := "ytcjomhmpebhhlaa", sum := "ce77cf1b396050474e2e9257053f6fca11f3a5f905309607880a68aa75a7a5b6", func := "warrant/warrantlaw06.SpanMakes", spec := "spanMakes", apart := false }
def SpanMakesSaid : Prop := spanMakesRow.holds Try.pinned (OpenSpec.ofChange spanMakesSpec)

/-- ITS FALSE NEIGHBOUR: 'it returns false'. Refute it at one input. -/
def spanMakesWrong : ChangeSpec := { name := "spanMakes", fn := fun _ => fun
  | [d1, d2, d3, d4, d5] => { results := [.lit (.bool false)], args := [d1, d2, d3, d4, d5] }
  | _ => none }
def SpanMakesWrongFalsely : Prop := spanMakesRow.holds Try.pinned (OpenSpec.ofChange spanMakesWrong)

/-- 'warrantlaw07.HelpSigs': WHATEVER THE INPUT: true; the input reads as it did. -/
def helpSigsSpec : ChangeSpec := { name := "helpSigs", fn := fun _ => fun
  | [d] => { results := [.lit (.bool true)], args := [d] }
  | _ => none }
def helpSigsRow : OpenClaim := { program := "ytcjomhmpebhhlaa", sum := "ce77cf1b396050474e2e9257053f6fca11f3a5f905309607880a68aa75a7a5b6", func := "warrant/warrantlaw07.HelpSigs", spec := "helpSigs", inPlace := ["sync/atomic.LoadUint32", "(*internal/sync.Mutex).Lock", "internal/race.Disable", "sync/atomic.CompareAndSwapInt32", "internal/race.Enable", "internal/race.Acquire", "(*internal/sync.Mutex).lockSlow", "internal/sync.runtime_canSpin", "internal/sync.runtime_doSpin", "internal/sync.throw", "internal/sync.runtime_nanotime", "internal/sync.runtime_SemacquireMutex", "sync/atomic.AddInt32", "(*internal/sync.Mutex).Unlock", "internal/race.ReleaseMerge", "(*internal/sync.Mutex).unlockSlow", "internal/sync.fatal", "internal/sync.runtime_Semrelease", "sync/atomic.StoreUint32", "internal/bytealg.Compare", "internal/bytealg.IndexByte"], unfollowed := true, recurses := true, apart := false }
def HelpSigsSaid : Prop := helpSigsRow.holds Try.pinned (OpenSpec.ofChange helpSigsSpec)

/-- ITS FALSE NEIGHBOUR: 'it returns false'. Refute it at one input. -/
def helpSigsWrong : ChangeSpec := { name := "helpSigs", fn := fun _ => fun
  | [d] => { results := [.lit (.bool false)], args := [d] }
  | _ => none }
def HelpSigsWrongFalsely : Prop := helpSigsRow.holds Try.pinned (OpenSpec.ofChange helpSigsWrong)

/-- 'warrantlaw07.HelpWords': WHATEVER THE INPUT: true; the input reads as it did. -/
def helpWordsSpec : ChangeSpec := { name := "helpWords", fn := fun _ => fun
  | [d1, d2, d3, d4] => { results := [.lit (.bool true)], args := [d1, d2, d3, d4] }
  | _ => none }
def helpWordsRow : OpenClaim := { program := "ytcjomhmpebhhlaa", sum := "ce77cf1b396050474e2e9257053f6fca11f3a5f905309607880a68aa75a7a5b6", func := "warrant/warrantlaw07.HelpWords", spec := "helpWords", inPlace := ["sync/atomic.LoadUint32", "(*internal/sync.Mutex).Lock", "internal/race.Disable", "sync/atomic.CompareAndSwapInt32", "internal/race.Enable", "internal/race.Acquire", "(*internal/sync.Mutex).lockSlow", "internal/sync.runtime_canSpin", "internal/sync.runtime_doSpin", "internal/sync.throw", "internal/sync.runtime_nanotime", "internal/sync.runtime_SemacquireMutex", "sync/atomic.AddInt32", "(*internal/sync.Mutex).Unlock", "internal/race.ReleaseMerge", "(*internal/sync.Mutex).unlockSlow", "internal/sync.fatal", "internal/sync.runtime_Semrelease", "sync/atomic.StoreUint32", "internal/bytealg.Compare", "internal/bytealg.IndexByte"], unfollowed := true, recurses := true, apart := false }
def HelpWordsSaid : Prop := helpWordsRow.holds Try.pinned (OpenSpec.ofChange helpWordsSpec)

/-- ITS FALSE NEIGHBOUR: 'it returns false'. Refute it at one input. -/
def helpWordsWrong : ChangeSpec := { name := "helpWords", fn := fun _ => fun
  | [d1, d2, d3, d4] => { results := [.lit (.bool false)], args := [d1, d2, d3, d4] }
  | _ => none }
def HelpWordsWrongFalsely : Prop := helpWordsRow.holds Try.pinned (OpenSpec.ofChange helpWordsWrong)

/-- 'warrantlaw07.HelpSpans': WHATEVER THE INPUT: true; the input reads as it did. -/
def helpSpansSpec : ChangeSpec := { name := "helpSpans", fn := fun _ => fun
  | [d1, d2, d3] => { results := [.lit (.bool true)], args := [d1, d2, d3] }
  | _ => none }
def helpSpansRow : OpenClaim := { program := "ytcjomhmpebhhlaa", sum := "ce77cf1b396050474e2e9257053f6fca11f3a5f905309607880a68aa75a7a5b6", func := "warrant/warrantlaw07.HelpSpans", spec := "helpSpans", inPlace := ["sync/atomic.LoadUint32", "(*internal/sync.Mutex).Lock", "internal/race.Disable", "sync/atomic.CompareAndSwapInt32", "internal/race.Enable", "internal/race.Acquire", "(*internal/sync.Mutex).lockSlow", "internal/sync.runtime_canSpin", "internal/sync.runtime_doSpin", "internal/sync.throw", "internal/sync.runtime_nanotime", "internal/sync.runtime_SemacquireMutex", "sync/atomic.AddInt32", "(*internal/sync.Mutex).Unlock", "internal/race.ReleaseMerge", "(*internal/sync.Mutex).unlockSlow", "internal/sync.fatal", "internal/sync.runtime_Semrelease", "sync/atomic.StoreUint32", "internal/bytealg.Compare", "internal/bytealg.IndexByte"], unfollowed := true, recurses := true, apart := false }
def HelpSpansSaid : Prop := helpSpansRow.holds Try.pinned (OpenSpec.ofChange helpSpansSpec)

/-- ITS FALSE NEIGHBOUR: 'it returns false'. Refute it at one input. -/
def helpSpansWrong : ChangeSpec := { name := "helpSpans", fn := fun _ => fun
  | [d1, d2, d3] => { results := [.lit (.bool false)], args := [d1, d2, d3] }
  | _ => none }
def HelpSpansWrongFalsely : Prop := helpSpansRow.holds Try.pinned (OpenSpec.ofChange helpSpansWrong)

/- THE SECOND FORM. 'bulk': how many values and letters a reading holds, each counted each time it is reached (what is shared counts as often as it is met; a slice's spare places count too). A statement '..UptoSaid' is the law's where the arguments, and the package variables that the reading takes, are together of bulk at most 1048576: NARROWER than '..Said'. Prove '..Said' where nothing that the law and all that it calls make is longer than what came in: it says more and counts as full. Else prove '..UptoSaid'. A law counts once. -/
mutual
def uptoBulk {H : Type} : DataW H → Nat
  | .lit (.string bytes) => bytes.length + 1
  | .lit _ => 1
  | .nil => 1
  | .ptr d => uptoBulk d + 1
  | .slice elems spare => uptoBulkAll elems + uptoBulkAll spare + 1
  | .agg parts => uptoBulkAll parts + 1
  | .iface _ d => uptoBulk d + 1
  | .map entries => uptoBulkEntries entries + 1
  | .held _ => 1
def uptoBulkAll {H : Type} : List (DataW H) → Nat
  | [] => 0
  | d :: r => uptoBulk d + uptoBulkAll r
def uptoBulkEntries {H : Type} : List (Lit × DataW H) → Nat
  | [] => 0
  | x :: r => uptoBulkEntry x + uptoBulkEntries r
def uptoBulkEntry {H : Type} : Lit × DataW H → Nat
  | (.string bytes, d) => bytes.length + uptoBulk d + 1
  | (_, d) => uptoBulk d + 1
 end
def uptoSmall : (H : Type) → List (DataW H) → Bool := fun _ ds => decide (uptoBulkAll ds ≤ 1048576)
def OpenSpec.upto (s : _root_.Go.ChangeSpec) : _root_.Go.OpenSpec := { _root_.Go.OpenSpec.ofChange s with cond := some uptoSmall }

/-- 'warrantlaw01.WordPuts', WHERE WHAT IT READS IS OF BULK AT MOST 1048576: true; the input reads as it did. -/
def wordPutsUptoRow : OpenClaim := { program := "ytcjomhmpebhhlaa", sum := "ce77cf1b396050474e2e9257053f6fca11f3a5f905309607880a68aa75a7a5b6", func := "warrant/warrantlaw01.WordPuts", spec := "wordPuts", apart := false, narrowed := true }
def WordPutsUptoSaid : Prop := wordPutsUptoRow.holds Try.pinned (OpenSpec.upto wordPutsSpec)

/-- 'warrantlaw01.WordGets', WHERE WHAT IT READS IS OF BULK AT MOST 1048576: true; the input reads as it did. -/
def wordGetsUptoRow : OpenClaim := { program := "ytcjomhmpebhhlaa", sum := "ce77cf1b396050474e2e9257053f6fca11f3a5f905309607880a68aa75a7a5b6", func := "warrant/warrantlaw01.WordGets", spec := "wordGets", apart := false, narrowed := true }
def WordGetsUptoSaid : Prop := wordGetsUptoRow.holds Try.pinned (OpenSpec.upto wordGetsSpec)

/-- 'warrantlaw06.SpanMakes', WHERE WHAT IT READS IS OF BULK AT MOST 1048576: true; the input reads as it did. -/
def spanMakesUptoRow : OpenClaim := { program := "ytcjomhmpebhhlaa", sum := "ce77cf1b396050474e2e9257053f6fca11f3a5f905309607880a68aa75a7a5b6", func := "warrant/warrantlaw06.SpanMakes", spec := "spanMakes", apart := false, narrowed := true }
def SpanMakesUptoSaid : Prop := spanMakesUptoRow.holds Try.pinned (OpenSpec.upto spanMakesSpec)

/-- 'warrantlaw07.HelpSigs', WHERE WHAT IT READS IS OF BULK AT MOST 1048576: true; the input reads as it did. -/
def helpSigsUptoRow : OpenClaim := { program := "ytcjomhmpebhhlaa", sum := "ce77cf1b396050474e2e9257053f6fca11f3a5f905309607880a68aa75a7a5b6", func := "warrant/warrantlaw07.HelpSigs", spec := "helpSigs", inPlace := ["sync/atomic.LoadUint32", "(*internal/sync.Mutex).Lock", "internal/race.Disable", "sync/atomic.CompareAndSwapInt32", "internal/race.Enable", "internal/race.Acquire", "(*internal/sync.Mutex).lockSlow", "internal/sync.runtime_canSpin", "internal/sync.runtime_doSpin", "internal/sync.throw", "internal/sync.runtime_nanotime", "internal/sync.runtime_SemacquireMutex", "sync/atomic.AddInt32", "(*internal/sync.Mutex).Unlock", "internal/race.ReleaseMerge", "(*internal/sync.Mutex).unlockSlow", "internal/sync.fatal", "internal/sync.runtime_Semrelease", "sync/atomic.StoreUint32", "internal/bytealg.Compare", "internal/bytealg.IndexByte"], unfollowed := true, recurses := true, apart := false, narrowed := true }
def HelpSigsUptoSaid : Prop := helpSigsUptoRow.holds Try.pinned (OpenSpec.upto helpSigsSpec)

/-- 'warrantlaw07.HelpWords', WHERE WHAT IT READS IS OF BULK AT MOST 1048576: true; the input reads as it did. -/
def helpWordsUptoRow : OpenClaim := { program := "ytcjomhmpebhhlaa", sum := "ce77cf1b396050474e2e9257053f6fca11f3a5f905309607880a68aa75a7a5b6", func := "warrant/warrantlaw07.HelpWords", spec := "helpWords", inPlace := ["sync/atomic.LoadUint32", "(*internal/sync.Mutex).Lock", "internal/race.Disable", "sync/atomic.CompareAndSwapInt32", "internal/race.Enable", "internal/race.Acquire", "(*internal/sync.Mutex).lockSlow", "internal/sync.runtime_canSpin", "internal/sync.runtime_doSpin", "internal/sync.throw", "internal/sync.runtime_nanotime", "internal/sync.runtime_SemacquireMutex", "sync/atomic.AddInt32", "(*internal/sync.Mutex).Unlock", "internal/race.ReleaseMerge", "(*internal/sync.Mutex).unlockSlow", "internal/sync.fatal", "internal/sync.runtime_Semrelease", "sync/atomic.StoreUint32", "internal/bytealg.Compare", "internal/bytealg.IndexByte"], unfollowed := true, recurses := true, apart := false, narrowed := true }
def HelpWordsUptoSaid : Prop := helpWordsUptoRow.holds Try.pinned (OpenSpec.upto helpWordsSpec)

/-- 'warrantlaw07.HelpSpans', WHERE WHAT IT READS IS OF BULK AT MOST 1048576: true; the input reads as it did. -/
def helpSpansUptoRow : OpenClaim := { program := "ytcjomhmpebhhlaa", sum := "ce77cf1b396050474e2e9257053f6fca11f3a5f905309607880a68aa75a7a5b6", func := "warrant/warrantlaw07.HelpSpans", spec := "helpSpans", inPlace := ["sync/atomic.LoadUint32", "(*internal/sync.Mutex).Lock", "internal/race.Disable", "sync/atomic.CompareAndSwapInt32", "internal/race.Enable", "internal/race.Acquire", "(*internal/sync.Mutex).lockSlow", "internal/sync.runtime_canSpin", "internal/sync.runtime_doSpin", "internal/sync.throw", "internal/sync.runtime_nanotime", "internal/sync.runtime_SemacquireMutex", "sync/atomic.AddInt32", "(*internal/sync.Mutex).Unlock", "internal/race.ReleaseMerge", "(*internal/sync.Mutex).unlockSlow", "internal/sync.fatal", "internal/sync.runtime_Semrelease", "sync/atomic.StoreUint32", "internal/bytealg.Compare", "internal/bytealg.IndexByte"], unfollowed := true, recurses := true, apart := false, narrowed := true }
def HelpSpansUptoSaid : Prop := helpSpansUptoRow.holds Try.pinned (OpenSpec.upto helpSpansSpec)

end Rows
end Go.Proofs.Ytcjomhmpebhhlaa

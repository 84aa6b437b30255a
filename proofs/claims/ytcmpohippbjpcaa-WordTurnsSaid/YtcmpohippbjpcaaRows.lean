/-
  No cell of these rows narrows 'for every input' (looked for: loops, veiled, ifaces, maps, wideKeys, modest, calm, conditions, laid).
  DERIVED. THE GIVEN ROWS OF THIS SEAT. 13 by the template 'for every input the law returns true; each argument reads behind the call as it read before'; 0 by the template 'total and deterministic' (their statements: YtcmpohippbjpcaaTotals.lean).
  GIVEN WITH THE SEED: the statements are not yours to turn. If you find one false, say at which input.
  Laid BY PROGRAM, IN A SANDBOX (cutbox-rows.mjs): the forced cells as the released guide's own fill.sh prints them over the translation 8619e2919cf9bec8… (all of the seat's roots in one cut). By AI agents, Wed Nov 11 2026. No macro, syntax, notation, axiom, sorry.
-/
import Derived.Test.YtcmpohippbjpcaaChecked
import GoSem.Claim
import GoSem.ClaimJoined
import GoSem.ClaimMapViews
import Derived.JoinedTies
import Derived.KernelRfl
namespace Go.Proofs.Ytcmpohippbjpcaa
/- THE CELL 'sum', in the pinned program and in every row, IS THE sha256 OF THE DUMP (.gsa) THAT YtcmpohippbjpcaaProg.lean LOADS. Nothing in Lean hashes anything: it is a label: what it is worth is what the hold of that sum in a sandbox is worth. -/
noncomputable def Try.pinned : Pinned := { name := "ytcmpohippbjpcaa", sum := "8619e2919cf9bec86d4ab9def8fd56709b7604e44935d9fe4b0875e1674a704e", checked := Try.checked }
namespace Rows
def none {H : Type} : Left H := { results := [], args := [] }

/-- 'warrantlaw01.WordPuts': WHATEVER THE INPUT: true; the input reads as it did. -/
def wordPutsSpec : ChangeSpec := { name := "wordPuts", fn := fun _ => fun
  | [d1, d2] => { results := [.lit (.bool true)], args := [d1, d2] }
  | _ => none }
def wordPutsRow : OpenClaim := { program := "ytcmpohippbjpcaa", sum := "8619e2919cf9bec86d4ab9def8fd56709b7604e44935d9fe4b0875e1674a704e", func := "warrant/warrantlaw01.WordPuts", spec := "wordPuts", apart := false }
def WordPutsSaid : Prop := wordPutsRow.holds Try.pinned (OpenSpec.ofChange wordPutsSpec)

/-- ITS FALSE NEIGHBOUR: 'it returns false'. Refute it at one input. -/
def wordPutsWrong : ChangeSpec := { name := "wordPuts", fn := fun _ => fun
  | [d1, d2] => { results := [.lit (.bool false)], args := [d1, d2] }
  | _ => none }
def WordPutsWrongFalsely : Prop := wordPutsRow.holds Try.pinned (OpenSpec.ofChange wordPutsWrong)

/-- 'warrantlaw01.WordGets': WHATEVER THE INPUT: true; the input reads as it did. -/
def wordGetsSpec : ChangeSpec := { name := "wordGets", fn := fun _ => fun
  | [d] => { results := [.lit (.bool true)], args := [d] }
  | _ => none }
def wordGetsRow : OpenClaim := { program := "ytcmpohippbjpcaa", sum := "8619e2919cf9bec86d4ab9def8fd56709b7604e44935d9fe4b0875e1674a704e", func := "warrant/warrantlaw01.WordGets", spec := "wordGets", apart := false }
def WordGetsSaid : Prop := wordGetsRow.holds Try.pinned (OpenSpec.ofChange wordGetsSpec)

/-- ITS FALSE NEIGHBOUR: 'it returns false'. Refute it at one input. -/
def wordGetsWrong : ChangeSpec := { name := "wordGets", fn := fun _ => fun
  | [d] => { results := [.lit (.bool false)], args := [d] }
  | _ => none }
def WordGetsWrongFalsely : Prop := wordGetsRow.holds Try.pinned (OpenSpec.ofChange wordGetsWrong)

/-- 'warrantlaw01.WordExtends': WHATEVER THE INPUT: true; the input reads as it did. -/
def wordExtendsSpec : ChangeSpec := { name := "wordExtends", fn := fun _ => fun
  | [d1, d2] => { results := [.lit (.bool true)], args := [d1, d2] }
  | _ => none }
def wordExtendsRow : OpenClaim := { program := "ytcmpohippbjpcaa", sum := "8619e2919cf9bec86d4ab9def8fd56709b7604e44935d9fe4b0875e1674a704e", func := "warrant/warrantlaw01.WordExtends", spec := "wordExtends", apart := false }
def WordExtendsSaid : Prop := wordExtendsRow.holds Try.pinned (OpenSpec.ofChange wordExtendsSpec)

/-- ITS FALSE NEIGHBOUR: 'it returns false'. Refute it at one input. -/
def wordExtendsWrong : ChangeSpec := { name := "wordExtends", fn := fun _ => fun
  | [d1, d2] => { results := [.lit (.bool false)], args := [d1, d2] }
  | _ => none }
def WordExtendsWrongFalsely : Prop := wordExtendsRow.holds Try.pinned (OpenSpec.ofChange wordExtendsWrong)

/-- 'warrantlaw01.WordBack': WHATEVER THE INPUT: true; the input reads as it did. -/
def wordBackSpec : ChangeSpec := { name := "wordBack", fn := fun _ => fun
  | [d1, d2] => { results := [.lit (.bool true)], args := [d1, d2] }
  | _ => none }
def wordBackRow : OpenClaim := { program := "ytcmpohippbjpcaa", sum := "8619e2919cf9bec86d4ab9def8fd56709b7604e44935d9fe4b0875e1674a704e", func := "warrant/warrantlaw01.WordBack", spec := "wordBack", apart := false }
def WordBackSaid : Prop := wordBackRow.holds Try.pinned (OpenSpec.ofChange wordBackSpec)

/-- ITS FALSE NEIGHBOUR: 'it returns false'. Refute it at one input. -/
def wordBackWrong : ChangeSpec := { name := "wordBack", fn := fun _ => fun
  | [d1, d2] => { results := [.lit (.bool false)], args := [d1, d2] }
  | _ => none }
def WordBackWrongFalsely : Prop := wordBackRow.holds Try.pinned (OpenSpec.ofChange wordBackWrong)

/-- 'warrantlaw01.WordSwaps': WHATEVER THE INPUT: true; the input reads as it did. -/
def wordSwapsSpec : ChangeSpec := { name := "wordSwaps", fn := fun _ => fun
  | [d1, d2] => { results := [.lit (.bool true)], args := [d1, d2] }
  | _ => none }
def wordSwapsRow : OpenClaim := { program := "ytcmpohippbjpcaa", sum := "8619e2919cf9bec86d4ab9def8fd56709b7604e44935d9fe4b0875e1674a704e", func := "warrant/warrantlaw01.WordSwaps", spec := "wordSwaps", apart := false }
def WordSwapsSaid : Prop := wordSwapsRow.holds Try.pinned (OpenSpec.ofChange wordSwapsSpec)

/-- ITS FALSE NEIGHBOUR: 'it returns false'. Refute it at one input. -/
def wordSwapsWrong : ChangeSpec := { name := "wordSwaps", fn := fun _ => fun
  | [d1, d2] => { results := [.lit (.bool false)], args := [d1, d2] }
  | _ => none }
def WordSwapsWrongFalsely : Prop := wordSwapsRow.holds Try.pinned (OpenSpec.ofChange wordSwapsWrong)

/-- 'warrantlaw01.WordHolds': WHATEVER THE INPUT: true; the input reads as it did. -/
def wordHoldsSpec : ChangeSpec := { name := "wordHolds", fn := fun _ => fun
  | [d] => { results := [.lit (.bool true)], args := [d] }
  | _ => none }
def wordHoldsRow : OpenClaim := { program := "ytcmpohippbjpcaa", sum := "8619e2919cf9bec86d4ab9def8fd56709b7604e44935d9fe4b0875e1674a704e", func := "warrant/warrantlaw01.WordHolds", spec := "wordHolds", apart := false }
def WordHoldsSaid : Prop := wordHoldsRow.holds Try.pinned (OpenSpec.ofChange wordHoldsSpec)

/-- ITS FALSE NEIGHBOUR: 'it returns false'. Refute it at one input. -/
def wordHoldsWrong : ChangeSpec := { name := "wordHolds", fn := fun _ => fun
  | [d] => { results := [.lit (.bool false)], args := [d] }
  | _ => none }
def WordHoldsWrongFalsely : Prop := wordHoldsRow.holds Try.pinned (OpenSpec.ofChange wordHoldsWrong)

/-- 'warrantlaw01.WordOrders': WHATEVER THE INPUT: true; the input reads as it did. -/
def wordOrdersSpec : ChangeSpec := { name := "wordOrders", fn := fun _ => fun
  | [d1, d2] => { results := [.lit (.bool true)], args := [d1, d2] }
  | _ => none }
def wordOrdersRow : OpenClaim := { program := "ytcmpohippbjpcaa", sum := "8619e2919cf9bec86d4ab9def8fd56709b7604e44935d9fe4b0875e1674a704e", func := "warrant/warrantlaw01.WordOrders", spec := "wordOrders", apart := false }
def WordOrdersSaid : Prop := wordOrdersRow.holds Try.pinned (OpenSpec.ofChange wordOrdersSpec)

/-- ITS FALSE NEIGHBOUR: 'it returns false'. Refute it at one input. -/
def wordOrdersWrong : ChangeSpec := { name := "wordOrders", fn := fun _ => fun
  | [d1, d2] => { results := [.lit (.bool false)], args := [d1, d2] }
  | _ => none }
def WordOrdersWrongFalsely : Prop := wordOrdersRow.holds Try.pinned (OpenSpec.ofChange wordOrdersWrong)

/-- 'warrantlaw01.WordAlus': WHATEVER THE INPUT: true; the input reads as it did. -/
def wordAlusSpec : ChangeSpec := { name := "wordAlus", fn := fun _ => fun
  | [d] => { results := [.lit (.bool true)], args := [d] }
  | _ => none }
def wordAlusRow : OpenClaim := { program := "ytcmpohippbjpcaa", sum := "8619e2919cf9bec86d4ab9def8fd56709b7604e44935d9fe4b0875e1674a704e", func := "warrant/warrantlaw01.WordAlus", spec := "wordAlus", unfollowed := true, recurses := true, apart := false }
def WordAlusSaid : Prop := wordAlusRow.holds Try.pinned (OpenSpec.ofChange wordAlusSpec)

/-- ITS FALSE NEIGHBOUR: 'it returns false'. Refute it at one input. -/
def wordAlusWrong : ChangeSpec := { name := "wordAlus", fn := fun _ => fun
  | [d] => { results := [.lit (.bool false)], args := [d] }
  | _ => none }
def WordAlusWrongFalsely : Prop := wordAlusRow.holds Try.pinned (OpenSpec.ofChange wordAlusWrong)

/-- 'warrantlaw01.WordDivides': WHATEVER THE INPUT: true; the input reads as it did. -/
def wordDividesSpec : ChangeSpec := { name := "wordDivides", fn := fun _ => fun
  | [d1, d2] => { results := [.lit (.bool true)], args := [d1, d2] }
  | _ => none }
def wordDividesRow : OpenClaim := { program := "ytcmpohippbjpcaa", sum := "8619e2919cf9bec86d4ab9def8fd56709b7604e44935d9fe4b0875e1674a704e", func := "warrant/warrantlaw01.WordDivides", spec := "wordDivides", unfollowed := true, recurses := true, apart := false }
def WordDividesSaid : Prop := wordDividesRow.holds Try.pinned (OpenSpec.ofChange wordDividesSpec)

/-- ITS FALSE NEIGHBOUR: 'it returns false'. Refute it at one input. -/
def wordDividesWrong : ChangeSpec := { name := "wordDivides", fn := fun _ => fun
  | [d1, d2] => { results := [.lit (.bool false)], args := [d1, d2] }
  | _ => none }
def WordDividesWrongFalsely : Prop := wordDividesRow.holds Try.pinned (OpenSpec.ofChange wordDividesWrong)

/-- 'warrantlaw01.WordShifts': WHATEVER THE INPUT: true; the input reads as it did. -/
def wordShiftsSpec : ChangeSpec := { name := "wordShifts", fn := fun _ => fun
  | [d1, d2] => { results := [.lit (.bool true)], args := [d1, d2] }
  | _ => none }
def wordShiftsRow : OpenClaim := { program := "ytcmpohippbjpcaa", sum := "8619e2919cf9bec86d4ab9def8fd56709b7604e44935d9fe4b0875e1674a704e", func := "warrant/warrantlaw01.WordShifts", spec := "wordShifts", unfollowed := true, recurses := true, apart := false }
def WordShiftsSaid : Prop := wordShiftsRow.holds Try.pinned (OpenSpec.ofChange wordShiftsSpec)

/-- ITS FALSE NEIGHBOUR: 'it returns false'. Refute it at one input. -/
def wordShiftsWrong : ChangeSpec := { name := "wordShifts", fn := fun _ => fun
  | [d1, d2] => { results := [.lit (.bool false)], args := [d1, d2] }
  | _ => none }
def WordShiftsWrongFalsely : Prop := wordShiftsRow.holds Try.pinned (OpenSpec.ofChange wordShiftsWrong)

/-- 'warrantlaw01.WordAdds': WHATEVER THE INPUT: true; the input reads as it did. -/
def wordAddsSpec : ChangeSpec := { name := "wordAdds", fn := fun _ => fun
  | [d1, d2, d3] => { results := [.lit (.bool true)], args := [d1, d2, d3] }
  | _ => none }
def wordAddsRow : OpenClaim := { program := "ytcmpohippbjpcaa", sum := "8619e2919cf9bec86d4ab9def8fd56709b7604e44935d9fe4b0875e1674a704e", func := "warrant/warrantlaw01.WordAdds", spec := "wordAdds", unfollowed := true, recurses := true, apart := false }
def WordAddsSaid : Prop := wordAddsRow.holds Try.pinned (OpenSpec.ofChange wordAddsSpec)

/-- ITS FALSE NEIGHBOUR: 'it returns false'. Refute it at one input. -/
def wordAddsWrong : ChangeSpec := { name := "wordAdds", fn := fun _ => fun
  | [d1, d2, d3] => { results := [.lit (.bool false)], args := [d1, d2, d3] }
  | _ => none }
def WordAddsWrongFalsely : Prop := wordAddsRow.holds Try.pinned (OpenSpec.ofChange wordAddsWrong)

/-- 'warrantlaw01.WordTurns': WHATEVER THE INPUT: true; the input reads as it did. -/
def wordTurnsSpec : ChangeSpec := { name := "wordTurns", fn := fun _ => fun
  | [d] => { results := [.lit (.bool true)], args := [d] }
  | _ => none }
def wordTurnsRow : OpenClaim := { program := "ytcmpohippbjpcaa", sum := "8619e2919cf9bec86d4ab9def8fd56709b7604e44935d9fe4b0875e1674a704e", func := "warrant/warrantlaw01.WordTurns", spec := "wordTurns", apart := false }
def WordTurnsSaid : Prop := wordTurnsRow.holds Try.pinned (OpenSpec.ofChange wordTurnsSpec)

/-- ITS FALSE NEIGHBOUR: 'it returns false'. Refute it at one input. -/
def wordTurnsWrong : ChangeSpec := { name := "wordTurns", fn := fun _ => fun
  | [d] => { results := [.lit (.bool false)], args := [d] }
  | _ => none }
def WordTurnsWrongFalsely : Prop := wordTurnsRow.holds Try.pinned (OpenSpec.ofChange wordTurnsWrong)

/-- 'warrantlaw01.WordHalves': WHATEVER THE INPUT: true; the input reads as it did. -/
def wordHalvesSpec : ChangeSpec := { name := "wordHalves", fn := fun _ => fun
  | [d1, d2, d3] => { results := [.lit (.bool true)], args := [d1, d2, d3] }
  | _ => none }
def wordHalvesRow : OpenClaim := { program := "ytcmpohippbjpcaa", sum := "8619e2919cf9bec86d4ab9def8fd56709b7604e44935d9fe4b0875e1674a704e", func := "warrant/warrantlaw01.WordHalves", spec := "wordHalves", unfollowed := true, recurses := true, apart := false }
def WordHalvesSaid : Prop := wordHalvesRow.holds Try.pinned (OpenSpec.ofChange wordHalvesSpec)

/-- ITS FALSE NEIGHBOUR: 'it returns false'. Refute it at one input. -/
def wordHalvesWrong : ChangeSpec := { name := "wordHalves", fn := fun _ => fun
  | [d1, d2, d3] => { results := [.lit (.bool false)], args := [d1, d2, d3] }
  | _ => none }
def WordHalvesWrongFalsely : Prop := wordHalvesRow.holds Try.pinned (OpenSpec.ofChange wordHalvesWrong)

/- THE SECOND FORM. 'bulk': how many values and letters a reading holds, each counted each time it is reached (what is shared counts as often as it is met; a slice's spare places count too). A statement '..UptoSaid' is the law's where the arguments, and the package variables that the reading takes, are together of bulk at most 1048576: NARROWER than '..Said'. Prove '..Said' where nothing that the law and all that it calls make is longer than what came in: it says more and counts as full. Else prove '..UptoSaid'. A law counts once. -/
mutual
def uptoBulk {H : Type} : DataW H → Nat
  | .lit (.string bytes) => bytes.length + 1
  | .lit _ => 1
  | .nil => 1
  | .ptr d => uptoBulk d + 1
  | .slice elems spare => uptoBulkAll elems + uptoBulkAll spare + 1
  | .agg parts => uptoBulkAll parts + 1
  | .iface _ d => uptoBulk d + 1
  | .map entries => uptoBulkEntries entries + 1
  | .held _ => 1
def uptoBulkAll {H : Type} : List (DataW H) → Nat
  | [] => 0
  | d :: r => uptoBulk d + uptoBulkAll r
def uptoBulkEntries {H : Type} : List (Lit × DataW H) → Nat
  | [] => 0
  | x :: r => uptoBulkEntry x + uptoBulkEntries r
def uptoBulkEntry {H : Type} : Lit × DataW H → Nat
  | (.string bytes, d) => bytes.length + uptoBulk d + 1
  | (_, d) => uptoBulk d + 1
 end
def uptoSmall : (H : Type) → List (DataW H) → Bool := fun _ ds => decide (uptoBulkAll ds ≤ 1048576)
def OpenSpec.upto (s : _root_.Go.ChangeSpec) : _root_.Go.OpenSpec := { _root_.Go.OpenSpec.ofChange s with cond := some uptoSmall }

/-- 'warrantlaw01.WordPuts', WHERE WHAT IT READS IS OF BULK AT MOST 1048576: true; the input reads as it did. -/
def wordPutsUptoRow : OpenClaim := { program := "ytcmpohippbjpcaa", sum := "8619e2919cf9bec86d4ab9def8fd56709b7604e44935d9fe4b0875e1674a704e", func := "warrant/warrantlaw01.WordPuts", spec := "wordPuts", apart := false, narrowed := true }
def WordPutsUptoSaid : Prop := wordPutsUptoRow.holds Try.pinned (OpenSpec.upto wordPutsSpec)

/-- 'warrantlaw01.WordGets', WHERE WHAT IT READS IS OF BULK AT MOST 1048576: true; the input reads as it did. -/
def wordGetsUptoRow : OpenClaim := { program := "ytcmpohippbjpcaa", sum := "8619e2919cf9bec86d4ab9def8fd56709b7604e44935d9fe4b0875e1674a704e", func := "warrant/warrantlaw01.WordGets", spec := "wordGets", apart := false, narrowed := true }
def WordGetsUptoSaid : Prop := wordGetsUptoRow.holds Try.pinned (OpenSpec.upto wordGetsSpec)

/-- 'warrantlaw01.WordExtends', WHERE WHAT IT READS IS OF BULK AT MOST 1048576: true; the input reads as it did. -/
def wordExtendsUptoRow : OpenClaim := { program := "ytcmpohippbjpcaa", sum := "8619e2919cf9bec86d4ab9def8fd56709b7604e44935d9fe4b0875e1674a704e", func := "warrant/warrantlaw01.WordExtends", spec := "wordExtends", apart := false, narrowed := true }
def WordExtendsUptoSaid : Prop := wordExtendsUptoRow.holds Try.pinned (OpenSpec.upto wordExtendsSpec)

/-- 'warrantlaw01.WordBack', WHERE WHAT IT READS IS OF BULK AT MOST 1048576: true; the input reads as it did. -/
def wordBackUptoRow : OpenClaim := { program := "ytcmpohippbjpcaa", sum := "8619e2919cf9bec86d4ab9def8fd56709b7604e44935d9fe4b0875e1674a704e", func := "warrant/warrantlaw01.WordBack", spec := "wordBack", apart := false, narrowed := true }
def WordBackUptoSaid : Prop := wordBackUptoRow.holds Try.pinned (OpenSpec.upto wordBackSpec)

/-- 'warrantlaw01.WordSwaps', WHERE WHAT IT READS IS OF BULK AT MOST 1048576: true; the input reads as it did. -/
def wordSwapsUptoRow : OpenClaim := { program := "ytcmpohippbjpcaa", sum := "8619e2919cf9bec86d4ab9def8fd56709b7604e44935d9fe4b0875e1674a704e", func := "warrant/warrantlaw01.WordSwaps", spec := "wordSwaps", apart := false, narrowed := true }
def WordSwapsUptoSaid : Prop := wordSwapsUptoRow.holds Try.pinned (OpenSpec.upto wordSwapsSpec)

/-- 'warrantlaw01.WordHolds', WHERE WHAT IT READS IS OF BULK AT MOST 1048576: true; the input reads as it did. -/
def wordHoldsUptoRow : OpenClaim := { program := "ytcmpohippbjpcaa", sum := "8619e2919cf9bec86d4ab9def8fd56709b7604e44935d9fe4b0875e1674a704e", func := "warrant/warrantlaw01.WordHolds", spec := "wordHolds", apart := false, narrowed := true }
def WordHoldsUptoSaid : Prop := wordHoldsUptoRow.holds Try.pinned (OpenSpec.upto wordHoldsSpec)

/-- 'warrantlaw01.WordOrders', WHERE WHAT IT READS IS OF BULK AT MOST 1048576: true; the input reads as it did. -/
def wordOrdersUptoRow : OpenClaim := { program := "ytcmpohippbjpcaa", sum := "8619e2919cf9bec86d4ab9def8fd56709b7604e44935d9fe4b0875e1674a704e", func := "warrant/warrantlaw01.WordOrders", spec := "wordOrders", apart := false, narrowed := true }
def WordOrdersUptoSaid : Prop := wordOrdersUptoRow.holds Try.pinned (OpenSpec.upto wordOrdersSpec)

/-- 'warrantlaw01.WordAlus', WHERE WHAT IT READS IS OF BULK AT MOST 1048576: true; the input reads as it did. -/
def wordAlusUptoRow : OpenClaim := { program := "ytcmpohippbjpcaa", sum := "8619e2919cf9bec86d4ab9def8fd56709b7604e44935d9fe4b0875e1674a704e", func := "warrant/warrantlaw01.WordAlus", spec := "wordAlus", unfollowed := true, recurses := true, apart := false, narrowed := true }
def WordAlusUptoSaid : Prop := wordAlusUptoRow.holds Try.pinned (OpenSpec.upto wordAlusSpec)

/-- 'warrantlaw01.WordDivides', WHERE WHAT IT READS IS OF BULK AT MOST 1048576: true; the input reads as it did. -/
def wordDividesUptoRow : OpenClaim := { program := "ytcmpohippbjpcaa", sum := "8619e2919cf9bec86d4ab9def8fd56709b7604e44935d9fe4b0875e1674a704e", func := "warrant/warrantlaw01.WordDivides", spec := "wordDivides", unfollowed := true, recurses := true, apart := false, narrowed := true }
def WordDividesUptoSaid : Prop := wordDividesUptoRow.holds Try.pinned (OpenSpec.upto wordDividesSpec)

/-- 'warrantlaw01.WordShifts', WHERE WHAT IT READS IS OF BULK AT MOST 1048576: true; the input reads as it did. -/
def wordShiftsUptoRow : OpenClaim := { program := "ytcmpohippbjpcaa", sum := "8619e2919cf9bec86d4ab9def8fd56709b7604e44935d9fe4b0875e1674a704e", func := "warrant/warrantlaw01.WordShifts", spec := "wordShifts", unfollowed := true, recurses := true, apart := false, narrowed := true }
def WordShiftsUptoSaid : Prop := wordShiftsUptoRow.holds Try.pinned (OpenSpec.upto wordShiftsSpec)

/-- 'warrantlaw01.WordAdds', WHERE WHAT IT READS IS OF BULK AT MOST 1048576: true; the input reads as it did. -/
def wordAddsUptoRow : OpenClaim := { program := "ytcmpohippbjpcaa", sum := "8619e2919cf9bec86d4ab9def8fd56709b7604e44935d9fe4b0875e1674a704e", func := "warrant/warrantlaw01.WordAdds", spec := "wordAdds", unfollowed := true, recurses := true, apart := false, narrowed := true }
def WordAddsUptoSaid : Prop := wordAddsUptoRow.holds Try.pinned (OpenSpec.upto wordAddsSpec)

/-- 'warrantlaw01.WordTurns', WHERE WHAT IT READS IS OF BULK AT MOST 1048576: true; the input reads as it did. -/
def wordTurnsUptoRow : OpenClaim := { program := "ytcmpohippbjpcaa", sum := "8619e2919cf9bec86d4ab9def8fd56709b7604e44935d9fe4b0875e1674a704e", func := "warrant/warrantlaw01.WordTurns", spec := "wordTurns", apart := false, narrowed := true }
def WordTurnsUptoSaid : Prop := wordTurnsUptoRow.holds Try.pinned (OpenSpec.upto wordTurnsSpec)

/-- 'warrantlaw01.WordHalves', WHERE WHAT IT READS IS OF BULK AT MOST 1048576: true; the input reads as it did. -/
def wordHalvesUptoRow : OpenClaim := { program := "ytcmpohippbjpcaa", sum := "8619e2919cf9bec86d4ab9def8fd56709b7604e44935d9fe4b0875e1674a704e", func := "warrant/warrantlaw01.WordHalves", spec := "wordHalves", unfollowed := true, recurses := true, apart := false, narrowed := true }
def WordHalvesUptoSaid : Prop := wordHalvesUptoRow.holds Try.pinned (OpenSpec.upto wordHalvesSpec)

end Rows
end Go.Proofs.Ytcmpohippbjpcaa

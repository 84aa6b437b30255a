/-
  Spans: the reference's read, ends, Has, floor.
-/
import Derived.Test.YtaaidjphacofgaaGreatDoorSpanE
import Derived.Deep.Cut
namespace Go.Proofs.YtaaidjphacofgaaGreatDoor
open Go.RowKit
set_option linter.unusedVariables false

/-- A span as it is read. -/
def rlo (lo hi : Int) (p q : Bool) : Int := if Snd lo hi p q then lo else 0
def rhi (lo hi : Int) (p q : Bool) : Int := if Snd lo hi p q then hi else 0
def rp (lo hi : Int) (p q : Bool) : Bool := if Snd lo hi p q then p else true
def rq (lo hi : Int) (p q : Bool) : Bool := if Snd lo hi p q then q else true

theorem elo_r (lo hi : Int) (p q : Bool) : elo lo hi p q = if rp lo hi p q then -9223372036854775808 else rlo lo hi p q := by
  unfold elo rp rlo
  split
  · rfl
  · rfl
theorem ehi_r (lo hi : Int) (p q : Bool) : ehi lo hi p q = if rq lo hi p q then 9223372036854775807 else rhi lo hi p q := by
  unfold ehi rq rhi
  split
  · rfl
  · rfl

end Go.Proofs.YtaaidjphacofgaaGreatDoor

import Derived.WalkKit
import Derived.ProofKit
import Derived.Deep.Quiet
import Derived.Test.YtdepknffpnnmmaaGreatProg
import Derived.BigQuiet
import Derived.Deep.Cut
import Derived.Deep.RegionHeld3
import Derived.Lib.Hide
import Derived.StillTailTactics
import Derived.Test.YtdepknffpnnmmaaGreatRows
import Derived.WalkSpells
import Derived.WalkLawsBesides
import Derived.Laws.BytesArg
import Derived.Laws.AppendOwnNone
import Derived.OpenShut
import Derived.SizedLaws
import Derived.Lib.BytesEntry
import Derived.Laws.OwnMore
import Derived.Maps.AppendAt
import Derived.Deep.AppendLies
import Derived.Maps.Own
import Derived.Deep.QuietTactic
import Derived.Deep.RegionWith
set_option maxRecDepth 100000
set_option maxHeartbeats 3200000
namespace Go.Proofs.YtdepknffpnnmmaaGreat
open Go.RowKit Go.ChangeShapes
def Row (w:World) (b:Nat) (e:TypeId) (cs:List Value):Prop:=w.heap[b]? = some (.cells cs.toArray e (0,0))
theorem Row.lt {w:World} {b:Nat} {e:TypeId} {cs:List Value} (h:Row w b e cs):b < w.heap.size:=lt_of_block h
theorem Row.cell {w:World} {b:Nat} {e:TypeId} {cs:List Value} (h:Row w b e cs) (i:Nat):w.cell? ⟨b,i,none⟩ = cs[i]?:=by
 rw [cell_of_row w b i _ e (0,0) h];simp
theorem Row.free {w:World} {b:Nat} {e:TypeId} {cs:List Value} (h:Row w b e cs) (i:Nat):w.frozen? ⟨b,i,none⟩ = false:=by
 unfold Row at h;simp [World.frozen?,h]
theorem Row.put {w:World} {b:Nat} {e:TypeId} {cs:List Value} (h:Row w b e cs) (i:Nat) (v:Value) :
 Row (w.setCell ⟨b,i,none⟩ v) b e (cs.set i v):=by
 have hlt:=h.lt
 unfold Row at h ⊢
 have h':w.heap[b] = .cells cs.toArray e (0,0):=by simpa [Array.getElem?_eq_getElem hlt] using h
 show (w.heap.modify b _)[b]? = _
 rw [Array.getElem?_eq_getElem (by simpa using hlt),Array.getElem_modify_self,h']
 simp
theorem Row.other {w:World} {b:Nat} {e:TypeId} {cs:List Value} (h:Row w b e cs) (a:Addr) (v:Value) (hne:b ≠ a.block) :
 Row (w.setCell a v) b e cs:=by
 unfold Row at h ⊢
 rw [Below.heap_setCell _ _ _ _ hne];exact h
theorem Row.alloc {w:World} {b:Nat} {e:TypeId} {cs:List Value} (h:Row w b e cs) (o:Obj):Row (w.alloc o) b e cs:=by
 have hlt:=h.lt
 unfold Row at h ⊢
 rw [Below.heap_alloc _ _ _ hlt];exact h
theorem Row.made (w:World) (cs:List Value) (e:TypeId):Row (w.alloc (.cells cs.toArray e)) w.heap.size e cs:=heap_alloc_new w _
theorem Row.below {w w':World} {b B:Nat} {e:TypeId} {cs:List Value} (h:Row w b e cs) (hb:Below B w w') (hlt:b < B):Row w' b e cs:=by
 unfold Row at h ⊢
 rw [hb.block b hlt];exact h
theorem Row.drew {w:World} {b:Nat} {e:TypeId} {cs:List Value} (h:Row w b e cs):Row w.drew b e cs:=h
theorem Row.drewN {w:World} {b:Nat} {e:TypeId} {cs:List Value} (h:Row w b e cs) (n:Nat):Row (w.drewN n) b e cs:=h
theorem ret_bool {a b:Bool} (h:a = b):Ending.returned (.bool a) = .returned (.bool b):=by rw [h]
theorem ret_int {k:IntKind} {a b:Int} (h:a = b):Ending.returned (.int k a) = .returned (.int k b):=by rw [h]
theorem drewN_drewN (w:World) (m n:Nat):(w.drewN m).drewN n = w.drewN (m + n):=by unfold World.drewN;simp [Nat.add_assoc]
theorem below_drewN {B:Nat} {a w:World} (h:Below B a w) (n:Nat):Below B a (w.drewN n):=⟨h.os,h.tape,h.output,h.size,h.block⟩
set_option linter.unusedVariables false
def Told (w:World) (v:Value):Ending->World->Prop:=fun e w'=>e = .returned v/\w' = w
def Ret (w:World) (v:Value):Ending->World->Prop:=fun e w'=>e = .returned v/\Below w.heap.size w w'
def secondv (op:Int):Bool:=(decide (1 <= op) && decide (op <= 15) && (op != 14)) || (op == 24) || (decide (27 <= op) && decide (op <= 37))
theorem second_of (op:Int) (w:World):Calls Tryz.prog 120 #[.int .i64 op] w (Told w (.bool (secondv op))):=by
 have hc:op < 1\/(1 <= op/\op <= 13)\/op = 14\/op = 15\/(16 <= op/\op <= 23)\/op = 24\/(25 <= op/\op <= 26)\/(27 <= op/\op <= 37)\/37 < op:=by omega
 rcases hc with h | ⟨h,h'⟩ | rfl | rfl | ⟨h,h'⟩ | rfl | ⟨h,h'⟩ | ⟨h,h'⟩ | h
 ·rw [show secondv op = false by (simp [secondv] <;> omega)]
  go_enter Tryz.func120,Tryz.ntmps120
  go_wp2
  go_ret
  exact ⟨by first | rfl | (simp;omega),rfl⟩
 ·rw [show secondv op = true by (simp [secondv] <;> omega)]
  go_enter Tryz.func120,Tryz.ntmps120
  go_wp2
  go_ret
  exact ⟨by first | rfl | (simp;omega),rfl⟩
 ·rw [show secondv 14 = false by decide]
  go_enter Tryz.func120,Tryz.ntmps120
  go_wp2
  go_ret
  exact ⟨by first | rfl | (simp;omega),rfl⟩
 ·rw [show secondv 15 = true by decide]
  go_enter Tryz.func120,Tryz.ntmps120
  go_wp2
  go_ret
  exact ⟨by first | rfl | (simp;omega),rfl⟩
 ·rw [show secondv op = false by (simp [secondv] <;> omega)]
  go_enter Tryz.func120,Tryz.ntmps120
  go_wp2
  go_ret
  exact ⟨by first | rfl | (simp;omega),rfl⟩
 ·rw [show secondv 24 = true by decide]
  go_enter Tryz.func120,Tryz.ntmps120
  go_wp2
  go_ret
  exact ⟨by first | rfl | (simp;omega),rfl⟩
 ·rw [show secondv op = false by (simp [secondv] <;> omega)]
  go_enter Tryz.func120,Tryz.ntmps120
  go_wp2
  go_ret
  exact ⟨by first | rfl | (simp;omega),rfl⟩
 ·rw [show secondv op = true by (simp [secondv] <;> omega)]
  go_enter Tryz.func120,Tryz.ntmps120
  go_wp2
  go_ret
  exact ⟨by first | rfl | (simp;omega),rfl⟩
 ·rw [show secondv op = false by (simp [secondv] <;> omega)]
  go_enter Tryz.func120,Tryz.ntmps120
  go_wp2
  go_ret
  exact ⟨by first | rfl | (simp;omega),rfl⟩
def writesDstv (op:Int):Bool:=decide (1 <= op) && decide (op <= 23)
theorem writesDst_of (op:Int) (w:World):Calls Tryz.prog 102 #[.int .i64 op] w (Told w (.bool (writesDstv op))):=by
 have hc:op < 1\/(1 <= op/\op <= 23)\/23 < op:=by omega
 rcases hc with h | ⟨h,h'⟩ | h
 ·rw [show writesDstv op = false by (simp [writesDstv] <;> omega)]
  go_enter Tryz.func102,Tryz.ntmps102
  go_wp2
  go_ret
  exact ⟨by first | rfl | (simp;omega),rfl⟩
 ·rw [show writesDstv op = true by (simp [writesDstv] <;> omega)]
  go_enter Tryz.func102,Tryz.ntmps102
  go_wp2
  go_ret
  exact ⟨by first | rfl | (simp;omega),rfl⟩
 ·rw [show writesDstv op = false by (simp [writesDstv] <;> omega)]
  go_enter Tryz.func102,Tryz.ntmps102
  go_wp2
  go_ret
  exact ⟨by first | rfl | (simp;omega),rfl⟩
def isRegv (n:Int) (wr:Bool):Bool:=decide (0 <= n) && decide (n <= 10) && !(wr && (n == 10))
theorem isReg_of (n:Int) (wr:Bool) (w:World):Calls Tryz.prog 101 #[.int .i64 n,.bool wr] w (Told w (.bool (isRegv n wr))):=by
 have hc:(n < 0/\wr = true)\/(n < 0/\wr = false)\/((0 <= n/\n <= 9)/\wr = true)\/((0 <= n/\n <= 9)/\wr = false)\/(n = 10/\wr = true)\/(n = 10/\wr = false)\/(10 < n/\wr = true)\/(10 < n/\wr = false):=by cases wr <;> simp <;> omega
 rcases hc with ⟨h,rfl⟩ | ⟨h,rfl⟩ | ⟨⟨h,h'⟩,rfl⟩ | ⟨⟨h,h'⟩,rfl⟩ | ⟨rfl,rfl⟩ | ⟨rfl,rfl⟩ | ⟨h,rfl⟩ | ⟨h,rfl⟩
 ·rw [show isRegv n true = false by (simp [isRegv] <;> omega)]
  go_enter Tryz.func101,Tryz.ntmps101
  go_wp2
  go_ret
  exact ⟨by first | rfl | (simp;omega),rfl⟩
 ·rw [show isRegv n false = false by (simp [isRegv] <;> omega)]
  go_enter Tryz.func101,Tryz.ntmps101
  go_wp2
  go_ret
  exact ⟨by first | rfl | (simp;omega),rfl⟩
 ·rw [show isRegv n true = true by (simp [isRegv] <;> omega)]
  go_enter Tryz.func101,Tryz.ntmps101
  go_wp2
  go_ret
  exact ⟨by first | rfl | (simp;omega),rfl⟩
 ·rw [show isRegv n false = true by (simp [isRegv] <;> omega)]
  go_enter Tryz.func101,Tryz.ntmps101
  go_wp2
  go_ret
  exact ⟨by first | rfl | (simp;omega),rfl⟩
 ·rw [show isRegv 10 true = false by decide]
  go_enter Tryz.func101,Tryz.ntmps101
  go_wp2
  go_ret
  exact ⟨by first | rfl | (simp;omega),rfl⟩
 ·rw [show isRegv 10 false = true by decide]
  go_enter Tryz.func101,Tryz.ntmps101
  go_wp2
  go_ret
  exact ⟨by first | rfl | (simp;omega),rfl⟩
 ·rw [show isRegv n true = false by (simp [isRegv] <;> omega)]
  go_enter Tryz.func101,Tryz.ntmps101
  go_wp2
  go_ret
  exact ⟨by first | rfl | (simp;omega),rfl⟩
 ·rw [show isRegv n false = false by (simp [isRegv] <;> omega)]
  go_enter Tryz.func101,Tryz.ntmps101
  go_wp2
  go_ret
  exact ⟨by first | rfl | (simp;omega),rfl⟩
def insc (op:Int) (nar reg:Bool) (size dst src off imm:Int):List Value:=[.int .i64 op,.bool nar,.bool reg,.int .i64 size,.int .i64 dst,.int .i64 src,.int .i64 off,.int .i64 imm]
set_option linter.unusedSimpArgs false
structure Val where
 k:Int
 t:Int
 o:Int
 x:Int
def Val.cs (v:Val):List Value:=[.int .i64 v.k,.int .i64 v.t,.int .i64 v.o,.int .i64 v.x]
def nval (x:Int):Val:=⟨1,0,0,x⟩
def noval:Val:=⟨0,0,0,0⟩
def Val.agg (v:Val):Value:=.agg #[.int .i64 v.k,.int .i64 v.t,.int .i64 v.o,.int .i64 v.x]
def RegC (cs:List Value) (d:Nat) (v:Val):Prop:=cs[423 + d * 4]? = some (.int .i64 v.k)/\cs[423 + d * 4 + 1]? = some (.int .i64 v.t)/\cs[423 + d * 4 + 2]? = some (.int .i64 v.o)/\cs[423 + d * 4 + 3]? = some (.int .i64 v.x)
theorem RegC.row {w:World} {bx:Nat} {e:TypeId} {cs:List Value} (h:Row w bx e cs) {d:Nat} {v:Val} (hr:RegC cs d v):w.cell? ⟨bx,423 + d * 4,none⟩ = some (.int .i64 v.k)/\w.cell? ⟨bx,423 + d * 4 + 1,none⟩ = some (.int .i64 v.t)/\w.cell? ⟨bx,423 + d * 4 + 2,none⟩ = some (.int .i64 v.o)/\w.cell? ⟨bx,423 + d * 4 + 3,none⟩ = some (.int .i64 v.x):=
 ⟨by rw [h.cell];exact hr.1,by rw [h.cell];exact hr.2.1,by rw [h.cell];exact hr.2.2.1,by rw [h.cell];exact hr.2.2.2⟩
structure Mod (w w':World) (bx:Nat):Prop where
 os:w'.os = w.os
 tape:w'.tape = w.tape
 output:w'.output = w.output
 size:w.heap.size <= w'.heap.size
 block:∀ k,k < w.heap.size->k ≠ bx->w'.heap[k]? = w.heap[k]?
theorem Mod.refl (w:World) (bx:Nat):Mod w w bx:=⟨rfl,rfl,rfl,Nat.le_refl _,fun _ _ _=>rfl⟩
theorem Mod.of_below {w w':World} (h:Below w.heap.size w w') (bx:Nat):Mod w w' bx:=⟨h.os,h.tape,h.output,h.size,fun k hk _=>h.block k hk⟩
theorem Mod.trans {w w1 w2:World} {bx:Nat} (h:Mod w w1 bx) (k:Mod w1 w2 bx):Mod w w2 bx:=
 ⟨k.os.trans h.os,k.tape.trans h.tape,k.output.trans h.output,Nat.le_trans h.size k.size,fun q hq hn=>(k.block q (Nat.lt_of_lt_of_le hq h.size) hn).trans (h.block q hq hn)⟩
theorem Mod.below {w w1 w2:World} {bx:Nat} (h:Mod w w1 bx) (k:Below w1.heap.size w1 w2):Mod w w2 bx:=h.trans (Mod.of_below k bx)
theorem Mod.alloc {w w1:World} {bx:Nat} (h:Mod w w1 bx) (o:Obj):Mod w (w1.alloc o) bx:=h.below ((Below.refl _ _).alloc (Nat.le_refl _) o)
theorem Mod.set {w w1:World} {bx:Nat} (h:Mod w w1 bx) (i:Nat) (x:Value):Mod w (w1.setCell ⟨bx,i,none⟩ x) bx:=
 h.trans ⟨rfl,rfl,rfl,by simp [World.setCell],fun k _ hn=>Below.heap_setCell _ _ _ _ hn⟩
structure FM (w:World) (bx ib:Nat) (cs:List Value) (op:Int) (nar reg:Bool) (size dst src off imm:Int) (w':World):Prop where
 mach:Row w' bx 99 cs
 ins:Row w' ib 25 (insc op nar reg size dst src off imm)
 mod:Mod w w' bx
 ne:bx ≠ ib
section
variable {w w1 w2:World} {bx ib:Nat} {cs:List Value} {op:Int} {nar reg:Bool} {size dst src off imm:Int}
theorem FM.next (h:FM w bx ib cs op nar reg size dst src off imm w1) (hb:Below w1.heap.size w1 w2):FM w bx ib cs op nar reg size dst src off imm w2:=
 ⟨h.mach.below hb h.mach.lt,h.ins.below hb h.ins.lt,h.mod.below hb,h.ne⟩
theorem FM.drew (h:FM w bx ib cs op nar reg size dst src off imm w1):FM w bx ib cs op nar reg size dst src off imm w1.drew:=h.next (Below.refl _ _).drew
theorem FM.set (h:FM w bx ib cs op nar reg size dst src off imm w1) (k:Nat) (x:Value):FM w bx ib (cs.set k x) op nar reg size dst src off imm (w1.setCell ⟨bx,k,none⟩ x):=
 ⟨h.mach.put k x,h.ins.other _ _ (Ne.symm h.ne),h.mod.set k x,h.ne⟩
theorem FM.begin {w:World} {bx:Nat} {cs:List Value} (h:Row w bx 99 cs) (op:Int) (nar reg:Bool) (size dst src off imm:Int) :
 FM w bx w.heap.size cs op nar reg size dst src off imm (w.alloc (.cells #[.int .i64 op,.bool nar,.bool reg,.int .i64 size,.int .i64 dst,.int .i64 src,.int .i64 off,.int .i64 imm] 25)):=
 ⟨h.alloc _,Row.made w (insc op nar reg size dst src off imm) _,(Mod.refl w bx).alloc _,by have:=h.lt;omega⟩
theorem FM.cells (h:FM w bx ib cs op nar reg size dst src off imm w1):w1.cell? ⟨ib,0,none⟩ = some (.int .i64 op)/\w1.cell? ⟨ib,1,none⟩ = some (.bool nar)/\w1.cell? ⟨ib,2,none⟩ = some (.bool reg)/\w1.cell? ⟨ib,3,none⟩ = some (.int .i64 size) /\
 w1.cell? ⟨ib,4,none⟩ = some (.int .i64 dst)/\w1.cell? ⟨ib,5,none⟩ = some (.int .i64 src)/\w1.cell? ⟨ib,6,none⟩ = some (.int .i64 off)/\w1.cell? ⟨ib,7,none⟩ = some (.int .i64 imm):=
 ⟨by rw [h.ins.cell];rfl,by rw [h.ins.cell];rfl,by rw [h.ins.cell];rfl,by rw [h.ins.cell];rfl,by rw [h.ins.cell];rfl,by rw [h.ins.cell];rfl,by rw [h.ins.cell];rfl,by rw [h.ins.cell];rfl⟩
theorem FM.row4 (h:FM w bx ib cs op nar reg size dst src off imm w1) (hl:cs.length = 471) (d:Nat) (hd:d < 11):∃ a b c x,(w1.cell? ⟨bx,423 + d * 4,none⟩ = some a/\w1.cell? ⟨bx,423 + d * 4 + 1,none⟩ = some b/\w1.cell? ⟨bx,423 + d * 4 + 2,none⟩ = some c/\w1.cell? ⟨bx,423 + d * 4 + 3,none⟩ = some x) /\
 w1.frozen? ⟨bx,423 + d * 4,none⟩ = false/\w1.frozen? ⟨bx,423 + d * 4 + 1,none⟩ = false/\w1.frozen? ⟨bx,423 + d * 4 + 2,none⟩ = false/\w1.frozen? ⟨bx,423 + d * 4 + 3,none⟩ = false:=
 ⟨cs[423 + d * 4],cs[423 + d * 4 + 1],cs[423 + d * 4 + 2],cs[423 + d * 4 + 3],⟨by rw [h.mach.cell];simp [hl],by rw [h.mach.cell];simp [hl],by rw [h.mach.cell];simp [hl],by rw [h.mach.cell];simp [hl]⟩,h.mach.free _,h.mach.free _,h.mach.free _,h.mach.free _⟩
theorem FM.set4 (h:FM w bx ib cs op nar reg size dst src off imm w1) (k:Nat) (a b c x:Value):FM w bx ib ((((cs.set k a).set (k + 1) b).set (k + 2) c).set (k + 3) x) op nar reg size dst src off imm ((((w1.setCell ⟨bx,k,none⟩ a).setCell ⟨bx,k + 1,none⟩ b).setCell ⟨bx,k + 2,none⟩ c).setCell ⟨bx,k + 3,none⟩ x):=
 (((h.set k a).set (k + 1) b).set (k + 2) c).set (k + 3) x
end
def FX (w:World) (bx ib:Nat) (op:Int) (nar reg:Bool) (size dst src off imm:Int) (w':World):Prop:=∃ cs,FM w bx ib cs op nar reg size dst src off imm w'/\cs.length = 471
section
variable {w w1 w2:World} {bx ib:Nat} {cs:List Value} {op:Int} {nar reg:Bool} {size dst src off imm:Int}
theorem FX.next (h:FX w bx ib op nar reg size dst src off imm w1) (hb:Below w1.heap.size w1 w2):FX w bx ib op nar reg size dst src off imm w2:=let ⟨cs,h1,h2⟩:=h;⟨cs,h1.next hb,h2⟩
theorem FX.cells (h:FX w bx ib op nar reg size dst src off imm w1):w1.cell? ⟨ib,0,none⟩ = some (.int .i64 op)/\w1.cell? ⟨ib,1,none⟩ = some (.bool nar)/\w1.cell? ⟨ib,2,none⟩ = some (.bool reg)/\w1.cell? ⟨ib,3,none⟩ = some (.int .i64 size) /\
 w1.cell? ⟨ib,4,none⟩ = some (.int .i64 dst)/\w1.cell? ⟨ib,5,none⟩ = some (.int .i64 src)/\w1.cell? ⟨ib,6,none⟩ = some (.int .i64 off)/\w1.cell? ⟨ib,7,none⟩ = some (.int .i64 imm):=let ⟨cs,h1,h2⟩:=h;h1.cells
theorem FX.k47 (h:FX w bx ib op nar reg size dst src off imm w1):w1.cell? ⟨ib,4,none⟩ = some (.int .i64 dst)/\w1.cell? ⟨ib,7,none⟩ = some (.int .i64 imm)/\FX w bx ib op nar reg size dst src off imm w1:=⟨h.cells.2.2.2.2.1,h.cells.2.2.2.2.2.2.2,h⟩
theorem FX.n47 (h:w1.cell? ⟨ib,4,none⟩ = some (.int .i64 dst)/\w1.cell? ⟨ib,7,none⟩ = some (.int .i64 imm)/\FX w bx ib op nar reg size dst src off imm w1) (hb:Below w1.heap.size w1 w2):w2.cell? ⟨ib,4,none⟩ = some (.int .i64 dst)/\w2.cell? ⟨ib,7,none⟩ = some (.int .i64 imm)/\FX w bx ib op nar reg size dst src off imm w2:=(h.2.2.next hb).k47
theorem FX.set4 (h:FX w bx ib op nar reg size dst src off imm w1) (k:Nat) (a b c x:Value):FX w bx ib op nar reg size dst src off imm ((((w1.setCell ⟨bx,k,none⟩ a).setCell ⟨bx,k + 1,none⟩ b).setCell ⟨bx,k + 2,none⟩ c).setCell ⟨bx,k + 3,none⟩ x):=
 let ⟨cs,h1,h2⟩:=h;⟨_,h1.set4 k a b c x,by simp [h2]⟩
theorem FX.row4 (h:FX w bx ib op nar reg size dst src off imm w1) (d:Nat) (hd:d < 11):∃ a b c x,(w1.cell? ⟨bx,423 + d * 4,none⟩ = some a/\w1.cell? ⟨bx,423 + d * 4 + 1,none⟩ = some b/\w1.cell? ⟨bx,423 + d * 4 + 2,none⟩ = some c/\w1.cell? ⟨bx,423 + d * 4 + 3,none⟩ = some x) /\
 w1.frozen? ⟨bx,423 + d * 4,none⟩ = false/\w1.frozen? ⟨bx,423 + d * 4 + 1,none⟩ = false/\w1.frozen? ⟨bx,423 + d * 4 + 2,none⟩ = false/\w1.frozen? ⟨bx,423 + d * 4 + 3,none⟩ = false:=let ⟨cs,h1,h2⟩:=h;h1.row4 h2 d hd
end
section
variable {w0 w1 w2:World} {bx ib:Nat} {cs:List Value} {op:Int} {nar reg:Bool} {size dst src off imm:Int} {d:Nat} {k t o x:Int}
theorem FM.putx (h:FM w0 bx ib cs op nar reg size dst src off imm w1) {q:Nat} (h1:q ≠ bx) (h2:q ≠ ib) (hq:w0.heap.size <= q) (i:Nat) (x:Value):FM w0 bx ib cs op nar reg size dst src off imm (w1.setCell ⟨q,i,none⟩ x):=
 ⟨h.mach.other _ _ (Ne.symm h1),h.ins.other _ _ (Ne.symm h2),⟨h.mod.os,h.mod.tape,h.mod.output,by simpa [World.setCell] using h.mod.size,fun k hk hn=>(Below.heap_setCell _ _ _ _ (by show k ≠ q;omega)).trans (h.mod.block k hk hn)⟩,h.ne⟩
theorem FM.k12 (hu:RegC cs d ⟨k,t,o,x⟩) (h:FM w0 bx ib cs op nar reg size dst src off imm w1):(w1.cell? ⟨ib,0,none⟩ = some (.int .i64 op)/\w1.cell? ⟨ib,1,none⟩ = some (.bool nar)/\w1.cell? ⟨ib,2,none⟩ = some (.bool reg)/\w1.cell? ⟨ib,3,none⟩ = some (.int .i64 size)/\w1.cell? ⟨ib,4,none⟩ = some (.int .i64 dst)/\w1.cell? ⟨ib,5,none⟩ = some (.int .i64 src)/\w1.cell? ⟨ib,6,none⟩ = some (.int .i64 off)/\w1.cell? ⟨ib,7,none⟩ = some (.int .i64 imm))/\(w1.cell? ⟨bx,423 + d * 4,none⟩ = some (.int .i64 k)/\w1.cell? ⟨bx,423 + d * 4 + 1,none⟩ = some (.int .i64 t)/\w1.cell? ⟨bx,423 + d * 4 + 2,none⟩ = some (.int .i64 o)/\w1.cell? ⟨bx,423 + d * 4 + 3,none⟩ = some (.int .i64 x))/\FM w0 bx ib cs op nar reg size dst src off imm w1:=⟨h.cells,hu.row h.mach,h⟩
theorem FM.n12 (hu:RegC cs d ⟨k,t,o,x⟩) (h:(w1.cell? ⟨ib,0,none⟩ = some (.int .i64 op)/\w1.cell? ⟨ib,1,none⟩ = some (.bool nar)/\w1.cell? ⟨ib,2,none⟩ = some (.bool reg)/\w1.cell? ⟨ib,3,none⟩ = some (.int .i64 size)/\w1.cell? ⟨ib,4,none⟩ = some (.int .i64 dst)/\w1.cell? ⟨ib,5,none⟩ = some (.int .i64 src)/\w1.cell? ⟨ib,6,none⟩ = some (.int .i64 off)/\w1.cell? ⟨ib,7,none⟩ = some (.int .i64 imm))/\(w1.cell? ⟨bx,423 + d * 4,none⟩ = some (.int .i64 k)/\w1.cell? ⟨bx,423 + d * 4 + 1,none⟩ = some (.int .i64 t)/\w1.cell? ⟨bx,423 + d * 4 + 2,none⟩ = some (.int .i64 o)/\w1.cell? ⟨bx,423 + d * 4 + 3,none⟩ = some (.int .i64 x))/\FM w0 bx ib cs op nar reg size dst src off imm w1) (hb:Below w1.heap.size w1 w2):(w2.cell? ⟨ib,0,none⟩ = some (.int .i64 op)/\w2.cell? ⟨ib,1,none⟩ = some (.bool nar)/\w2.cell? ⟨ib,2,none⟩ = some (.bool reg)/\w2.cell? ⟨ib,3,none⟩ = some (.int .i64 size)/\w2.cell? ⟨ib,4,none⟩ = some (.int .i64 dst)/\w2.cell? ⟨ib,5,none⟩ = some (.int .i64 src)/\w2.cell? ⟨ib,6,none⟩ = some (.int .i64 off)/\w2.cell? ⟨ib,7,none⟩ = some (.int .i64 imm))/\(w2.cell? ⟨bx,423 + d * 4,none⟩ = some (.int .i64 k)/\w2.cell? ⟨bx,423 + d * 4 + 1,none⟩ = some (.int .i64 t)/\w2.cell? ⟨bx,423 + d * 4 + 2,none⟩ = some (.int .i64 o)/\w2.cell? ⟨bx,423 + d * 4 + 3,none⟩ = some (.int .i64 x))/\FM w0 bx ib cs op nar reg size dst src off imm w2:=(h.2.2.next hb).k12 hu
theorem FM.p12 (hu:RegC cs d ⟨k,t,o,x⟩) (h:(w1.cell? ⟨ib,0,none⟩ = some (.int .i64 op)/\w1.cell? ⟨ib,1,none⟩ = some (.bool nar)/\w1.cell? ⟨ib,2,none⟩ = some (.bool reg)/\w1.cell? ⟨ib,3,none⟩ = some (.int .i64 size)/\w1.cell? ⟨ib,4,none⟩ = some (.int .i64 dst)/\w1.cell? ⟨ib,5,none⟩ = some (.int .i64 src)/\w1.cell? ⟨ib,6,none⟩ = some (.int .i64 off)/\w1.cell? ⟨ib,7,none⟩ = some (.int .i64 imm))/\(w1.cell? ⟨bx,423 + d * 4,none⟩ = some (.int .i64 k)/\w1.cell? ⟨bx,423 + d * 4 + 1,none⟩ = some (.int .i64 t)/\w1.cell? ⟨bx,423 + d * 4 + 2,none⟩ = some (.int .i64 o)/\w1.cell? ⟨bx,423 + d * 4 + 3,none⟩ = some (.int .i64 x))/\FM w0 bx ib cs op nar reg size dst src off imm w1) {q:Nat} (h1:q ≠ bx) (h2:q ≠ ib) (hq:w0.heap.size <= q) (i:Nat) (y:Value):((w1.setCell ⟨q,i,none⟩ y).cell? ⟨ib,0,none⟩ = some (.int .i64 op)/\(w1.setCell ⟨q,i,none⟩ y).cell? ⟨ib,1,none⟩ = some (.bool nar)/\(w1.setCell ⟨q,i,none⟩ y).cell? ⟨ib,2,none⟩ = some (.bool reg)/\(w1.setCell ⟨q,i,none⟩ y).cell? ⟨ib,3,none⟩ = some (.int .i64 size)/\(w1.setCell ⟨q,i,none⟩ y).cell? ⟨ib,4,none⟩ = some (.int .i64 dst)/\(w1.setCell ⟨q,i,none⟩ y).cell? ⟨ib,5,none⟩ = some (.int .i64 src)/\(w1.setCell ⟨q,i,none⟩ y).cell? ⟨ib,6,none⟩ = some (.int .i64 off)/\(w1.setCell ⟨q,i,none⟩ y).cell? ⟨ib,7,none⟩ = some (.int .i64 imm))/\((w1.setCell ⟨q,i,none⟩ y).cell? ⟨bx,423 + d * 4,none⟩ = some (.int .i64 k)/\(w1.setCell ⟨q,i,none⟩ y).cell? ⟨bx,423 + d * 4 + 1,none⟩ = some (.int .i64 t)/\(w1.setCell ⟨q,i,none⟩ y).cell? ⟨bx,423 + d * 4 + 2,none⟩ = some (.int .i64 o)/\(w1.setCell ⟨q,i,none⟩ y).cell? ⟨bx,423 + d * 4 + 3,none⟩ = some (.int .i64 x))/\FM w0 bx ib cs op nar reg size dst src off imm (w1.setCell ⟨q,i,none⟩ y):=(h.2.2.putx h1 h2 hq i y).k12 hu
theorem FM.q12 (hu:RegC cs d ⟨k,t,o,x⟩) (h:(w1.cell? ⟨ib,0,none⟩ = some (.int .i64 op)/\w1.cell? ⟨ib,1,none⟩ = some (.bool nar)/\w1.cell? ⟨ib,2,none⟩ = some (.bool reg)/\w1.cell? ⟨ib,3,none⟩ = some (.int .i64 size)/\w1.cell? ⟨ib,4,none⟩ = some (.int .i64 dst)/\w1.cell? ⟨ib,5,none⟩ = some (.int .i64 src)/\w1.cell? ⟨ib,6,none⟩ = some (.int .i64 off)/\w1.cell? ⟨ib,7,none⟩ = some (.int .i64 imm))/\(w1.cell? ⟨bx,423 + d * 4,none⟩ = some (.int .i64 k)/\w1.cell? ⟨bx,423 + d * 4 + 1,none⟩ = some (.int .i64 t)/\w1.cell? ⟨bx,423 + d * 4 + 2,none⟩ = some (.int .i64 o)/\w1.cell? ⟨bx,423 + d * 4 + 3,none⟩ = some (.int .i64 x))/\FM w0 bx ib cs op nar reg size dst src off imm w1) {q:Nat} (h1:q ≠ bx) (h2:q ≠ ib) (hq:w0.heap.size <= q) (x0 x1 x2 x3:Value):(((((w1.setCell ⟨q,0,none⟩ x0).setCell ⟨q,1,none⟩ x1).setCell ⟨q,2,none⟩ x2).setCell ⟨q,3,none⟩ x3).cell? ⟨ib,0,none⟩ = some (.int .i64 op)/\((((w1.setCell ⟨q,0,none⟩ x0).setCell ⟨q,1,none⟩ x1).setCell ⟨q,2,none⟩ x2).setCell ⟨q,3,none⟩ x3).cell? ⟨ib,1,none⟩ = some (.bool nar)/\((((w1.setCell ⟨q,0,none⟩ x0).setCell ⟨q,1,none⟩ x1).setCell ⟨q,2,none⟩ x2).setCell ⟨q,3,none⟩ x3).cell? ⟨ib,2,none⟩ = some (.bool reg)/\((((w1.setCell ⟨q,0,none⟩ x0).setCell ⟨q,1,none⟩ x1).setCell ⟨q,2,none⟩ x2).setCell ⟨q,3,none⟩ x3).cell? ⟨ib,3,none⟩ = some (.int .i64 size)/\((((w1.setCell ⟨q,0,none⟩ x0).setCell ⟨q,1,none⟩ x1).setCell ⟨q,2,none⟩ x2).setCell ⟨q,3,none⟩ x3).cell? ⟨ib,4,none⟩ = some (.int .i64 dst)/\((((w1.setCell ⟨q,0,none⟩ x0).setCell ⟨q,1,none⟩ x1).setCell ⟨q,2,none⟩ x2).setCell ⟨q,3,none⟩ x3).cell? ⟨ib,5,none⟩ = some (.int .i64 src)/\((((w1.setCell ⟨q,0,none⟩ x0).setCell ⟨q,1,none⟩ x1).setCell ⟨q,2,none⟩ x2).setCell ⟨q,3,none⟩ x3).cell? ⟨ib,6,none⟩ = some (.int .i64 off)/\((((w1.setCell ⟨q,0,none⟩ x0).setCell ⟨q,1,none⟩ x1).setCell ⟨q,2,none⟩ x2).setCell ⟨q,3,none⟩ x3).cell? ⟨ib,7,none⟩ = some (.int .i64 imm))/\(((((w1.setCell ⟨q,0,none⟩ x0).setCell ⟨q,1,none⟩ x1).setCell ⟨q,2,none⟩ x2).setCell ⟨q,3,none⟩ x3).cell? ⟨bx,423 + d * 4,none⟩ = some (.int .i64 k)/\((((w1.setCell ⟨q,0,none⟩ x0).setCell ⟨q,1,none⟩ x1).setCell ⟨q,2,none⟩ x2).setCell ⟨q,3,none⟩ x3).cell? ⟨bx,423 + d * 4 + 1,none⟩ = some (.int .i64 t)/\((((w1.setCell ⟨q,0,none⟩ x0).setCell ⟨q,1,none⟩ x1).setCell ⟨q,2,none⟩ x2).setCell ⟨q,3,none⟩ x3).cell? ⟨bx,423 + d * 4 + 2,none⟩ = some (.int .i64 o)/\((((w1.setCell ⟨q,0,none⟩ x0).setCell ⟨q,1,none⟩ x1).setCell ⟨q,2,none⟩ x2).setCell ⟨q,3,none⟩ x3).cell? ⟨bx,423 + d * 4 + 3,none⟩ = some (.int .i64 x))/\FM w0 bx ib cs op nar reg size dst src off imm ((((w1.setCell ⟨q,0,none⟩ x0).setCell ⟨q,1,none⟩ x1).setCell ⟨q,2,none⟩ x2).setCell ⟨q,3,none⟩ x3):=
 ((((h.2.2.putx h1 h2 hq 0 x0).putx h1 h2 hq 1 x1).putx h1 h2 hq 2 x2).putx h1 h2 hq 3 x3).k12 hu
end
theorem box2 (w:World) (o:Obj) (cs:List Value) (e:TypeId):Row ((w.alloc o).alloc (.cells cs.toArray e)) (w.heap.size + 1) e cs:=by
 have h:=Row.made (w.alloc o) cs e
 rw [show (w.alloc o).heap.size = w.heap.size + 1 by simp] at h
 exact h
theorem Row.four {w:World} {b:Nat} {e:TypeId} {a1 a2 a3 a4:Value} (h:Row w b e [a1,a2,a3,a4]):(w.cell? ⟨b,0,none⟩ = some a1/\w.cell? ⟨b,1,none⟩ = some a2/\w.cell? ⟨b,2,none⟩ = some a3/\w.cell? ⟨b,3,none⟩ = some a4) /\
 w.frozen? ⟨b,0,none⟩ = false/\w.frozen? ⟨b,1,none⟩ = false/\w.frozen? ⟨b,2,none⟩ = false/\w.frozen? ⟨b,3,none⟩ = false:=
 ⟨⟨by rw [h.cell];rfl,by rw [h.cell];rfl,by rw [h.cell];rfl,by rw [h.cell];rfl⟩,h.free _,h.free _,h.free _,h.free _⟩
theorem Row.put4 {w:World} {b:Nat} {e:TypeId} {a1 a2 a3 a4:Value} (h:Row w b e [a1,a2,a3,a4]) (b1 b2 b3 b4:Value) :
 Row ((((w.setCell ⟨b,0,none⟩ b1).setCell ⟨b,1,none⟩ b2).setCell ⟨b,2,none⟩ b3).setCell ⟨b,3,none⟩ b4) b e [b1,b2,b3,b4]:=(((h.put 0 b1).put 1 b2).put 2 b3).put 3 b4
theorem bel_put4 {B b:Nat} {w w':World} (h:Below B w w') (hb:B <= b) (i:Nat) (b1 b2 b3 b4:Value) :
 Below B w ((((w'.setCell ⟨b,i,none⟩ b1).setCell ⟨b,i + 1,none⟩ b2).setCell ⟨b,i + 2,none⟩ b3).setCell ⟨b,i + 3,none⟩ b4):=by
 refine Below.setCell (Below.setCell (Below.setCell (Below.setCell h ?_ _) ?_ _) ?_ _) ?_ _ <;> exact hb
theorem made1 (w1:World):Row (w1.alloc (.cells #[.int .i64 0,.int .i64 0,.int .i64 0,.int .i64 0] 55)).drew w1.heap.size 55 [.int .i64 0,.int .i64 0,.int .i64 0,.int .i64 0]:=by
 have h:=Row.made w1 [.int .i64 0,.int .i64 0,.int .i64 0,.int .i64 0] 55
 exact h.below (Below.refl _ _).drew h.lt
theorem made12 (w1:World):Row ((w1.alloc (.cells #[.int .i64 0,.int .i64 0,.int .i64 0,.int .i64 0] 55)).alloc (.cells #[.int .i64 0,.int .i64 0,.int .i64 0,.int .i64 0] 55)).drew w1.heap.size 55 [.int .i64 0,.int .i64 0,.int .i64 0,.int .i64 0]:=by
 have h:=(Row.made w1 [.int .i64 0,.int .i64 0,.int .i64 0,.int .i64 0] 55).alloc (.cells #[.int .i64 0,.int .i64 0,.int .i64 0,.int .i64 0] 55)
 exact h.below (Below.refl _ _).drew h.lt
theorem made2 (w1:World):Row ((w1.alloc (.cells #[.int .i64 0,.int .i64 0,.int .i64 0,.int .i64 0] 55)).alloc (.cells #[.int .i64 0,.int .i64 0,.int .i64 0,.int .i64 0] 55)).drew (w1.heap.size + 1) 55 [.int .i64 0,.int .i64 0,.int .i64 0,.int .i64 0]:=by
 have h:=box2 w1 (.cells #[.int .i64 0,.int .i64 0,.int .i64 0,.int .i64 0] 55) [.int .i64 0,.int .i64 0,.int .i64 0,.int .i64 0] 55
 exact h.below (Below.refl _ _).drew h.lt
theorem after1 {w1 w':World} (hb:Below (w1.alloc (.cells #[.int .i64 0,.int .i64 0,.int .i64 0,.int .i64 0] 55)).drew.heap.size (w1.alloc (.cells #[.int .i64 0,.int .i64 0,.int .i64 0,.int .i64 0] 55)).drew w'):w1.heap.size < w'.heap.size/\(w'.cell? ⟨w1.heap.size,0,none⟩ = some (.int .i64 0)/\w'.cell? ⟨w1.heap.size,1,none⟩ = some (.int .i64 0)/\w'.cell? ⟨w1.heap.size,2,none⟩ = some (.int .i64 0)/\w'.cell? ⟨w1.heap.size,3,none⟩ = some (.int .i64 0))/\w'.frozen? ⟨w1.heap.size,0,none⟩ = false/\w'.frozen? ⟨w1.heap.size,1,none⟩ = false/\w'.frozen? ⟨w1.heap.size,2,none⟩ = false/\w'.frozen? ⟨w1.heap.size,3,none⟩ = false:=⟨((made1 w1).below hb (made1 w1).lt).lt,((made1 w1).below hb (made1 w1).lt).four⟩
theorem after2 {w1 w':World} (hb:Below ((w1.alloc (.cells #[.int .i64 0,.int .i64 0,.int .i64 0,.int .i64 0] 55)).alloc (.cells #[.int .i64 0,.int .i64 0,.int .i64 0,.int .i64 0] 55)).drew.heap.size ((w1.alloc (.cells #[.int .i64 0,.int .i64 0,.int .i64 0,.int .i64 0] 55)).alloc (.cells #[.int .i64 0,.int .i64 0,.int .i64 0,.int .i64 0] 55)).drew w'):w1.heap.size < w'.heap.size/\w1.heap.size + 1 < w'.heap.size/\((w'.cell? ⟨w1.heap.size,0,none⟩ = some (.int .i64 0)/\w'.cell? ⟨w1.heap.size,1,none⟩ = some (.int .i64 0)/\w'.cell? ⟨w1.heap.size,2,none⟩ = some (.int .i64 0)/\w'.cell? ⟨w1.heap.size,3,none⟩ = some (.int .i64 0))/\w'.frozen? ⟨w1.heap.size,0,none⟩ = false/\w'.frozen? ⟨w1.heap.size,1,none⟩ = false/\w'.frozen? ⟨w1.heap.size,2,none⟩ = false/\w'.frozen? ⟨w1.heap.size,3,none⟩ = false)/\(w'.cell? ⟨(w1.heap.size + 1),0,none⟩ = some (.int .i64 0)/\w'.cell? ⟨(w1.heap.size + 1),1,none⟩ = some (.int .i64 0)/\w'.cell? ⟨(w1.heap.size + 1),2,none⟩ = some (.int .i64 0)/\w'.cell? ⟨(w1.heap.size + 1),3,none⟩ = some (.int .i64 0))/\w'.frozen? ⟨(w1.heap.size + 1),0,none⟩ = false/\w'.frozen? ⟨(w1.heap.size + 1),1,none⟩ = false/\w'.frozen? ⟨(w1.heap.size + 1),2,none⟩ = false/\w'.frozen? ⟨(w1.heap.size + 1),3,none⟩ = false:=⟨((made12 w1).below hb (made12 w1).lt).lt,((made2 w1).below hb (made2 w1).lt).lt,((made12 w1).below hb (made12 w1).lt).four,((made2 w1).below hb (made2 w1).lt).four⟩
structure FA (w0:World) (bx ib ab bb:Nat) (cs:List Value) (op:Int) (nar reg:Bool) (size dst src off imm:Int) (a b:List Value) (w1:World):Prop where
 fm:FM w0 bx ib cs op nar reg size dst src off imm w1
 ra:Row w1 ab 55 a
 rb:Row w1 bb 55 b
 la:w0.heap.size <= ab
 lb:w0.heap.size <= bb
 nai:ab ≠ ib
 nbi:bb ≠ ib
 nab:ab ≠ bb
 nax:ab ≠ bx
 nbx:bb ≠ bx
section
variable {w0 w1 w2:World} {bx ib ab bb n:Nat} {cs:List Value} {op:Int} {nar reg:Bool} {size dst src off imm:Int} {a b:List Value}
theorem FA.next (h:FA w0 bx ib ab bb cs op nar reg size dst src off imm a b w1) (hb:Below w1.heap.size w1 w2):FA w0 bx ib ab bb cs op nar reg size dst src off imm a b w2:=
 ⟨h.fm.next hb,h.ra.below hb h.ra.lt,h.rb.below hb h.rb.lt,h.la,h.lb,h.nai,h.nbi,h.nab,h.nax,h.nbx⟩
theorem FM.box (h:FM w0 bx ib cs op nar reg size dst src off imm w1) (o:Obj):FM w0 bx ib cs op nar reg size dst src off imm (w1.alloc o):=h.next ((Below.refl _ _).alloc (Nat.le_refl _) o)
theorem FM.put4o (h:FM w0 bx ib cs op nar reg size dst src off imm w1) {q:Nat} (h1:q ≠ bx) (h2:q ≠ ib) (hq:w0.heap.size <= q) (x0 x1 x2 x3:Value) :
 FM w0 bx ib cs op nar reg size dst src off imm ((((w1.setCell ⟨q,0,none⟩ x0).setCell ⟨q,1,none⟩ x1).setCell ⟨q,2,none⟩ x2).setCell ⟨q,3,none⟩ x3):=(((h.putx h1 h2 hq 0 x0).putx h1 h2 hq 1 x1).putx h1 h2 hq 2 x2).putx h1 h2 hq 3 x3
theorem Row.put4o {q b:Nat} {e:TypeId} {xs:List Value} (h:Row w1 b e xs) (hn:b ≠ q) (x0 x1 x2 x3:Value) :
 Row ((((w1.setCell ⟨q,0,none⟩ x0).setCell ⟨q,1,none⟩ x1).setCell ⟨q,2,none⟩ x2).setCell ⟨q,3,none⟩ x3) b e xs:=(((h.other ⟨q,0,none⟩ x0 hn).other ⟨q,1,none⟩ x1 hn).other ⟨q,2,none⟩ x2 hn).other ⟨q,3,none⟩ x3 hn
theorem fa_new (h:FM w0 bx ib cs op nar reg size dst src off imm w1) (a b:List Value):FA w0 bx ib w1.heap.size (w1.heap.size + 1) cs op nar reg size dst src off imm a b ((w1.alloc (.cells a.toArray 55)).alloc (.cells b.toArray 55)):=by
 have h1:=h.mach.lt
 have h2:=h.ins.lt
 have h3:=h.mod.size
 exact ⟨(h.box _).box _,(Row.made w1 a _).alloc _,box2 w1 _ b _,h3,by omega,by omega,by omega,by omega,by omega,by omega⟩
theorem FA.swap (h:FA w0 bx ib ab bb cs op nar reg size dst src off imm a b w1):FA w0 bx ib bb ab cs op nar reg size dst src off imm b a w1:=⟨h.fm,h.rb,h.ra,h.lb,h.la,h.nbi,h.nai,Ne.symm h.nab,h.nbx,h.nax⟩
theorem fa_one (h:FM w0 bx ib cs op nar reg size dst src off imm w1) {y0 y1 y2 y3:Value} (hr:Row w1 n 55 [y0,y1,y2,y3]) (h1:n ≠ bx) (h2:n ≠ ib) (h3:w0.heap.size <= n) (x0 x1 x2 x3:Value) (b:List Value) :
 FA w0 bx ib n w1.heap.size cs op nar reg size dst src off imm [x0,x1,x2,x3] b (((((w1.setCell ⟨n,0,none⟩ x0).setCell ⟨n,1,none⟩ x1).setCell ⟨n,2,none⟩ x2).setCell ⟨n,3,none⟩ x3).alloc (.cells b.toArray 55)):=by
 have k1:=h.mach.lt
 have k2:=h.ins.lt
 have k3:=h.mod.size
 have k4:=hr.lt
 have hs:((((w1.setCell ⟨n,0,none⟩ x0).setCell ⟨n,1,none⟩ x1).setCell ⟨n,2,none⟩ x2).setCell ⟨n,3,none⟩ x3).heap.size = w1.heap.size:=by simp [World.setCell]
 have hm:=Row.made ((((w1.setCell ⟨n,0,none⟩ x0).setCell ⟨n,1,none⟩ x1).setCell ⟨n,2,none⟩ x2).setCell ⟨n,3,none⟩ x3) b 55
 rw [hs] at hm
 exact ⟨(h.put4o h1 h2 h3 x0 x1 x2 x3).box _,(hr.put4 x0 x1 x2 x3).alloc _,hm,h3,k3,h2,by omega,by omega,h1,by omega⟩
theorem fa_two (h:FM w0 bx ib cs op nar reg size dst src off imm w1) {m:Nat} {y0 y1 y2 y3 z0 z1 z2 z3:Value} (hr:Row w1 n 55 [y0,y1,y2,y3]) (hr':Row w1 m 55 [z0,z1,z2,z3]) (h1:n ≠ bx) (h2:n ≠ ib) (h3:w0.heap.size <= n) (h1':m ≠ bx) (h2':m ≠ ib) (h3':w0.heap.size <= m) (hnm:n ≠ m) (x0 x1 x2 x3 u0 u1 u2 u3:Value) :
 FA w0 bx ib n m cs op nar reg size dst src off imm [x0,x1,x2,x3] [u0,u1,u2,u3] ((((((((w1.setCell ⟨n,0,none⟩ x0).setCell ⟨n,1,none⟩ x1).setCell ⟨n,2,none⟩ x2).setCell ⟨n,3,none⟩ x3).setCell ⟨m,0,none⟩ u0).setCell ⟨m,1,none⟩ u1).setCell ⟨m,2,none⟩ u2).setCell ⟨m,3,none⟩ u3):=
 ⟨(h.put4o h1 h2 h3 x0 x1 x2 x3).put4o h1' h2' h3' u0 u1 u2 u3,(hr.put4 x0 x1 x2 x3).put4o hnm u0 u1 u2 u3,(hr'.put4o (Ne.symm hnm) x0 x1 x2 x3).put4 u0 u1 u2 u3,h3,h3',h2,h2',hnm,h1,h1'⟩
end
theorem FA.setb {w0 w1:World} {bx ib ab bb:Nat} {cs:List Value} {op:Int} {nar reg:Bool} {size dst src off imm:Int} {a:List Value} {y0 y1 y2 y3:Value} (h:FA w0 bx ib ab bb cs op nar reg size dst src off imm a [y0,y1,y2,y3] w1) (x0 x1 x2 x3:Value) :
 FA w0 bx ib ab bb cs op nar reg size dst src off imm a [x0,x1,x2,x3] ((((w1.setCell ⟨bb,0,none⟩ x0).setCell ⟨bb,1,none⟩ x1).setCell ⟨bb,2,none⟩ x2).setCell ⟨bb,3,none⟩ x3):=
 ⟨h.fm.put4o h.nbx h.nbi h.lb x0 x1 x2 x3,h.ra.put4o h.nab x0 x1 x2 x3,h.rb.put4 x0 x1 x2 x3,h.la,h.lb,h.nai,h.nbi,h.nab,h.nax,h.nbx⟩
theorem FA.seta {w0 w1:World} {bx ib ab bb:Nat} {cs:List Value} {op:Int} {nar reg:Bool} {size dst src off imm:Int} {b:List Value} {y0 y1 y2 y3:Value} (h:FA w0 bx ib ab bb cs op nar reg size dst src off imm [y0,y1,y2,y3] b w1) (x0 x1 x2 x3:Value) :
 FA w0 bx ib ab bb cs op nar reg size dst src off imm [x0,x1,x2,x3] b ((((w1.setCell ⟨ab,0,none⟩ x0).setCell ⟨ab,1,none⟩ x1).setCell ⟨ab,2,none⟩ x2).setCell ⟨ab,3,none⟩ x3):=
 ⟨h.fm.put4o h.nax h.nai h.la x0 x1 x2 x3,h.ra.put4 x0 x1 x2 x3,h.rb.put4o (Ne.symm h.nab) x0 x1 x2 x3,h.la,h.lb,h.nai,h.nbi,h.nab,h.nax,h.nbx⟩
def set4 (cs:List Value) (k:Nat) (a b c d:Value):List Value:=(((cs.set k a).set (k + 1) b).set (k + 2) c).set (k + 3) d
theorem num_of (x:Int) (w:World):Calls Tryz.prog 50 #[.int .i64 x] w (Ret w (.agg #[.int .i64 1,.int .i64 0,.int .i64 0,.int .i64 x])):=by
 go_enter Tryz.func50,Tryz.ntmps50
 go_wp2
 exact bodyPost_ret (v:=.agg #[.int .i64 1,.int .i64 0,.int .i64 0,.int .i64 x]) (by simp [results,Tryz.results50,go_sem]) rfl ⟨rfl,(Below.refl _ _).alloc (Nat.le_refl _) _⟩
def Wrote (w:World) (bx:Nat) (cs:List Value) (by' er:Int):Ending->World->Prop:=fun e w'=>e = .returned (.tuple #[.int .i64 by',.int .i64 er])/\Mod w w' bx/\Row w' bx 99 cs
theorem numeric_of (k t o x:Int) (w:World):Calls Tryz.prog 82 #[.agg #[.int .i64 k,.int .i64 t,.int .i64 o,.int .i64 x]] w (Ret w (.bool (k == 1))):=by
 go_enter Tryz.func82,Tryz.ntmps82
 go_wp2
 exact bodyPost_ret (v:=.bool (k == 1)) (by simp [results,Tryz.results82,go_sem]) rfl ⟨rfl,(Below.refl _ _).alloc (Nat.le_refl _) _⟩
theorem second_reg (op:Int) (nar:Bool) (size dst off imm:Int) (d:Nat) (hd:d < 11) (bx:Nat) (cs:List Value) (u:Val) (hu:RegC cs d u) (w:World) (h:Row w bx 99 cs) :
 Calls Tryz.prog 81 #[.pointer (some ⟨bx,0,none⟩),.agg #[.int .i64 op,.bool nar,.bool true,.int .i64 size,.int .i64 dst,.int .i64 d,.int .i64 off,.int .i64 imm]] w (Ret w (.agg #[.int .i64 u.k,.int .i64 u.t,.int .i64 u.o,.int .i64 u.x])):=by
 obtain ⟨c0,c1,c2,c3⟩:=hu.row h
 have hlt:=h.lt
 obtain ⟨k,t,o,x⟩:=u
 simp only at c0 c1 c2 c3 ⊢
 have hj1:(0:Int) <= (d:Int):=by omega
 have hj2:(d:Int) < 11:=by omega
 clear h hu
 go_enter Tryz.func81,Tryz.ntmps81
 go_wp2_with fail
 go_region
 go_wp2
 exact bodyPost_ret (v:=.agg #[.int .i64 k,.int .i64 t,.int .i64 o,.int .i64 x]) (by simp [results,Tryz.results81,go_sem]) rfl ⟨rfl,(((Below.refl _ _).alloc (Nat.le_refl _) _).alloc (by simp) _).drew⟩
theorem second_imm (op:Int) (nar:Bool) (size dst src off imm:Int) (bx:Nat) (w:World) :
 Calls Tryz.prog 81 #[.pointer (some ⟨bx,0,none⟩),.agg #[.int .i64 op,.bool nar,.bool false,.int .i64 size,.int .i64 dst,.int .i64 src,.int .i64 off,.int .i64 imm]] w (Ret w (.agg #[.int .i64 1,.int .i64 0,.int .i64 0,.int .i64 imm])):=by
 go_enter Tryz.func81,Tryz.ntmps81
 go_wp2_with (go_at_call 50;refine (num_of _ _).mono ?_;rintro e w' ⟨rfl,hb⟩;have hr:=(box2 w (.cells #[.int .i64 op,.bool nar,.bool false,.int .i64 size,.int .i64 dst,.int .i64 src,.int .i64 off,.int .i64 imm] 25) [.int .i64 0,.int .i64 0,.int .i64 0,.int .i64 0] 55).below hb (by simp);obtain ⟨⟨_,_,_,_⟩,_,_,_,_⟩:=hr.four)
 have hr2:=hr.put4 (.int .i64 1) (.int .i64 0) (.int .i64 0) (.int .i64 imm)
 have hB:=bel_put4 (b:=w.heap.size + 1) ((((Below.refl w.heap.size w).alloc (Nat.le_refl _) (.cells #[.int .i64 op,.bool nar,.bool false,.int .i64 size,.int .i64 dst,.int .i64 src,.int .i64 off,.int .i64 imm] 25)).alloc (by simp) (.cells #[.int .i64 0,.int .i64 0,.int .i64 0,.int .i64 0] 55)).trans (hb.mono (by simp;omega))) (by omega) 0 (.int .i64 1) (.int .i64 0) (.int .i64 0) (.int .i64 imm)
 simp only [Nat.zero_add] at hB
 obtain ⟨⟨d0,d1,d2,d3⟩,_⟩:=hr2.four
 generalize World.setCell _ _ _ = w2 at hB d0 d1 d2 d3 ⊢
 exact bodyPost_ret (v:=.agg #[.int .i64 1,.int .i64 0,.int .i64 0,.int .i64 imm]) (by simp [results,Tryz.results81,go_sem,d0,d1,d2,d3]) rfl ⟨rfl,hB⟩
theorem leap_of (op:Int) (nar reg:Bool) (size dst src off imm:Int) (bx:Nat) (cs:List Value) (w:World) (h:Row w bx 99 cs) :
 Calls Tryz.prog 73 #[.pointer (some ⟨bx,0,none⟩),.agg #[.int .i64 op,.bool nar,.bool reg,.int .i64 size,.int .i64 dst,.int .i64 src,.int .i64 off,.int .i64 imm]] w (Wrote w bx cs (if nar then imm else off) 0):=by
 have HF:=Lib.hid (FM.begin h op nar reg size dst src off imm)
 have HW:=Lib.hid h
 clear h
 cases nar
 all_goals
  go_enter Tryz.func73,Tryz.ntmps73
  go_wp2
 ·exact bodyPost_ret (v:=.tuple #[.int .i64 off,.int .i64 0]) (by simp [results,Tryz.results73,go_sem]) rfl ⟨rfl,HF.out.mod,HF.out.mach⟩
 ·exact bodyPost_ret (v:=.tuple #[.int .i64 imm,.int .i64 0]) (by simp [results,Tryz.results73,go_sem]) rfl ⟨rfl,HF.out.mod,HF.out.mach⟩
theorem leave_of (op:Int) (nar reg:Bool) (size dst src off imm:Int) (bx:Nat) (cs:List Value) (hl:cs.length = 471) (u:Val) (hu:RegC cs 0 u) (w:World) (h:Row w bx 99 cs) :
 Calls Tryz.prog 76 #[.pointer (some ⟨bx,0,none⟩),.agg #[.int .i64 op,.bool nar,.bool reg,.int .i64 size,.int .i64 dst,.int .i64 src,.int .i64 off,.int .i64 imm]] w (fun e w'=>if u.k = 1 then Wrote w bx (cs.set 470 (.bool true)) 0 0 e w' else Wrote w bx cs 0 86 e w'):=by
 have HF:=Lib.hid (FM.begin h op nar reg size dst src off imm)
 obtain ⟨c0,c1,c2,c3⟩:=hu.row h
 simp only [Nat.zero_mul,Nat.add_zero] at c0 c1 c2 c3
 have hlt:=h.lt
 clear h hu
 obtain ⟨k,t,o,x⟩:=u
 simp only at c0 c1 c2 c3 ⊢
 by_cases hk:k = 1
 ·subst hk
  simp only [if_true]
  go_enter Tryz.func76,Tryz.ntmps76
  go_wp2_with (go_at_call 82;refine (numeric_of _ _ _ _ _).mono ?_;rintro e w' ⟨rfl,hb⟩;have hF:=HF.out.next hb;have hd:w'.cell? ⟨bx,470,none⟩ = some (cs[470]'(by omega)):=(by rw [hF.mach.cell];simp [hl]);have hf:=hF.mach.free 470)
  have hF2:=hF.set 470 (.bool true)
  generalize World.setCell _ _ _ = w2 at hF2 ⊢
  exact bodyPost_ret (v:=.tuple #[.int .i64 0,.int .i64 0]) (by simp [results,Tryz.results76,go_sem]) rfl ⟨rfl,hF2.mod,hF2.mach⟩
 ·simp only [if_neg hk]
  have hkb:(k == 1) = false:=by simpa using hk
  go_enter Tryz.func76,Tryz.ntmps76
  go_wp2_with (go_at_call 82;refine (numeric_of _ _ _ _ _).mono ?_;rintro e w' ⟨rfl,hb⟩;have hF:=HF.out.next hb;rw [hkb])
  exact bodyPost_ret (v:=.tuple #[.int .i64 0,.int .i64 86]) (by simp [results,Tryz.results76,go_sem]) rfl ⟨rfl,hF.mod,hF.mach⟩
def bit (x i:Nat):Int:=((x / 2 ^ i % 2:Nat):Int)
def itab (n:Nat) (g:Nat->Int):List Value:=(List.range n).map fun i=>Value.int .i64 (g i)
theorem itab_length (n:Nat) (g:Nat->Int):(itab n g).length = n:=by simp [itab]
theorem itab_get {n:Nat} (g:Nat->Int) {i:Nat} (h:i < n):(itab n g)[i]? = some (.int .i64 (g i)):=by
 simp [itab,h]
theorem itab_congr {n:Nat} {g h:Nat->Int} (e:∀ t,t < n->g t = h t):itab n g = itab n h:=by
 unfold itab;refine List.map_congr_left fun t ht=>?_;rw [e t (List.mem_range.1 ht)]
theorem itab_set (n:Nat) (g:Nat->Int) (j:Nat) (v:Int):(itab n g).set j (.int .i64 v) = itab n (fun t=>if t = j then v else g t):=by
 apply List.ext_getElem?
 intro i
 rw [List.getElem?_set]
 by_cases hi:i < n
 ·by_cases hj:j = i
  ·subst hj;simp [itab,hi]
  ·simp [itab,hi,hj,Ne.symm hj]
 ·simp [itab,hi]
  intro h;omega
theorem itab_zero (n:Nat):(madeCells #[Value.int .i64 0] n).toList = itab n (fun _=>0):=by
 simp [madeCells,itab]
 intro a _
 rw [Nat.mod_one];rfl
def un (v:Int):Nat:=(v % 18446744073709551616).toNat
theorem un_lt (v:Int):un v < 18446744073709551616:=by unfold un;omega
theorem un_cast (v:Int):((un v:Nat):Int) = v % 18446744073709551616:=by unfold un;omega
theorem wrap64_un {v:Int} (h1 : -9223372036854775808 <= v) (h2:v <= 9223372036854775807):wrap64 (un v) = v:=by
 unfold wrap64;rw [un_cast];omega
theorem ofInt_un (v:Int):(BitVec.ofInt 64 v).toNat = un v:=by
 rw [BitVec.toNat_ofInt];unfold un;rfl
theorem i64_and (x y:Int):bits .and .i64 x y = wrap64 ((un x &&& un y:Nat):Int):=by
 show IntKind.i64.wrap ((BitVec.ofInt 64 x &&& BitVec.ofInt 64 y).toNat:Int) = _
 rw [BitVec.toNat_and,ofInt_un,ofInt_un,IntWalk.i64_left]
theorem i64_or (x y:Int):bits .or .i64 x y = wrap64 ((un x ||| un y:Nat):Int):=by
 show IntKind.i64.wrap ((BitVec.ofInt 64 x ||| BitVec.ofInt 64 y).toNat:Int) = _
 rw [BitVec.toNat_or,ofInt_un,ofInt_un,IntWalk.i64_left]
theorem i64_xor (x y:Int):bits .xor .i64 x y = wrap64 ((un x ^^^ un y:Nat):Int):=by
 show IntKind.i64.wrap ((BitVec.ofInt 64 x ^^^ BitVec.ofInt 64 y).toNat:Int) = _
 rw [BitVec.toNat_xor,ofInt_un,ofInt_un,IntWalk.i64_left]
theorem un_nat {n:Nat} (h:n < 18446744073709551616):un (n:Int) = n:=by unfold un;omega
theorem i64_and_mask (x:Int) (k:Nat) (hk:k < 64):bits .and .i64 x (2 ^ k - 1) = x % 2 ^ k:=by
 have h2:(2:Nat) ^ k <= 2 ^ 63:=Nat.pow_le_pow_right (by decide) (by omega)
 have hp:=Nat.two_pow_pos k
 have e:((2:Int) ^ k - 1) = ((2 ^ k - 1:Nat):Int):=by
  rw [Int.ofNat_sub (by omega)];simp
 rw [i64_and,e,un_nat (by omega),Nat.and_two_pow_sub_one_eq_mod]
 have h3:=Nat.mod_lt (un x) hp
 unfold wrap64
 have h4:(((un x % 2 ^ k:Nat):Int) + 9223372036854775808) % 18446744073709551616 - 9223372036854775808 = ((un x % 2 ^ k:Nat):Int):=by omega
 rw [h4]
 simp only [Int.natCast_emod,un_cast,Int.natCast_pow]
 have e2:(18446744073709551616:Int) = 2 ^ k * 2 ^ (64 - k):=by
  rw [<- Int.pow_add]
  have:k + (64 - k) = 64:=by omega
  rw [this];rfl
 rw [e2]
 exact Int.emod_emod_of_dvd x ⟨_,rfl⟩
def lowN (n:Nat) (v:Int):Nat:=un v % 2 ^ n
theorem lowN_lt (n:Nat) (v:Int):lowN n v < 2 ^ n:=Nat.mod_lt _ (Nat.two_pow_pos n)
open Go.WideShapes
def IsBytes (xs:List Int):Prop:=∀ x ∈ xs,0 <= x/\x <= 255
theorem IsBytes.at {xs:List Int} (h:IsBytes xs) {i:Nat} (hi:i < xs.length):0 <= xs.getD i 0/\xs.getD i 0 <= 255:=by
 have:xs.getD i 0 = xs[i]:=by simp [List.getD,hi]
 rw [this];exact h _ (List.getElem_mem hi)
theorem IsBytes.at' {xs:List Int} (h:IsBytes xs) (i:Nat):0 <= xs.getD i 0/\xs.getD i 0 <= 255:=by
 by_cases hi:i < xs.length
 ·exact h.at hi
 ·simp [List.getD,List.getElem?_eq_none (show xs.length <= i by omega)]
theorem IsBytes.take {xs:List Int} (h:IsBytes xs) (k:Nat):IsBytes (xs.take k):=fun x hx=>h x (List.mem_of_mem_take hx)
theorem IsBytes.append {xs ys:List Int} (h:IsBytes xs) (h2:IsBytes ys):IsBytes (xs ++ ys):=fun x hx=>by
 rcases List.mem_append.1 hx with hx | hx
 ·exact h x hx
 ·exact h2 x hx
theorem IsBytes.nil:IsBytes []:=fun x hx=>by cases hx
def Held (w:World) (v:Value) (xs:List Int):Prop:=
 IsBytes xs/\((xs = []/\(v = .slice none 0 0\/∃ a cap,v = .slice (some a) 0 cap/\cap <= maxLen)) \/
  (0 < xs.length ∧ ∃ b off cap, v = .slice (some ⟨b, off, none⟩) xs.length cap ∧ xs.length ≤ cap ∧ cap ≤ maxLen ∧ b < w.heap.size ∧
    ∀ i,i < xs.length->w.cell? ⟨b,off + i,none⟩ = some (.int .u8 (xs.getD i 0))))
theorem Held.bytes {w:World} {v:Value} {xs:List Int} (h:Held w v xs):IsBytes xs:=h.1
theorem Held.below {w w':World} {v:Value} {xs:List Int} {B:Nat} (h:Held w v xs) (hb:Below B w w') (hB:w.heap.size <= B):Held w' v xs:=by
 obtain ⟨h0,h | ⟨hp,b,off,cap,rfl,hc,hm,hlt,hcell⟩⟩:=h
 ·exact ⟨h0,Or.inl h⟩
 ·exact ⟨h0,Or.inr ⟨hp,b,off,cap,rfl,hc,hm,Nat.lt_of_lt_of_le hlt hb.size,fun i hi=>(hb.cell (p:=⟨b,off + i,none⟩) (show b < B by omega)).trans (hcell i hi)⟩⟩
theorem Held.drewN {w:World} {v:Value} {xs:List Int} (h:Held w v xs) (n:Nat):Held (w.drewN n) v xs:=h.below (below_drewN (Below.refl w.heap.size w) n) (Nat.le_refl _)
theorem held_of_own {w:World} {base n:Nat} {v:Value} {xs:List Int} (h:w.ownsRow base 5 1 v n (xs.map (Value.int .u8))) (hx:IsBytes xs) (hn:n = xs.length):Held w v xs:=by
 subst hn
 have h0:=h
 obtain ⟨hlen,h⟩:=h
 rcases h with ⟨rfl,h1⟩ | ⟨g,cap,cur,rfl,hb,hg,h1,h2,h3,h4⟩
 ·exact ⟨hx,Or.inl ⟨List.length_eq_zero_iff.1 h1,Or.inl rfl⟩⟩
 ·by_cases hp:0 < xs.length
  ·refine ⟨hx,Or.inr ⟨hp,g,0,cap,rfl,h1,h2,lt_of_block hg,fun i hi=>?_⟩⟩
   rw [Nat.zero_add,h0.cellAt i (by omega)]
   simp [List.getD,hi]
  ·have:xs = []:=List.length_eq_zero_iff.1 (by omega)
   subst this
   exact ⟨hx,Or.inl ⟨rfl,Or.inr ⟨_,cap,rfl,h2⟩⟩⟩
theorem held_nil (w:World):Held w (.slice none 0 0) []:=⟨IsBytes.nil,Or.inl ⟨rfl,Or.inl rfl⟩⟩
theorem held_row {w:World} {b cap:Nat} {xs:List Int} {e:TypeId} {cs:List Value} (hR:Row w b e cs) (hx:IsBytes xs) (h1:xs.length <= cap) (h2:cap <= maxLen) (hc:∀ i,i < xs.length->cs[i]? = some (.int .u8 (xs.getD i 0))) :
 Held w (.slice (some ⟨b,0,none⟩) xs.length cap) xs:=by
 by_cases hp:0 < xs.length
 ·exact ⟨hx,Or.inr ⟨hp,b,0,cap,rfl,h1,h2,hR.lt,fun i hi=>by rw [Nat.zero_add,hR.cell i];exact hc i hi⟩⟩
 ·have:xs = []:=List.length_eq_zero_iff.1 (by omega)
  subst this
  exact ⟨hx,Or.inl ⟨rfl,Or.inr ⟨_,cap,rfl,h2⟩⟩⟩
theorem Held.str {w:World} {v:Value} {xs:List Int} (h:Held w v xs):(convert 27 9 v).run Tryz.prog w = .ok (.string (strOfNums xs)) w:=by
 obtain ⟨_,⟨rfl,rfl | ⟨a,cap,rfl,_⟩⟩ | ⟨hp,b,off,cap,rfl,hc,hm,hlt,hcell⟩⟩:=h
 ·exact run_convert_bytes_nil (P:=Tryz.prog) w _ _ Tryz.underlying27 Tryz.underlying5 0 0 _ Tryz.underlying9
 ·rw [run_convert_bytes_string w _ _ _ _ 0 cap Tryz.underlying27 Tryz.underlying5 Tryz.underlying9,run_bytesToString w a 0 cap [] (by simpa using run_loadCells_list (P:=Tryz.prog) w a [] (fun j v hj=>by cases hj))]
  rfl
 ·exact run_convert_bytes_arg (P:=Tryz.prog) w _ _ Tryz.underlying27 Tryz.underlying5 b off _ cap xs rfl hcell _ Tryz.underlying9
theorem u8_inj {x y:Int} (hx:0 <= x/\x <= 255) (hy:0 <= y/\y <= 255) (h:UInt8.ofNat x.toNat = UInt8.ofNat y.toNat):x = y:=by
 have:=congrArg UInt8.toNat h
 simp only [UInt8.toNat_ofNat'] at this
 omega
theorem strOf_inj {xs ys:List Int} (hx:IsBytes xs) (hy:IsBytes ys) (h:xs.map (fun n=>UInt8.ofNat n.toNat) = ys.map (fun n=>UInt8.ofNat n.toNat)):xs = ys:=by
 induction xs generalizing ys with
 | nil => cases ys with
   | nil=>rfl
   | cons y ys=>simp at h
 | cons x xs ih => cases ys with
   | nil=>simp at h
   | cons y ys =>
     simp only [List.map_cons,List.cons.injEq] at h
     rw [u8_inj (hx x (by simp)) (hy y (by simp)) h.1,ih (fun z hz=>hx z (by simp [hz])) (fun z hz=>hy z (by simp [hz])) h.2]
theorem str_beq {xs ys:List Int} (hx:IsBytes xs) (hy:IsBytes ys):(xs.map (fun n=>UInt8.ofNat n.toNat) == ys.map (fun n=>UInt8.ofNat n.toNat)) = decide (xs = ys):=by
 by_cases h:xs = ys
 ·subst h;simp
 ·have:¬ (xs.map (fun n=>UInt8.ofNat n.toNat) = ys.map (fun n=>UInt8.ofNat n.toNat)):=fun h2=>h (strOf_inj hx hy h2)
  simp [h,this]
theorem info_u8:(Tryz.prog.info? 5).map (fun i=>(i.zero,i.size,i.bytes)) = some (some (.int .u8 0),1,1):=by kernel_rfl
theorem bytes_news {w:World} {b off:Nat} {xs:List Int} (h:∀ i,i < xs.length->w.cell? ⟨b,off + i,none⟩ = some (.int .u8 (xs.getD i 0))) :
 ∀ j u,(xs.map (Value.int .u8))[j]? = some u->w.cell? ((⟨b,off,none⟩:Addr).add j) = some u:=by
 intro j u hu
 have hj:j < xs.length:=by
  rcases Nat.lt_or_ge j xs.length with h | h
  ·exact h
  ·simp [List.getElem?_eq_none (show (xs.map (Value.int .u8)).length <= j by simpa using h)] at hu
 have hplain:(⟨b,off,none⟩:Addr).add j = ⟨b,off + j,none⟩:=by unfold Addr.add;split <;> simp_all
 rw [hplain,h j hj]
 simp [hj] at hu
 subst hu
 simp [List.getD,hj]
theorem bytes_one (xs:List Int):∀ u ∈ xs.map (Value.int .u8),u.oneCell' = true:=by
 intro u hu
 obtain ⟨x,_,rfl⟩:=List.mem_map.1 hu
 rfl
theorem same_of (v1 v2:Value) (xs ys:List Int) (w:World) (h1:Held w v1 xs) (h2:Held w v2 ys) :
 Calls Tryz.prog 15 #[v1,v2] w fun e w'=>e = .returned (.bool (decide (xs = ys)))/\w = w':=by
 have s1:=h1.str
 have s2:=h2.str
 have hb:=str_beq h1.bytes h2.bytes
 have HB:=Lib.hid hb
 clear hb
 go_enter Tryz.func15,Tryz.ntmps15
 go_wp2
 go_ret
 exact ⟨ret_bool (by rw [ByteArray.toList_eq,ByteArray.toList_eq];exact HB.out),rfl⟩
theorem same_at (v1 v2:Value) (xs:List Int) (w:World) (h1:Held w v1 xs) (h2:Held w v2 xs) :
 Calls Tryz.prog 15 #[v1,v2] w fun e w'=>e = .returned (.bool true)/\w = w':=
 (same_of v1 v2 xs xs w h1 h2).mono fun e w' ⟨he,hw⟩=>⟨he.trans (ret_bool (by simp)),hw⟩
theorem copy_of (v:Value) (xs:List Int) (w:World) (h:Held w v xs) (hl:xs.length <= 140737488355328) :
 Calls Tryz.prog 11 #[v] w fun e w'=>∃ v',e = .returned v'/\w'.ownsRow w.heap.size 5 1 v' xs.length (xs.map (Value.int .u8))/\Below w.heap.size w w':=by
 obtain ⟨i0,hi,hz0,hz1,hz2⟩:=info_parts info_u8
 obtain ⟨hx,⟨rfl,rfl | ⟨a,cap,rfl,hcap⟩⟩ | ⟨hp,b,off,cap,rfl,hc,hm,hlt,hcell⟩⟩:=h
 ·go_enter Tryz.func11,Tryz.ntmps11
  go_wp2_with (at_builtin;refine wpList_append_own_none rfl (.const (.slice none 0 0)) (.tmp 3) 27 rfl w.heap.size 5 i0 1 Tryz.underlying27 hi (.slice none 0 0) 0 [] rfl (World.ownsRow_nil _ _ _ _) rfl ?_)
  go_ret
  exact ⟨_,rfl,World.ownsRow_nil _ _ _ _,Below.refl _ _⟩
 ·go_enter Tryz.func11,Tryz.ntmps11
  go_wp2_with (at_builtin;refine wpList_append_own _ rfl (.const (.slice none 0 0)) (.tmp 3) 27 rfl w.heap.size 5 i0 (.int .u8 0) 1 1 Tryz.underlying27 hi hz0 hz1 hz2 rfl (by decide) (.slice none 0 0) 0 [] rfl (World.ownsRow_nil _ _ _ _) a 0 _ [] rfl rfl (fun j u hu=>by cases hu) (fun u hu=>by cases hu) (by unfold maxLen;omega) (by omega) (Nat.le_refl _) ?_;intro v1 w1 hown hgrow _)
  have hB:=Below.grown (Below.refl _ _) hgrow (Nat.le_refl _) (fun k hk=>by cases hk)
  go_wp2
  go_ret
  exact ⟨_,rfl,hown,hB⟩
 ·have hn:=bytes_news hcell
  have ho:=bytes_one xs
  go_enter Tryz.func11,Tryz.ntmps11
  go_wp2_with (at_builtin;refine wpList_append_own _ rfl (.const (.slice none 0 0)) (.tmp 3) 27 rfl w.heap.size 5 i0 (.int .u8 0) 1 1 Tryz.underlying27 hi hz0 hz1 hz2 rfl (by decide) (.slice none 0 0) 0 [] rfl (World.ownsRow_nil _ _ _ _) ⟨b,off,none⟩ xs.length _ (xs.map (Value.int .u8)) rfl (by simp) hn ho (by unfold maxLen;omega) (by omega) (Nat.le_refl _) ?_;intro v1 w1 hown hgrow _)
  have hB:=Below.grown (Below.refl _ _) hgrow (Nat.le_refl _) (fun k hk=>by cases hk)
  rw [Nat.zero_add,List.nil_append] at hown
  go_wp2
  go_ret
  exact ⟨_,rfl,hown,hB⟩
def stp (s w:Int):Int:=if 65535 < s + w then s + w - 65535 else s + w
def wordAt (xs:List Int) (k:Nat):Int:=256 * xs.getD (2 * k) 0 + xs.getD (2 * k + 1) 0
def sumN (xs:List Int) (s:Int):Nat->Int
 | 0=>s
 | k + 1=>stp (sumN xs s k) (wordAt xs k)
def sumv (xs:List Int) (seed:Int):Int:=sumN xs (seed % 65536) ((xs.length + 1) / 2)
theorem word_range {xs:List Int} (h:IsBytes xs) (k:Nat):0 <= wordAt xs k/\wordAt xs k <= 65535:=by
 have h1:=h.at' (2 * k)
 have h2:=h.at' (2 * k + 1)
 unfold wordAt;omega
theorem sumN_range {xs:List Int} (h:IsBytes xs) {s:Int} (hs:0 <= s/\s <= 65535) (k:Nat):0 <= sumN xs s k/\sumN xs s k <= 65535:=by
 induction k with
 | zero=>exact hs
 | succ k ih =>
   have hw:=word_range h k
   simp only [sumN,stp]
   split <;> omega
theorem or_byte_i64 (x y:Int) (hx:0 <= x/\x <= 255) (hy:0 <= y/\y <= 255):bits .or .i64 (x * 256) y = x * 256 + y:=by
 have ux:un (x * 256) = x.toNat * 256:=by unfold un;omega
 have uy:un y = y.toNat:=by unfold un;omega
 rw [i64_or,ux,uy,Nat.mul_comm,show 256 = 2 ^ 8 from rfl,<- Nat.two_pow_add_eq_or_of_lt (show y.toNat < 2 ^ 8 by omega)]
 unfold wrap64;omega
theorem seed_low (seed:Int):bits .and .i64 seed 65535 = seed % 65536:=by
 have h:=i64_and_mask seed 16 (by decide)
 have e:(2:Int) ^ 16 = 65536:=rfl
 rw [e] at h
 exact h
theorem sum_of (v:Value) (xs:List Int) (hl:xs.length <= 281474976710656) (seed:Int) (w:World) (h:Held w v xs) :
 Calls Tryz.prog 13 #[v,.int .i64 seed] w fun e w'=>e = .returned (.int .i64 (sumv xs seed))/\w = w':=by
 have hx:=h.bytes
 have hsd:=seed_low seed
 have hsl:∃ a cap,v = .slice a xs.length cap/\∀ i,i < xs.length->∃ b off,a = some ⟨b,off,none⟩/\w.cell? ⟨b,off + i,none⟩ = some (.int .u8 (xs.getD i 0)):=by
  obtain ⟨_,⟨rfl,rfl | ⟨a,cap,rfl,_⟩⟩ | ⟨_,b,off,cap,rfl,_,_,_,hcell⟩⟩:=h
  ·exact ⟨_,_,rfl,fun i hi=>by simp at hi⟩
  ·exact ⟨_,_,rfl,fun i hi=>by simp at hi⟩
  ·exact ⟨_,_,rfl,fun i hi=>⟨b,off,rfl,hcell i hi⟩⟩
 obtain ⟨a,cap,rfl,hc⟩:=hsl
 obtain ⟨n,hn⟩:∃ n,n = xs.length:=⟨_,rfl⟩
 rw [<- hn] at hc hl ⊢
 have HN:=Lib.hid hn
 have HC:=Lib.hid hc
 have HX:=Lib.hid hx
 clear hn hc hx h
 obtain ⟨s0,hs0⟩:∃ s0,s0 = seed % 65536:=⟨_,rfl⟩
 have hs0r:0 <= s0/\s0 <= 65535:=by omega
 rw [<- hs0] at hsd
 have HS0:=Lib.hid hs0
 have HS0R:=Lib.hid hs0r
 clear hs0 hs0r
 go_enter Tryz.func13,Tryz.ntmps13
 go_wp2
 go_loop [5,6] (fun z s=>∃ k:Nat,2 * k <= n + 1/\s = .int .i64 ((2 * k:Nat):Int)/\z = .int .i64 (sumN xs s0 k)) (fun _ s=>n + 2 - (intOf s).toNat)
 case atStart=>exact ⟨0,Nat.zero_le _,rfl,rfl⟩
 case round=>
  obtain ⟨k,hk,rfl,rfl⟩:=hrel
  obtain ⟨i,hi⟩:∃ i,i = 2 * k:=⟨_,rfl⟩
  rw [<- hi]
  have HI:=Lib.hid hi
  clear hi
  by_cases hlt:i < n
  ·obtain ⟨b,off,rfl,e1⟩:=HC.out i hlt
   have hsr:=sumN_range HX.out HS0R.out k
   obtain ⟨z,hz⟩:∃ z,z = sumN xs s0 k:=⟨_,rfl⟩
   rw [<- hz] at hsr ⊢
   have hx1:=HX.out.at' i
   have hx2:=HX.out.at' (i + 1)
   obtain ⟨x,hx⟩:∃ x,x = xs.getD i 0:=⟨_,rfl⟩
   obtain ⟨y,hy⟩:∃ y,y = xs.getD (i + 1) 0:=⟨_,rfl⟩
   rw [<- hx] at hx1 e1
   rw [<- hy] at hx2
   have hnx:sumN xs s0 (k + 1) = if 65535 < z + (x * 256 + y) then z + (x * 256 + y) - 65535 else z + (x * 256 + y):=by
    show stp (sumN xs s0 k) (wordAt xs k) = _
    unfold stp wordAt
    rw [<- hz,<- HI.out,<- hx,<- hy,Int.mul_comm 256 x]
   have HNX:=Lib.hid hnx
   have HXX:=Lib.hid hx
   have HY:=Lib.hid hy
   have HZ:=Lib.hid hz
   have heq:=or_byte_i64 x y hx1 hx2
   clear hnx hx hy hz
   by_cases hlt2:i + 1 < n
   ·obtain ⟨b',off',hbb,e2⟩:=HC.out (i + 1) hlt2
    cases hbb
    rw [<- HY.out] at e2
    by_cases hbig:65535 < z + (x * 256 + y)
    ·have HBG:=Lib.hid hbig
     go_wp2
     go_round
     case rel=>exact ⟨k + 1,by have:=HI.out;omega,by have:=HI.out;go_num,by rw [HNX.out,if_pos HBG.out]⟩
     case measure=>simp [intOf];omega
    ·have HBG:=Lib.hid hbig
     go_wp2
     go_round
     case rel=>exact ⟨k + 1,by have:=HI.out;omega,by have:=HI.out;go_num,by rw [HNX.out,if_neg HBG.out]⟩
     case measure=>simp [intOf];omega
   ·have hy0 : y = 0 := by
     rw [HY.out];simp [List.getD,List.getElem?_eq_none (show xs.length <= i + 1 by have:=HN.out;omega)]
    have hnx2:=HNX.out
    rw [hy0,Int.add_zero] at hnx2
    have HNX2:=Lib.hid hnx2
    clear hnx2 heq hy0 hx2
    by_cases hbig:65535 < z + x * 256
    ·have HBG:=Lib.hid hbig
     go_wp2
     go_round
     case rel=>exact ⟨k + 1,by have:=HI.out;omega,by have:=HI.out;go_num,by rw [HNX2.out,if_pos HBG.out]⟩
     case measure=>simp [intOf];omega
    ·have HBG:=Lib.hid hbig
     go_wp2
     go_round
     case rel=>exact ⟨k + 1,by have:=HI.out;omega,by have:=HI.out;go_num,by rw [HNX2.out,if_neg HBG.out]⟩
     case measure=>simp [intOf];omega
  ·go_wp2
   go_ret
   refine ⟨ret_int ?_,rfl⟩
   unfold sumv
   rw [<- HN.out,<- HS0.out]
   congr 1
   have:=HI.out
   omega
theorem Held.load {w:World} {v:Value} {xs:List Int} (h:Held w v xs):(Extern.Bytes.bytesOf v).run Tryz.prog w = .ok ⟨(Lib.bytesOf xs).toArray⟩ w:=by
 obtain ⟨_,⟨rfl,rfl | ⟨a,cap,rfl,_⟩⟩ | ⟨_,b,off,cap,rfl,_,_,_,hcell⟩⟩:=h
 ·rfl
 ·rfl
 ·have hl := Lib.run_loadBytesX (P := Tryz.prog) w xs ⟨b, off, none⟩ .empty (fun j x hj => by
   have hjl:j < xs.length:=(List.getElem?_eq_some_iff.1 hj).1
   have e:(⟨b,off,none⟩:Addr).add j = ⟨b,off + j,none⟩:=by unfold Addr.add;split <;> simp_all
   rw [e,hcell j (by omega),List.getD_eq_getElem?_getD,hj]
   rfl)
  have he:(⟨ByteArray.empty.data ++ (Lib.bytesOf xs).toArray⟩:ByteArray) = ⟨(Lib.bytesOf xs).toArray⟩:=by
   apply ByteArray.ext
   show (#[]:Array UInt8) ++ (Lib.bytesOf xs).toArray = (Lib.bytesOf xs).toArray
   simp
  rw [he] at hl
  exact hl
def cmpv:List Int->List Int->Int
 | [],[]=>0
 | [],_ :: _=>-1
 | _ :: _,[]=>1
 | a :: ar,b :: br=>if a < b then -1 else if b < a then 1 else cmpv ar br
theorem u8_lt {x y:Int} (hx:0 <= x/\x <= 255) (hy:0 <= y/\y <= 255):(x.toNat.toUInt8 < y.toNat.toUInt8) ↔ x < y:=by
 rw [UInt8.lt_iff_toNat_lt]
 have e1:x.toNat.toUInt8.toNat = x.toNat:=by simp;omega
 have e2:y.toNat.toUInt8.toNat = y.toNat:=by simp;omega
 rw [e1,e2];omega
theorem cmpv_eq:∀ (xs ys:List Int),IsBytes xs->IsBytes ys->Lib.compareBytes (Lib.bytesOf xs) (Lib.bytesOf ys) = cmpv xs ys
 | [],[],_,_=>rfl
 | [],_ :: _,_,_=>rfl
 | _ :: _,[],_,_=>rfl
 | x :: xs, y :: ys, hx, hy => by
   have ih:=cmpv_eq xs ys (fun z hz=>hx z (by simp [hz])) (fun z hz=>hy z (by simp [hz]))
   have h1:=u8_lt (hx x (by simp)) (hy y (by simp))
   have h2:=u8_lt (hy y (by simp)) (hx x (by simp))
   show (if x.toNat.toUInt8 < y.toNat.toUInt8 then (-1:Int) else if y.toNat.toUInt8 < x.toNat.toUInt8 then 1 else Lib.compareBytes (Lib.bytesOf xs) (Lib.bytesOf ys)) = _
   rw [ih,show cmpv (x :: xs) (y :: ys) = if x < y then -1 else if y < x then 1 else cmpv xs ys from rfl]
   by_cases h:x < y
   ·rw [if_pos (h1.2 h),if_pos h]
   ·rw [if_neg (fun h'=>h (h1.1 h')),if_neg h]
    by_cases h':y < x
    ·rw [if_pos (h2.2 h'),if_pos h']
    ·rw [if_neg (fun h''=>h' (h2.1 h'')),if_neg h']
theorem run_compare {v1 v2:Value} {xs ys:List Int} {w:World} (h1:Held w v1 xs) (h2:Held w v2 ys):(callFunc 64 #[v1,v2]).run Tryz.prog w = .ok (.value (.int .i64 (cmpv xs ys))) w:=by
 rw [run_callFunc_extern Tryz.func64 (by kernel_rfl) (by kernel_rfl) (by kernel_rfl) (e:=Extern.BytealgCompare.compare) (by kernel_rfl)]
 have e:(Extern.BytealgCompare.compare #[v1,v2]).run Tryz.prog w = .ok (.int .i64 (cmpv xs ys)) w:=by
  change Sem.run Tryz.prog (do pure (goInt (Extern.BytealgCompare.cmp (<- Extern.Bytes.bytesOf v1) (<- Extern.Bytes.bytesOf v2)))) w = _
  simp only [Sem.run_bind,Sem.run_pure,h1.load,h2.load,Result.andThen]
  rw [Lib.cmp_eq]
  show Result.ok (Value.int .i64 (Lib.compareBytes (Lib.bytesOf xs) (Lib.bytesOf ys))) w = _
  rw [cmpv_eq xs ys h1.bytes h2.bytes]
 rw [e];rfl
theorem diff_of (v1 v2:Value) (xs ys:List Int) (w:World) (h1:Held w v1 xs) (h2:Held w v2 ys) :
 Calls Tryz.prog 16 #[v1,v2] w fun e w'=>e = .returned (.int .i64 (cmpv xs ys))/\w = w':=by
 have hr:=run_compare h1 h2
 clear h1 h2
 go_enter Tryz.func16,Tryz.ntmps16
 go_wp2
 go_ret
 exact ⟨rfl,rfl⟩
def findv:List Int->Int->Int
 | [],_=>-1
 | b :: l,c=>if b = c then 0 else if findv l c = -1 then -1 else findv l c + 1
theorem findv_eq (xs:List Int) (hx:IsBytes xs) (c:Int) (hc:0 <= c/\c <= 255):Lib.indexByte (Lib.bytesOf xs) c.toNat.toUInt8 = findv xs c:=by
 induction xs with
 | nil=>rfl
 | cons x xs ih =>
   have hb:=hx x (by simp)
   have ih:=ih fun z hz=>hx z (by simp [hz])
   show (if x.toNat.toUInt8 == c.toNat.toUInt8 then (0:Int) else if Lib.indexByte (Lib.bytesOf xs) c.toNat.toUInt8 == -1 then -1 else Lib.indexByte (Lib.bytesOf xs) c.toNat.toUInt8 + 1) = _
   rw [ih,show findv (x :: xs) c = if x = c then 0 else if findv xs c = -1 then -1 else findv xs c + 1 from rfl]
   have he:(x.toNat.toUInt8 == c.toNat.toUInt8) = decide (x = c):=by
    rw [Bool.eq_iff_iff]
    simp only [beq_iff_eq,decide_eq_true_eq]
    exact ⟨fun h=>u8_inj hb hc h,fun h=>by rw [h]⟩
   rw [he]
   by_cases h:x = c <;> simp [h]
theorem run_index {v:Value} {xs:List Int} {w:World} (h:Held w v xs) (c:Int) (hc:0 <= c/\c <= 255):(callFunc 63 #[v,.int .u8 c]).run Tryz.prog w = .ok (.value (.int .i64 (findv xs c))) w:=by
 rw [run_callFunc_extern Tryz.func63 (by kernel_rfl) (by kernel_rfl) (by kernel_rfl) (e:=Extern.BytealgIndexByte.indexByte) (by kernel_rfl)]
 have hs:=Lib.run_indexByteString (P:=Tryz.prog) ⟨(Lib.bytesOf xs).toArray⟩ c w
 have e:(Extern.BytealgIndexByte.indexByte #[v,.int .u8 c]).run Tryz.prog w = .ok (.int .i64 (findv xs c)) w:=by
  rw [<- findv_eq xs h.bytes c hc]
  have hl:=h.load
  change Sem.run Tryz.prog (do
   let b <- Extern.Bytes.bytesOf v
   let c <- Extern.Bytes.asByte (.int .u8 c)
   match (List.range b.size).find? fun i=>b[i]! == c with
   | some i=>pure (goInt i)
   | none=>pure (goInt (-1))) w = _
  change Sem.run Tryz.prog (do
   let b <- Extern.Bytes.bytesOf (.string ⟨(Lib.bytesOf xs).toArray⟩)
   let c <- Extern.Bytes.asByte (.int .u8 c)
   match (List.range b.size).find? fun i=>b[i]! == c with
   | some i=>pure (goInt i)
   | none=>pure (goInt (-1))) w = _ at hs
  simp only [Sem.run_bind,hl,Result.andThen]
  simp only [Extern.Bytes.bytesOf,Sem.run_bind,Sem.run_pure,Result.andThen] at hs
  exact hs
 rw [e];rfl
theorem u8_low (c:Int):IntKind.u8.wrap c = c % 256:=by simp [IntKind.wrap,IntKind.bits,IntKind.signed]
theorem find_of (v:Value) (xs:List Int) (c:Int) (w:World) (h:Held w v xs) :
 Calls Tryz.prog 14 #[v,.int .i64 c] w fun e w'=>e = .returned (.int .i64 (findv xs (c % 256)))/\w = w':=by
 have hr:=run_index h (c % 256) (by omega)
 have hu:=u8_low c
 clear h
 go_enter Tryz.func14,Tryz.ntmps14
 go_wp2
 go_ret
 exact ⟨rfl,rfl⟩
def mix1 (x y:Nat):Nat:=x ^^^ (y * 14437167314951722571 % 18446744073709551616)
def mix2 (z:Nat):Nat:=z ^^^ (z / 536870912)
def mix3 (z:Nat):Nat:=z * 10320681969465668653 % 18446744073709551616
def mix4 (z:Nat):Nat:=z ^^^ (z / 4294967296)
def mixv (x y:Nat):Nat:=mix4 (mix3 (mix2 (mix1 x y)))
theorem mix_of (x y:Int) (w:World):Calls Tryz.prog 12 #[.int .i64 x,.int .i64 y] w fun e w'=>e = .returned (.int .i64 (wrap64 ((mixv (un x) (un y):Nat):Int)))/\w = w':=by
 go_enter Tryz.func12,Tryz.ntmps12
 go_wp2
 go_ret
 refine ⟨ret_int ?_,rfl⟩
 have ux:∀ z:Int,IntKind.u64.wrap z = ((un z:Nat):Int):=fun z=>by rw [IntKind.wrap_u64,un_cast]
 have um:∀ z k:Nat,IntKind.u64.wrap ((z:Int) * (k:Int)) = ((z * k % 18446744073709551616:Nat):Int):=fun z k=>by rw [IntKind.wrap_u64,<- Int.natCast_mul,Int.natCast_emod];rfl
 have h1:mix1 (un x) (un y) < 2 ^ 64:=Nat.xor_lt_two_pow (un_lt x) (by omega)
 have h2:mix2 (mix1 (un x) (un y)) < 2 ^ 64:=Nat.xor_lt_two_pow h1 (Nat.lt_of_le_of_lt (Nat.div_le_self _ _) h1)
 have h3:mix3 (mix2 (mix1 (un x) (un y))) < 2 ^ 64:=Nat.mod_lt _ (by decide)
 have e1:bits BinOp.xor IntKind.u64 (IntKind.u64.wrap x) (IntKind.u64.wrap (IntKind.u64.wrap y * 14437167314951722571)) = ((mix1 (un x) (un y):Nat):Int):=by
  have hk:=um (un y) 14437167314951722571
  have hk2:((14437167314951722571:Nat):Int) = 14437167314951722571:=rfl
  rw [hk2] at hk
  rw [ux x,ux y,hk,bits_xor_u64_nat _ _ (un_lt x) (Nat.mod_lt _ (by decide))]
  rfl
 rw [e1]
 show wrap64 _ = wrap64 ((mix4 (mix3 (mix2 (mix1 (un x) (un y)))):Nat):Int)
 generalize mix1 (un x) (un y) = z1 at h1 h2 h3 ⊢
 have d1:(z1:Int) / 536870912 = ((z1 / 536870912:Nat):Int):=by omega
 rw [d1,bits_xor_u64_nat _ _ h1 (Nat.lt_of_le_of_lt (Nat.div_le_self _ _) h1)]
 show wrap64 (bits BinOp.xor IntKind.u64 (IntKind.u64.wrap (((mix2 z1:Nat):Int) * 10320681969465668653)) (IntKind.u64.wrap (((mix2 z1:Nat):Int) * 10320681969465668653) / 4294967296)) = _
 generalize mix2 z1 = z2 at h2 h3 ⊢
 have hk:=um z2 10320681969465668653
 have hk2:((10320681969465668653:Nat):Int) = 10320681969465668653:=rfl
 rw [hk2] at hk
 rw [hk]
 show wrap64 (bits BinOp.xor IntKind.u64 ((mix3 z2:Nat):Int) (((mix3 z2:Nat):Int) / 4294967296)) = _
 generalize mix3 z2 = z3 at h3 ⊢
 have d2:(z3:Int) / 4294967296 = ((z3 / 4294967296:Nat):Int):=by omega
 rw [d2,bits_xor_u64_nat _ _ h3 (Nat.lt_of_le_of_lt (Nat.div_le_self _ _) h3)]
 rfl
def tot (f:Nat->Int):Nat->Int
 | 0=>0
 | k + 1=>tot f k + f k
def Own1 (w:World) (base:Nat) (ρ:Nat->Nat) (r:Nat) (e:TypeId) (v:Value) (xs:List Value):Prop:=
 w.ownsRow base e 1 v xs.length xs/\∀ b,v.ownBlock = some b->ρ b = r
theorem ownsRow_stay {w w':World} {base:Nat} {e:TypeId} {v:Value} {n:Nat} {xs:List Value} (h:w.ownsRow base e 1 v n xs) (hk:∀ b,v.ownBlock = some b->w'.heap[b]? = w.heap[b]?):w'.ownsRow base e 1 v n xs:=by
 obtain ⟨hl,hz | ⟨g,cap,cur,rfl,hb,hg,rest⟩⟩:=h
 ·exact ⟨hl,Or.inl hz⟩
 ·exact ⟨hl,Or.inr ⟨g,cap,cur,rfl,hb,by rw [hk g rfl];exact hg,rest⟩⟩
theorem Own1.move {w w':World} {base:Nat} {ρ ρ':Nat->Nat} {r r':Nat} {e:TypeId} {v:Value} {xs:List Value} (h:Own1 w base ρ r e v xs)
 (hf:∀ q,q < w.heap.size->ρ q = r->w'.heap[q]? = w.heap[q]?/\ρ' q = r'):Own1 w' base ρ' r' e v xs:=by
 have hlt:=h.1.lt
 exact ⟨ownsRow_stay h.1 fun b hb=>(hf b (hlt b hb).2 (h.2 b hb)).1,fun b hb=>(hf b (hlt b hb).2 (h.2 b hb)).2⟩
theorem Own1.same {w w':World} {base:Nat} {ρ:Nat->Nat} {r:Nat} {e:TypeId} {v:Value} {xs:List Value} (h:Own1 w base ρ r e v xs) (hh:w'.heap = w.heap):Own1 w' base ρ r e v xs:=
 h.move fun q _ hr=>⟨by rw [hh],hr⟩
theorem Own1.nil (w:World) (base:Nat) (ρ:Nat->Nat) (r:Nat) (e:TypeId):Own1 w base ρ r e (.slice none 0 0) []:=⟨World.ownsRow_nil _ _ _ _,fun b hb=>by cases hb⟩
theorem Own1.open {w:World} {base:Nat} {ρ:Nat->Nat} {r:Nat} {e:TypeId} {v:Value} {xs:List Value} (h:Own1 w base ρ r e v xs) :
 ∃ a cap,v = .slice a xs.length cap/\xs.length <= cap/\cap <= maxLen/\(0 < xs.length->∃ b,a = some ⟨b,0,none⟩/\b < w.heap.size/\base <= b/\ρ b = r/\∀ i,i < xs.length->w.cell? ⟨b,i,none⟩ = xs[i]?/\w.frozen? ⟨b,i,none⟩ = false):=by
 obtain ⟨h1,h2⟩:=h
 have h0:=h1
 obtain ⟨hl,⟨rfl,hz⟩ | ⟨g,cap,cur,rfl,hb,hg,hnc,hcm,hcs,ht⟩⟩:=h1
 ·exact ⟨none,0,by rw [hz],by omega,by decide,fun hp=>by omega⟩
 ·exact ⟨_,cap,rfl,hnc,hcm,fun hp=>⟨g,rfl,(Array.getElem?_eq_some_iff.1 hg).1,hb,h2 g rfl,fun i hi=>⟨h0.cellAt i (by omega),by simp [World.frozen?,hg]⟩⟩⟩
theorem heap_setCell_same {w:World} {b i:Nat} {e:TypeId} {cs:List Value} {v:Value} (h:Row w b e cs) (hv:cs[i]? = some v):(w.setCell ⟨b,i,none⟩ v).heap = w.heap:=by
 have h2:=h.put i v
 have hset:cs.set i v = cs:=by
  apply List.ext_getElem?
  intro t
  rw [List.getElem?_set]
  by_cases ht:i = t
  ·subst ht
   have hi:i < cs.length:=by
    rcases Nat.lt_or_ge i cs.length with h | h
    ·exact h
    ·rw [List.getElem?_eq_none h] at hv;cases hv
   rw [if_pos rfl,if_pos hi,hv]
  ·rw [if_neg ht]
 rw [hset] at h2
 apply Array.ext_getElem?
 intro q
 by_cases hq:q = b
 ·subst hq
  unfold Row at h h2
  rw [h2,h]
 ·exact Below.heap_setCell _ _ _ _ hq
structure Calm (w w':World):Prop where
 heap:w'.heap = w.heap
 below:∀ B,Below B w w'
theorem Calm.refl (w:World):Calm w w:=⟨rfl,fun B=>Below.refl B w⟩
theorem Calm.trans {a b c:World} (h:Calm a b) (k:Calm b c):Calm a c:=⟨k.heap.trans h.heap,fun B=>(h.below B).trans (k.below B)⟩
theorem Calm.drewN {a b:World} (h:Calm a b) (n:Nat):Calm a (b.drewN n):=⟨h.heap,fun B=>below_drewN (h.below B) n⟩
theorem Calm.drew {a b:World} (h:Calm a b):Calm a b.drew:=⟨h.heap,fun B=>(h.below B).drew⟩
theorem Calm.set {a w:World} (h:Calm a w) {b i:Nat} {e:TypeId} {cs:List Value} {v:Value} (hR:Row w b e cs) (hv:cs[i]? = some v):Calm a (w.setCell ⟨b,i,none⟩ v):=
 ⟨(heap_setCell_same hR hv).trans h.heap, fun B => (h.below B).trans (by
   have hh:=heap_setCell_same hR hv
   exact ⟨rfl,rfl,rfl,by rw [hh];exact Nat.le_refl _,fun k _=>by rw [hh]⟩)⟩
theorem Row.calm {w w':World} {b:Nat} {e:TypeId} {cs:List Value} (h:Row w b e cs) (hc:Calm w w'):Row w' b e cs:=by unfold Row at h ⊢;rw [hc.heap];exact h
theorem Calm.cell {w w':World} (h:Calm w w') (a:Addr):w'.cell? a = w.cell? a:=World.cell?_of_block (by rw [h.heap])
theorem wpList_append_keep {P:Program} {w:World} {ops:Array Oper} {rest:List Oper} {o:Oper} {a:Act} {Q:Exit->Act->World->Prop} (hgd:o.guard = none) (s x:Operand) (t:TypeId)
 (ho:o.op = .call { callee:=.builtin .append,args:=#[s,x],argTypes:=#[t,t] })
 (base:Nat) (e:TypeId) (i:TypeInfo) (z:Value) (bytes:Nat) (ht:P.underlying t = some (.slice e)) (hi:P.info? e = some i) (hz:i.zero = some z)
 (hsize:i.size = 1) (hby:i.bytes = bytes) (hzs:z.cells.size = 1)
 (v:Value) (n:Nat) (xs:List Value) (hs:a.eval s = v) (hown:w.ownsRow base e 1 v n xs)
 (ad:Addr) (m c:Nat) (news:List Value) (hx:a.eval x = .slice (some ad) m c) (hl:news.length = m * 1) (hnews:∀ j u,news[j]? = some u->w.cell? (ad.add j) = some u) (h1:∀ u ∈ news,u.oneCell' = true)
 (hm:0 < m) (h63:n + m <= maxLen) (hbytes:(n + m) * bytes <= 140737488355328) (hbase:base <= w.heap.size)
 (h : ∀ g cap w', w'.ownsRow base e 1 (.slice (some ⟨g, 0, none⟩) (n + m) cap) (n + m) (xs ++ news) → w.grownBy w' v.ownBlock → (v.ownBlock = some g ∨ g = w.heap.size) → g < w'.heap.size →
   (∀ v2 n2 xs2,w.ownsRow base e 1 v2 n2 xs2->(v2.ownBlock = v.ownBlock->n2 <= n)->w'.ownsRow base e 1 v2 n2 xs2)->wpList P ops Q rest (a.put o.dst (.slice (some ⟨g,0,none⟩) (n + m) cap)) w'):wpList P ops Q (o :: rest) a w:=by
 refine wpList_plain hgd fun K hK=>?_
 obtain ⟨g,cap,w',hr,h2,h3,h4,h5⟩:=run_append_lies (P:=P) w t o.type base e i z 1 bytes ht hi hz hsize hby hzs (by decide) v n xs hown ad m c news hl hnews h1 hm h63 hbytes hbase _ rfl
 have hkeep:∀ v2 n2 xs2,w.ownsRow base e 1 v2 n2 xs2->(v2.ownBlock = v.ownBlock->n2 <= n)->w'.ownsRow base e 1 v2 n2 xs2:=by
  intro v2 n2 xs2 ho2 hle
  by_cases hsame:v2.ownBlock = v.ownBlock
  ·have hle:=hle hsame
   rcases hown.2 with ⟨rfl,h0⟩ | ⟨g0,cap0,cur,rfl,hb,hg,hnc,hcm,hcs,htk⟩
   ·exact ownsRow_stay ho2 fun b hb2=>by rw [hb2] at hsame;cases hsame
   ·have hl0:=hl
    rw [Nat.mul_one] at hl0 hcs htk
    by_cases hroom:n + m <= cap0
    ·have hr':=run_append_room (P:=P) w t o.type e i ht hi g0 n cap0 cur hg ad m c news (by rw [hsize];exact hl) hnews h1 hroom (by rw [hsize,Nat.mul_one,hl0,hcs];omega)
     rw [hr] at hr'
     injection hr' with hv hw
     obtain ⟨hl2,⟨rfl,hz2⟩ | ⟨g2,cap2,cur2,rfl,hb2,hg2,hn2,hm2,hs2,ht2⟩⟩:=ho2
     ·exact ⟨hl2,Or.inl ⟨rfl,hz2⟩⟩
     ·obtain rfl:g2 = g0:=by simpa [Value.ownBlock] using hsame
      rw [hg] at hg2
      injection hg2 with hg2
      injection hg2 with hg2
      subst hg2
      refine ⟨hl2,Or.inr ⟨g2,cap2,_,rfl,hb2,by rw [hw];exact setRow_heap w g2 _ _ e _ hg,hn2,hm2,?_,?_⟩⟩
      ·rw [hsize,Nat.mul_one]
       simp only [List.size_toArray,List.length_append,List.length_take,List.length_drop,Array.length_toList]
       rw [Nat.mul_one] at hs2
       omega
      ·rw [hsize,Nat.mul_one] at *
       simp only [List.append_assoc]
       rw [List.take_append_of_le_length (by rw [List.length_take,Array.length_toList];omega),List.take_take,Nat.min_eq_left (by omega)]
       exact ht2
    ·have hr':=run_append_grow (P:=P) w t o.type e i z ht hi hz ⟨g0,0,none⟩ n cap0 xs (by rw [hsize];exact hown.1) (hown.cells (g:=g0) rfl) ad m c news (by rw [hsize];exact hl) hnews (by omega) (by simp only [maxLen] at h63;omega) (by rw [hby];exact growslice_fits (by omega) hbytes)
     rw [hr] at hr'
     injection hr' with hv hw
     refine ownsRow_stay ho2 fun b hb2=>?_
     obtain ⟨_,hlt⟩:=ho2.lt b hb2
     rw [hw]
     exact Below.heap_alloc w.drew _ b hlt
  ·exact ownsRow_stay ho2 fun b hb2=>h3.block b (ho2.lt b hb2).2 (fun hc=>hsame (by rw [hb2];exact hc))
 unfold Oper.wp execOp
 simp only [ho,resolve,invoke,builtin,Sem.run_bind,Sem.run_pure,Result.andThen_ok,List.map_toArray,List.map_cons,List.map_nil,hs,hx,hr]
 exact hK _ _ (h g cap w' h2 h3 h4 h5 hkeep)
theorem own_set_v {w:World} {base g n cap:Nat} {e:TypeId} {xs:List Value} (h:w.ownsRow base e 1 (.slice (some ⟨g,0,none⟩) n cap) n xs) (i:Nat) (x:Value) (hi:i < n) :
 (w.setCell ⟨g,i,none⟩ x).ownsRow base e 1 (.slice (some ⟨g,0,none⟩) n cap) n (xs.set i x):=by
 obtain ⟨hl,⟨h0,_⟩ | ⟨g',cap',cur,hv,hb,hg,h1,h2,h3,h4⟩⟩:=h
 ·cases h0
 ·cases hv
  refine ⟨by simpa using hl,Or.inr ⟨g,cap,cur.setIfInBounds i x,rfl,hb,?_,h1,h2,by simpa using h3,?_⟩⟩
  ·have hlt:g < w.heap.size:=(Array.getElem?_eq_some_iff.1 hg).1
   have h':w.heap[g] = .cells cur e (0,0):=by simpa [Array.getElem?_eq_getElem hlt] using hg
   show (w.heap.modify g _)[g]? = _
   rw [Array.getElem?_eq_getElem (by simpa using hlt),Array.getElem_modify_self,h']
   rfl
  ·rw [Array.toList_setIfInBounds,List.take_set,h4]
theorem grow_role {w w':World} {ρ:Nat->Nat} {row:Option Nat} {g r:Nat} (hg:w.grownBy w' row) (hrow:∀ b,row = some b->ρ b = r) (hnew:row = some g\/g = w.heap.size) :
 ∀ q,q < w.heap.size->ρ q ≠ r->w'.heap[q]? = w.heap[q]?/\(fun q=>if q = g then r else ρ q) q = ρ q:=by
 intro q hq hr
 have hne:¬ (q = g):=by
  rintro rfl
  rcases hnew with h | h
  ·exact hr (hrow q h)
  ·omega
 refine ⟨hg.block q hq (fun e=>hr (hrow q e.symm)),?_⟩
 show (if q = g then r else ρ q) = ρ q
 rw [if_neg hne]
theorem Own1.grow {w w':World} {base:Nat} {ρ:Nat->Nat} {r0 r:Nat} {e:TypeId} {v:Value} {xs:List Value} {row:Option Nat} {g:Nat} (h:Own1 w base ρ r0 e v xs) (hne:r0 ≠ r) (hg:w.grownBy w' row) (hrow:∀ b,row = some b->ρ b = r) (hnew:row = some g\/g = w.heap.size) :
 Own1 w' base (fun q=>if q = g then r else ρ q) r0 e v xs:=
 h.move fun q hq hr=>by
  have:=grow_role hg hrow hnew q hq (by rw [hr];exact hne)
  exact ⟨this.1,this.2.trans hr⟩
theorem Row.grow {w w':World} {ρ:Nat->Nat} {b r:Nat} {e:TypeId} {cs:List Value} {row:Option Nat} {g:Nat} (h:Row w b e cs) (hne:ρ b ≠ r) (hg:w.grownBy w' row) (hrow:∀ b,row = some b->ρ b = r) (hnew:row = some g\/g = w.heap.size):Row w' b e cs:=by
 have:=(grow_role hg hrow hnew b h.lt hne).1
 unfold Row at h ⊢
 rw [this];exact h
theorem Own1.set {w:World} {base:Nat} {ρ:Nat->Nat} {r0:Nat} {e:TypeId} {v:Value} {xs:List Value} (h:Own1 w base ρ r0 e v xs) {a:Addr} (hne:ρ a.block ≠ r0) (x:Value):Own1 (w.setCell a x) base ρ r0 e v xs:=
 h.move fun q _ hr=>⟨Below.heap_setCell _ _ _ _ (fun e=>hne (by rw [<- e];exact hr)),hr⟩
theorem Own1.alloc {w:World} {base:Nat} {ρ:Nat->Nat} {r0:Nat} {e:TypeId} {v:Value} {xs:List Value} (h:Own1 w base ρ r0 e v xs) (o:Obj):Own1 (w.alloc o) base ρ r0 e v xs:=
 h.move fun q hq hr=>⟨Below.heap_alloc _ _ _ hq,hr⟩
theorem check_int {P:Program} {kt:TypeId} (hk:P.underlying kt = some (.int .i64)) (e:Bool) (k:Int) (w:World):(Instr.checkKey e 10000 kt (.int .i64 k)).run P w = .ok () w:=
 MapKept.run_checkKey (d:=.int .i64) hk (show MapKept.IsKey (.int .i64) (.int .i64 k) from rfl) e 9999
theorem run_put {P:Program} {t kt et:TypeId} (hm:P.underlying t = some (.map kt et)) (hk:P.underlying kt = some (.int .i64)) (w:World) (es:Array MapEntry) (c:Nat) (k:Int) (v:Value)
 (hf:Instr.findNow (.int .i64) (.int .i64 k) es.toList 0 = some none) :
 (Instr.mapUpdate t (.map (some w.heap.size)) (.int .i64 k) v).run P (w.alloc (.map es c)) = .ok () (w.alloc (.map (es.push { key:=.int .i64 k,val:=v,born:=c }) (c + 1))):=by
 have h1:(w.alloc (.map es c)).heap[w.heap.size]? = some (.map es c):=heap_alloc_new w _
 simp [Instr.mapUpdate,run_underlying hm,MapKept.run_getObj_map h1,check_int hk,MapKept.run_findKey hk hf,MapKept.run_setObj_map _ h1,Result.andThen]
 show (⟨_,_,_,_,_⟩:World) = ⟨_,_,_,_,_⟩
 congr 1
 show (w.heap.push _).setIfInBounds w.heap.size _ = w.heap.push _
 apply Array.toList_inj.1
 rw [Array.toList_setIfInBounds,Array.toList_push,Array.toList_push,<- Array.length_toList,List.set_append_right _ _ (Nat.le_refl _),Nat.sub_self]
 rfl
theorem run_look {P:Program} {t kt et:TypeId} (hm:P.underlying t = some (.map kt et)) (hk:P.underlying kt = some (.int .i64)) (w:World) (b:Nat) (es:Array MapEntry) (c:Nat) (hb:w.heap[b]? = some (.map es c)) (k:Int) (i:Nat) (v:Value)
 (hf:Instr.findNow (.int .i64) (.int .i64 k) es.toList 0 = some (some (i,v))) (ok:Bool) :
 (Instr.lookup t (.map (some b)) (.int .i64 k) ok).run P w = .ok (if ok then .tuple #[v,.bool true] else v) w:=by
 cases ok <;> simp [Instr.lookup,run_underlying hm,MapKept.run_getObj_map hb,check_int hk,MapKept.run_findKey hk hf,Result.andThen]
theorem run_look_none {P:Program} {t kt et:TypeId} (hm:P.underlying t = some (.map kt et)) (hk:P.underlying kt = some (.int .i64)) (w:World) (b:Nat) (es:Array MapEntry) (c:Nat) (hb:w.heap[b]? = some (.map es c)) (k:Int) (z:Value)
 (hf:Instr.findNow (.int .i64) (.int .i64 k) es.toList 0 = some none) (hz:(zeroValue et).run P w = .ok z w) (ok:Bool) :
 (Instr.lookup t (.map (some b)) (.int .i64 k) ok).run P w = .ok (if ok then .tuple #[z,.bool false] else z) w:=by
 cases ok <;> simp [Instr.lookup,run_underlying hm,MapKept.run_getObj_map hb,check_int hk,MapKept.run_findKey hk hf,hz,Result.andThen]
def Bits (w:World) (b off n x:Nat):Prop:=b < w.heap.size/\∀ i,i < n->w.cell? ⟨b,off + i,none⟩ = some (.int .i64 (bit x i))
theorem Bits.below {w w':World} {b off n x B:Nat} (h:Bits w b off n x) (hb:Below B w w') (hlt:b < B):Bits w' b off n x:=
 ⟨Nat.lt_of_lt_of_le h.1 hb.size,fun i hi=>(hb.cell (p:=⟨b,off + i,none⟩) hlt).trans (h.2 i hi)⟩
theorem Bits.row {w:World} {b n x:Nat} {e:TypeId} (h:Row w b e (itab n (bit x))):Bits w b 0 n x:=
 ⟨h.lt,fun i hi=>by rw [h.cell,Nat.zero_add,itab_get _ hi]⟩
theorem Bits.other {w:World} {b off n x:Nat} (h:Bits w b off n x) (a:Addr) (v:Value) (hne:b ≠ a.block):Bits (w.setCell a v) b off n x:=
 ⟨by have:=h.1;simpa [World.setCell] using this,fun i hi=>(World.cell?_of_block (Below.heap_setCell _ _ _ _ hne)).trans (h.2 i hi)⟩
theorem ints_get {n:Nat} (g:Nat->Int) {j:Nat} {u:Value} (h:(itab n g)[j]? = some u):j < n/\u = .int .i64 (g j):=by
 by_cases hj:j < n
 ·rw [itab_get g hj] at h
  exact ⟨hj,(Option.some.inj h).symm⟩
 ·rw [List.getElem?_eq_none (by rw [itab_length];omega)] at h
  cases h
theorem addr_add (b o j:Nat):(⟨b,o,none⟩:Addr).add j = ⟨b,o + j,none⟩:=by
 unfold Addr.add;split
 ·subst_vars;rfl
 ·rfl
theorem Bits.news {w:World} {b o n x:Nat} (h:Bits w b o n x):∀ j u,(itab n (bit x))[j]? = some u->w.cell? ((⟨b,o,none⟩:Addr).add j) = some u:=by
 intro j u hu
 obtain ⟨hj,rfl⟩:=ints_get _ hu
 rw [addr_add];exact h.2 j hj
theorem Bits.congr {w:World} {b o n x y:Nat} (h:Bits w b o n x) (e:∀ i,i < n->bit x i = bit y i):Bits w b o n y:=
 ⟨h.1,fun i hi=>by rw [<- e i hi];exact h.2 i hi⟩
def wideL:List MapEntry:=[⟨.int .i64 1,.func (.func 122) #[] #[],0⟩,⟨.int .i64 2,.func (.func 123) #[] #[],1⟩,⟨.int .i64 3,.func (.func 124) #[] #[],2⟩,⟨.int .i64 4,.func (.func 125) #[] #[],3⟩,⟨.int .i64 5,.func (.func 126) #[] #[],4⟩,⟨.int .i64 6,.func (.func 127) #[] #[],5⟩,⟨.int .i64 7,.func (.func 128) #[] #[],6⟩,⟨.int .i64 8,.func (.func 129) #[] #[],7⟩,⟨.int .i64 9,.func (.func 130) #[] #[],8⟩,⟨.int .i64 10,.func (.func 131) #[] #[],9⟩,⟨.int .i64 11,.func (.func 132) #[] #[],10⟩,⟨.int .i64 12,.func (.func 133) #[] #[],11⟩,⟨.int .i64 13,.func (.func 134) #[] #[],12⟩,⟨.int .i64 14,.func (.func 135) #[] #[],13⟩,⟨.int .i64 15,.func (.func 136) #[] #[],14⟩]
def wideE (i:Nat):Array MapEntry:=(wideL.take i).toArray
theorem wide_put0 (w:World):(Instr.mapUpdate 149 (.map (some w.heap.size)) (.int .i64 1) (.func (.func 122) #[] #[])).run Tryz.prog (w.alloc (.map #[] 0)) = .ok () (w.alloc (.map (wideE 1) 1)):=
 run_put Tryz.underlying149 Tryz.underlying3 w #[] 0 1 _ rfl
theorem wide_put1 (w:World):(Instr.mapUpdate 149 (.map (some w.heap.size)) (.int .i64 2) (.func (.func 123) #[] #[])).run Tryz.prog (w.alloc (.map (wideE 1) 1)) = .ok () (w.alloc (.map (wideE 2) 2)):=
 run_put Tryz.underlying149 Tryz.underlying3 w (wideE 1) 1 2 _ rfl
theorem wide_put2 (w:World):(Instr.mapUpdate 149 (.map (some w.heap.size)) (.int .i64 3) (.func (.func 124) #[] #[])).run Tryz.prog (w.alloc (.map (wideE 2) 2)) = .ok () (w.alloc (.map (wideE 3) 3)):=
 run_put Tryz.underlying149 Tryz.underlying3 w (wideE 2) 2 3 _ rfl
theorem wide_put3 (w:World):(Instr.mapUpdate 149 (.map (some w.heap.size)) (.int .i64 4) (.func (.func 125) #[] #[])).run Tryz.prog (w.alloc (.map (wideE 3) 3)) = .ok () (w.alloc (.map (wideE 4) 4)):=
 run_put Tryz.underlying149 Tryz.underlying3 w (wideE 3) 3 4 _ rfl
theorem wide_put4 (w:World):(Instr.mapUpdate 149 (.map (some w.heap.size)) (.int .i64 5) (.func (.func 126) #[] #[])).run Tryz.prog (w.alloc (.map (wideE 4) 4)) = .ok () (w.alloc (.map (wideE 5) 5)):=
 run_put Tryz.underlying149 Tryz.underlying3 w (wideE 4) 4 5 _ rfl
theorem wide_put5 (w:World):(Instr.mapUpdate 149 (.map (some w.heap.size)) (.int .i64 6) (.func (.func 127) #[] #[])).run Tryz.prog (w.alloc (.map (wideE 5) 5)) = .ok () (w.alloc (.map (wideE 6) 6)):=
 run_put Tryz.underlying149 Tryz.underlying3 w (wideE 5) 5 6 _ rfl
theorem wide_put6 (w:World):(Instr.mapUpdate 149 (.map (some w.heap.size)) (.int .i64 7) (.func (.func 128) #[] #[])).run Tryz.prog (w.alloc (.map (wideE 6) 6)) = .ok () (w.alloc (.map (wideE 7) 7)):=
 run_put Tryz.underlying149 Tryz.underlying3 w (wideE 6) 6 7 _ rfl
theorem wide_put7 (w:World):(Instr.mapUpdate 149 (.map (some w.heap.size)) (.int .i64 8) (.func (.func 129) #[] #[])).run Tryz.prog (w.alloc (.map (wideE 7) 7)) = .ok () (w.alloc (.map (wideE 8) 8)):=
 run_put Tryz.underlying149 Tryz.underlying3 w (wideE 7) 7 8 _ rfl
theorem wide_put8 (w:World):(Instr.mapUpdate 149 (.map (some w.heap.size)) (.int .i64 9) (.func (.func 130) #[] #[])).run Tryz.prog (w.alloc (.map (wideE 8) 8)) = .ok () (w.alloc (.map (wideE 9) 9)):=
 run_put Tryz.underlying149 Tryz.underlying3 w (wideE 8) 8 9 _ rfl
theorem wide_put9 (w:World):(Instr.mapUpdate 149 (.map (some w.heap.size)) (.int .i64 10) (.func (.func 131) #[] #[])).run Tryz.prog (w.alloc (.map (wideE 9) 9)) = .ok () (w.alloc (.map (wideE 10) 10)):=
 run_put Tryz.underlying149 Tryz.underlying3 w (wideE 9) 9 10 _ rfl
theorem wide_put10 (w:World):(Instr.mapUpdate 149 (.map (some w.heap.size)) (.int .i64 11) (.func (.func 132) #[] #[])).run Tryz.prog (w.alloc (.map (wideE 10) 10)) = .ok () (w.alloc (.map (wideE 11) 11)):=
 run_put Tryz.underlying149 Tryz.underlying3 w (wideE 10) 10 11 _ rfl
theorem wide_put11 (w:World):(Instr.mapUpdate 149 (.map (some w.heap.size)) (.int .i64 12) (.func (.func 133) #[] #[])).run Tryz.prog (w.alloc (.map (wideE 11) 11)) = .ok () (w.alloc (.map (wideE 12) 12)):=
 run_put Tryz.underlying149 Tryz.underlying3 w (wideE 11) 11 12 _ rfl
theorem wide_put12 (w:World):(Instr.mapUpdate 149 (.map (some w.heap.size)) (.int .i64 13) (.func (.func 134) #[] #[])).run Tryz.prog (w.alloc (.map (wideE 12) 12)) = .ok () (w.alloc (.map (wideE 13) 13)):=
 run_put Tryz.underlying149 Tryz.underlying3 w (wideE 12) 12 13 _ rfl
theorem wide_put13 (w:World):(Instr.mapUpdate 149 (.map (some w.heap.size)) (.int .i64 14) (.func (.func 135) #[] #[])).run Tryz.prog (w.alloc (.map (wideE 13) 13)) = .ok () (w.alloc (.map (wideE 14) 14)):=
 run_put Tryz.underlying149 Tryz.underlying3 w (wideE 13) 13 14 _ rfl
theorem wide_put14 (w:World):(Instr.mapUpdate 149 (.map (some w.heap.size)) (.int .i64 15) (.func (.func 136) #[] #[])).run Tryz.prog (w.alloc (.map (wideE 14) 14)) = .ok () (w.alloc (.map (wideE 15) 15)):=
 run_put Tryz.underlying149 Tryz.underlying3 w (wideE 14) 14 15 _ rfl
theorem wide_any (w:World):Calls Tryz.prog 107 #[] w fun e w'=>∃ b,e = .returned (.map (some b))/\w'.heap[b]? = some (.map (wideE 15) 15)/\Below w.heap.size w w':=by
 have hmm:=@run_makeMap Tryz.prog
 have p0:=wide_put0
 have p1:=wide_put1
 have p2:=wide_put2
 have p3:=wide_put3
 have p4:=wide_put4
 have p5:=wide_put5
 have p6:=wide_put6
 have p7:=wide_put7
 have p8:=wide_put8
 have p9:=wide_put9
 have p10:=wide_put10
 have p11:=wide_put11
 have p12:=wide_put12
 have p13:=wide_put13
 have p14:=wide_put14
 go_enter Tryz.func107,Tryz.ntmps107
 go_wp2
 go_ret
 exact ⟨_,rfl,heap_alloc_new w _,(Below.refl _ _).alloc (Nat.le_refl _) _⟩
theorem wide_look1 (w:World) (b:Nat) (h:w.heap[b]? = some (.map (wideE 15) 15)) (ok:Bool):(Instr.lookup 149 (.map (some b)) (.int .i64 1) ok).run Tryz.prog w = .ok (if ok then .tuple #[.func (.func 122) #[] #[],.bool true] else .func (.func 122) #[] #[]) w:=
 run_look Tryz.underlying149 Tryz.underlying3 w b (wideE 15) 15 h 1 0 _ rfl ok
theorem wide_look2 (w:World) (b:Nat) (h:w.heap[b]? = some (.map (wideE 15) 15)) (ok:Bool):(Instr.lookup 149 (.map (some b)) (.int .i64 2) ok).run Tryz.prog w = .ok (if ok then .tuple #[.func (.func 123) #[] #[],.bool true] else .func (.func 123) #[] #[]) w:=
 run_look Tryz.underlying149 Tryz.underlying3 w b (wideE 15) 15 h 2 1 _ rfl ok
theorem wide_look3 (w:World) (b:Nat) (h:w.heap[b]? = some (.map (wideE 15) 15)) (ok:Bool):(Instr.lookup 149 (.map (some b)) (.int .i64 3) ok).run Tryz.prog w = .ok (if ok then .tuple #[.func (.func 124) #[] #[],.bool true] else .func (.func 124) #[] #[]) w:=
 run_look Tryz.underlying149 Tryz.underlying3 w b (wideE 15) 15 h 3 2 _ rfl ok
theorem wide_look4 (w:World) (b:Nat) (h:w.heap[b]? = some (.map (wideE 15) 15)) (ok:Bool):(Instr.lookup 149 (.map (some b)) (.int .i64 4) ok).run Tryz.prog w = .ok (if ok then .tuple #[.func (.func 125) #[] #[],.bool true] else .func (.func 125) #[] #[]) w:=
 run_look Tryz.underlying149 Tryz.underlying3 w b (wideE 15) 15 h 4 3 _ rfl ok
theorem wide_look5 (w:World) (b:Nat) (h:w.heap[b]? = some (.map (wideE 15) 15)) (ok:Bool):(Instr.lookup 149 (.map (some b)) (.int .i64 5) ok).run Tryz.prog w = .ok (if ok then .tuple #[.func (.func 126) #[] #[],.bool true] else .func (.func 126) #[] #[]) w:=
 run_look Tryz.underlying149 Tryz.underlying3 w b (wideE 15) 15 h 5 4 _ rfl ok
theorem wide_look6 (w:World) (b:Nat) (h:w.heap[b]? = some (.map (wideE 15) 15)) (ok:Bool):(Instr.lookup 149 (.map (some b)) (.int .i64 6) ok).run Tryz.prog w = .ok (if ok then .tuple #[.func (.func 127) #[] #[],.bool true] else .func (.func 127) #[] #[]) w:=
 run_look Tryz.underlying149 Tryz.underlying3 w b (wideE 15) 15 h 6 5 _ rfl ok
theorem wide_look7 (w:World) (b:Nat) (h:w.heap[b]? = some (.map (wideE 15) 15)) (ok:Bool):(Instr.lookup 149 (.map (some b)) (.int .i64 7) ok).run Tryz.prog w = .ok (if ok then .tuple #[.func (.func 128) #[] #[],.bool true] else .func (.func 128) #[] #[]) w:=
 run_look Tryz.underlying149 Tryz.underlying3 w b (wideE 15) 15 h 7 6 _ rfl ok
theorem wide_look8 (w:World) (b:Nat) (h:w.heap[b]? = some (.map (wideE 15) 15)) (ok:Bool):(Instr.lookup 149 (.map (some b)) (.int .i64 8) ok).run Tryz.prog w = .ok (if ok then .tuple #[.func (.func 129) #[] #[],.bool true] else .func (.func 129) #[] #[]) w:=
 run_look Tryz.underlying149 Tryz.underlying3 w b (wideE 15) 15 h 8 7 _ rfl ok
theorem wide_look9 (w:World) (b:Nat) (h:w.heap[b]? = some (.map (wideE 15) 15)) (ok:Bool):(Instr.lookup 149 (.map (some b)) (.int .i64 9) ok).run Tryz.prog w = .ok (if ok then .tuple #[.func (.func 130) #[] #[],.bool true] else .func (.func 130) #[] #[]) w:=
 run_look Tryz.underlying149 Tryz.underlying3 w b (wideE 15) 15 h 9 8 _ rfl ok
theorem wide_look10 (w:World) (b:Nat) (h:w.heap[b]? = some (.map (wideE 15) 15)) (ok:Bool):(Instr.lookup 149 (.map (some b)) (.int .i64 10) ok).run Tryz.prog w = .ok (if ok then .tuple #[.func (.func 131) #[] #[],.bool true] else .func (.func 131) #[] #[]) w:=
 run_look Tryz.underlying149 Tryz.underlying3 w b (wideE 15) 15 h 10 9 _ rfl ok
theorem wide_look11 (w:World) (b:Nat) (h:w.heap[b]? = some (.map (wideE 15) 15)) (ok:Bool):(Instr.lookup 149 (.map (some b)) (.int .i64 11) ok).run Tryz.prog w = .ok (if ok then .tuple #[.func (.func 132) #[] #[],.bool true] else .func (.func 132) #[] #[]) w:=
 run_look Tryz.underlying149 Tryz.underlying3 w b (wideE 15) 15 h 11 10 _ rfl ok
theorem wide_look12 (w:World) (b:Nat) (h:w.heap[b]? = some (.map (wideE 15) 15)) (ok:Bool):(Instr.lookup 149 (.map (some b)) (.int .i64 12) ok).run Tryz.prog w = .ok (if ok then .tuple #[.func (.func 133) #[] #[],.bool true] else .func (.func 133) #[] #[]) w:=
 run_look Tryz.underlying149 Tryz.underlying3 w b (wideE 15) 15 h 12 11 _ rfl ok
theorem wide_look13 (w:World) (b:Nat) (h:w.heap[b]? = some (.map (wideE 15) 15)) (ok:Bool):(Instr.lookup 149 (.map (some b)) (.int .i64 13) ok).run Tryz.prog w = .ok (if ok then .tuple #[.func (.func 134) #[] #[],.bool true] else .func (.func 134) #[] #[]) w:=
 run_look Tryz.underlying149 Tryz.underlying3 w b (wideE 15) 15 h 13 12 _ rfl ok
theorem wide_look14 (w:World) (b:Nat) (h:w.heap[b]? = some (.map (wideE 15) 15)) (ok:Bool):(Instr.lookup 149 (.map (some b)) (.int .i64 14) ok).run Tryz.prog w = .ok (if ok then .tuple #[.func (.func 135) #[] #[],.bool true] else .func (.func 135) #[] #[]) w:=
 run_look Tryz.underlying149 Tryz.underlying3 w b (wideE 15) 15 h 14 13 _ rfl ok
theorem wide_look15 (w:World) (b:Nat) (h:w.heap[b]? = some (.map (wideE 15) 15)) (ok:Bool):(Instr.lookup 149 (.map (some b)) (.int .i64 15) ok).run Tryz.prog w = .ok (if ok then .tuple #[.func (.func 136) #[] #[],.bool true] else .func (.func 136) #[] #[]) w:=
 run_look Tryz.underlying149 Tryz.underlying3 w b (wideE 15) 15 h 15 14 _ rfl ok
def narrowL:List MapEntry:=[⟨.int .i64 4,.func (.func 137) #[] #[],0⟩,⟨.int .i64 5,.func (.func 138) #[] #[],1⟩,⟨.int .i64 6,.func (.func 139) #[] #[],2⟩,⟨.int .i64 7,.func (.func 140) #[] #[],3⟩,⟨.int .i64 11,.func (.func 141) #[] #[],4⟩,⟨.int .i64 12,.func (.func 142) #[] #[],5⟩,⟨.int .i64 13,.func (.func 143) #[] #[],6⟩]
def narrowE (i:Nat):Array MapEntry:=(narrowL.take i).toArray
theorem narrow_put0 (w:World):(Instr.mapUpdate 149 (.map (some w.heap.size)) (.int .i64 4) (.func (.func 137) #[] #[])).run Tryz.prog (w.alloc (.map #[] 0)) = .ok () (w.alloc (.map (narrowE 1) 1)):=
 run_put Tryz.underlying149 Tryz.underlying3 w #[] 0 4 _ rfl
theorem narrow_put1 (w:World):(Instr.mapUpdate 149 (.map (some w.heap.size)) (.int .i64 5) (.func (.func 138) #[] #[])).run Tryz.prog (w.alloc (.map (narrowE 1) 1)) = .ok () (w.alloc (.map (narrowE 2) 2)):=
 run_put Tryz.underlying149 Tryz.underlying3 w (narrowE 1) 1 5 _ rfl
theorem narrow_put2 (w:World):(Instr.mapUpdate 149 (.map (some w.heap.size)) (.int .i64 6) (.func (.func 139) #[] #[])).run Tryz.prog (w.alloc (.map (narrowE 2) 2)) = .ok () (w.alloc (.map (narrowE 3) 3)):=
 run_put Tryz.underlying149 Tryz.underlying3 w (narrowE 2) 2 6 _ rfl
theorem narrow_put3 (w:World):(Instr.mapUpdate 149 (.map (some w.heap.size)) (.int .i64 7) (.func (.func 140) #[] #[])).run Tryz.prog (w.alloc (.map (narrowE 3) 3)) = .ok () (w.alloc (.map (narrowE 4) 4)):=
 run_put Tryz.underlying149 Tryz.underlying3 w (narrowE 3) 3 7 _ rfl
theorem narrow_put4 (w:World):(Instr.mapUpdate 149 (.map (some w.heap.size)) (.int .i64 11) (.func (.func 141) #[] #[])).run Tryz.prog (w.alloc (.map (narrowE 4) 4)) = .ok () (w.alloc (.map (narrowE 5) 5)):=
 run_put Tryz.underlying149 Tryz.underlying3 w (narrowE 4) 4 11 _ rfl
theorem narrow_put5 (w:World):(Instr.mapUpdate 149 (.map (some w.heap.size)) (.int .i64 12) (.func (.func 142) #[] #[])).run Tryz.prog (w.alloc (.map (narrowE 5) 5)) = .ok () (w.alloc (.map (narrowE 6) 6)):=
 run_put Tryz.underlying149 Tryz.underlying3 w (narrowE 5) 5 12 _ rfl
theorem narrow_put6 (w:World):(Instr.mapUpdate 149 (.map (some w.heap.size)) (.int .i64 13) (.func (.func 143) #[] #[])).run Tryz.prog (w.alloc (.map (narrowE 6) 6)) = .ok () (w.alloc (.map (narrowE 7) 7)):=
 run_put Tryz.underlying149 Tryz.underlying3 w (narrowE 6) 6 13 _ rfl
theorem narrow_any (w:World):Calls Tryz.prog 108 #[] w fun e w'=>∃ b,e = .returned (.map (some b))/\w'.heap[b]? = some (.map (narrowE 7) 7)/\Below w.heap.size w w':=by
 have hmm:=@run_makeMap Tryz.prog
 have p0:=narrow_put0
 have p1:=narrow_put1
 have p2:=narrow_put2
 have p3:=narrow_put3
 have p4:=narrow_put4
 have p5:=narrow_put5
 have p6:=narrow_put6
 go_enter Tryz.func108,Tryz.ntmps108
 go_wp2
 go_ret
 exact ⟨_,rfl,heap_alloc_new w _,(Below.refl _ _).alloc (Nat.le_refl _) _⟩
theorem narrow_look4 (w:World) (b:Nat) (h:w.heap[b]? = some (.map (narrowE 7) 7)) (ok:Bool):(Instr.lookup 149 (.map (some b)) (.int .i64 4) ok).run Tryz.prog w = .ok (if ok then .tuple #[.func (.func 137) #[] #[],.bool true] else .func (.func 137) #[] #[]) w:=
 run_look Tryz.underlying149 Tryz.underlying3 w b (narrowE 7) 7 h 4 0 _ rfl ok
theorem narrow_look5 (w:World) (b:Nat) (h:w.heap[b]? = some (.map (narrowE 7) 7)) (ok:Bool):(Instr.lookup 149 (.map (some b)) (.int .i64 5) ok).run Tryz.prog w = .ok (if ok then .tuple #[.func (.func 138) #[] #[],.bool true] else .func (.func 138) #[] #[]) w:=
 run_look Tryz.underlying149 Tryz.underlying3 w b (narrowE 7) 7 h 5 1 _ rfl ok
theorem narrow_look6 (w:World) (b:Nat) (h:w.heap[b]? = some (.map (narrowE 7) 7)) (ok:Bool):(Instr.lookup 149 (.map (some b)) (.int .i64 6) ok).run Tryz.prog w = .ok (if ok then .tuple #[.func (.func 139) #[] #[],.bool true] else .func (.func 139) #[] #[]) w:=
 run_look Tryz.underlying149 Tryz.underlying3 w b (narrowE 7) 7 h 6 2 _ rfl ok
theorem narrow_look7 (w:World) (b:Nat) (h:w.heap[b]? = some (.map (narrowE 7) 7)) (ok:Bool):(Instr.lookup 149 (.map (some b)) (.int .i64 7) ok).run Tryz.prog w = .ok (if ok then .tuple #[.func (.func 140) #[] #[],.bool true] else .func (.func 140) #[] #[]) w:=
 run_look Tryz.underlying149 Tryz.underlying3 w b (narrowE 7) 7 h 7 3 _ rfl ok
theorem narrow_look11 (w:World) (b:Nat) (h:w.heap[b]? = some (.map (narrowE 7) 7)) (ok:Bool):(Instr.lookup 149 (.map (some b)) (.int .i64 11) ok).run Tryz.prog w = .ok (if ok then .tuple #[.func (.func 141) #[] #[],.bool true] else .func (.func 141) #[] #[]) w:=
 run_look Tryz.underlying149 Tryz.underlying3 w b (narrowE 7) 7 h 11 4 _ rfl ok
theorem narrow_look12 (w:World) (b:Nat) (h:w.heap[b]? = some (.map (narrowE 7) 7)) (ok:Bool):(Instr.lookup 149 (.map (some b)) (.int .i64 12) ok).run Tryz.prog w = .ok (if ok then .tuple #[.func (.func 142) #[] #[],.bool true] else .func (.func 142) #[] #[]) w:=
 run_look Tryz.underlying149 Tryz.underlying3 w b (narrowE 7) 7 h 12 5 _ rfl ok
theorem narrow_look13 (w:World) (b:Nat) (h:w.heap[b]? = some (.map (narrowE 7) 7)) (ok:Bool):(Instr.lookup 149 (.map (some b)) (.int .i64 13) ok).run Tryz.prog w = .ok (if ok then .tuple #[.func (.func 143) #[] #[],.bool true] else .func (.func 143) #[] #[]) w:=
 run_look Tryz.underlying149 Tryz.underlying3 w b (narrowE 7) 7 h 13 6 _ rfl ok
theorem narrow_look1 (w:World) (b:Nat) (h:w.heap[b]? = some (.map (narrowE 7) 7)) (ok:Bool):(Instr.lookup 149 (.map (some b)) (.int .i64 1) ok).run Tryz.prog w = .ok (if ok then .tuple #[.nilFunc,.bool false] else .nilFunc) w:=
 run_look_none Tryz.underlying149 Tryz.underlying3 w b (narrowE 7) 7 h 1 .nilFunc rfl (by kernel_rfl) ok
theorem narrow_look2 (w:World) (b:Nat) (h:w.heap[b]? = some (.map (narrowE 7) 7)) (ok:Bool):(Instr.lookup 149 (.map (some b)) (.int .i64 2) ok).run Tryz.prog w = .ok (if ok then .tuple #[.nilFunc,.bool false] else .nilFunc) w:=
 run_look_none Tryz.underlying149 Tryz.underlying3 w b (narrowE 7) 7 h 2 .nilFunc rfl (by kernel_rfl) ok
theorem narrow_look3 (w:World) (b:Nat) (h:w.heap[b]? = some (.map (narrowE 7) 7)) (ok:Bool):(Instr.lookup 149 (.map (some b)) (.int .i64 3) ok).run Tryz.prog w = .ok (if ok then .tuple #[.nilFunc,.bool false] else .nilFunc) w:=
 run_look_none Tryz.underlying149 Tryz.underlying3 w b (narrowE 7) 7 h 3 .nilFunc rfl (by kernel_rfl) ok
theorem narrow_look8 (w:World) (b:Nat) (h:w.heap[b]? = some (.map (narrowE 7) 7)) (ok:Bool):(Instr.lookup 149 (.map (some b)) (.int .i64 8) ok).run Tryz.prog w = .ok (if ok then .tuple #[.nilFunc,.bool false] else .nilFunc) w:=
 run_look_none Tryz.underlying149 Tryz.underlying3 w b (narrowE 7) 7 h 8 .nilFunc rfl (by kernel_rfl) ok
theorem narrow_look9 (w:World) (b:Nat) (h:w.heap[b]? = some (.map (narrowE 7) 7)) (ok:Bool):(Instr.lookup 149 (.map (some b)) (.int .i64 9) ok).run Tryz.prog w = .ok (if ok then .tuple #[.nilFunc,.bool false] else .nilFunc) w:=
 run_look_none Tryz.underlying149 Tryz.underlying3 w b (narrowE 7) 7 h 9 .nilFunc rfl (by kernel_rfl) ok
theorem narrow_look10 (w:World) (b:Nat) (h:w.heap[b]? = some (.map (narrowE 7) 7)) (ok:Bool):(Instr.lookup 149 (.map (some b)) (.int .i64 10) ok).run Tryz.prog w = .ok (if ok then .tuple #[.nilFunc,.bool false] else .nilFunc) w:=
 run_look_none Tryz.underlying149 Tryz.underlying3 w b (narrowE 7) 7 h 10 .nilFunc rfl (by kernel_rfl) ok
theorem narrow_look14 (w:World) (b:Nat) (h:w.heap[b]? = some (.map (narrowE 7) 7)) (ok:Bool):(Instr.lookup 149 (.map (some b)) (.int .i64 14) ok).run Tryz.prog w = .ok (if ok then .tuple #[.nilFunc,.bool false] else .nilFunc) w:=
 run_look_none Tryz.underlying149 Tryz.underlying3 w b (narrowE 7) 7 h 14 .nilFunc rfl (by kernel_rfl) ok
theorem narrow_look15 (w:World) (b:Nat) (h:w.heap[b]? = some (.map (narrowE 7) 7)) (ok:Bool):(Instr.lookup 149 (.map (some b)) (.int .i64 15) ok).run Tryz.prog w = .ok (if ok then .tuple #[.nilFunc,.bool false] else .nilFunc) w:=
 run_look_none Tryz.underlying149 Tryz.underlying3 w b (narrowE 7) 7 h 15 .nilFunc rfl (by kernel_rfl) ok
def sgn (n x:Nat):Int:=if x < 2 ^ (n - 1) then (x:Int) else (x:Int) - 2 ^ n
theorem sgn64 {x:Nat} (hx:x < 18446744073709551616):sgn 64 x = wrap64 (x:Int):=by
 unfold sgn wrap64
 have e1:(2:Nat) ^ (64 - 1) = 9223372036854775808:=rfl
 have e2:(2:Int) ^ 64 = 18446744073709551616:=rfl
 rw [e1,e2]
 split <;> omega
theorem sgn32 {x:Nat} (hx:x < 4294967296):sgn 32 x = wrap32 (x:Int):=by
 unfold sgn wrap32
 have e1:(2:Nat) ^ (32 - 1) = 2147483648:=rfl
 have e2:(2:Int) ^ 32 = 4294967296:=rfl
 rw [e1,e2]
 split <;> omega
end Go.Proofs.YtdepknffpnnmmaaGreat

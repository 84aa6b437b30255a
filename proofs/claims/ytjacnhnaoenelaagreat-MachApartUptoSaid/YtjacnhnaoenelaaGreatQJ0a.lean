import Derived.WalkKit
import Derived.ProofKit
import Derived.Deep.Quiet
import Derived.Test.YtjacnhnaoenelaaGreatProg
import Derived.BigQuiet
import Derived.Deep.Cut
import Derived.Deep.RegionHeld3
import Derived.Lib.Hide
import Derived.StillTailTactics
import Derived.Test.YtjacnhnaoenelaaGreatRows
import Derived.WalkSpells
import Derived.WalkLawsBesides
import Derived.Laws.BytesArg
import Derived.Laws.AppendOwnNone
import Derived.OpenShut
import Derived.SizedLaws
import Derived.Lib.BytesEntry
import Derived.Laws.OwnMore
import Derived.Maps.AppendAt
import Derived.Deep.AppendLies
import Derived.Maps.Own
import Derived.Deep.QuietTactic
import Derived.Deep.RegionWith
set_option maxRecDepth 100000
set_option maxHeartbeats 3200000
namespace Go.Proofs.YtjacnhnaoenelaaGreat
open Lib (hid)
theorem nl {n:Nat}:n <= n:=Nat.le_refl n
open Go.Proofs.Tryz
open Go.RowKit Go.ChangeShapes
def Row (w:World) (b:Nat) (e:TypeId) (cs:List Value):Prop:=w.heap[b]? = some (.cells cs.toArray e (0,0))
theorem Row.lt {w:World} {b:Nat} {e:TypeId} {cs:List Value} (h:Row w b e cs):b < w.heap.size:=lt_of_block h
theorem Row.cell {w:World} {b:Nat} {e:TypeId} {cs:List Value} (h:Row w b e cs) (i:Nat):w.cell? ⟨b,i,none⟩ = cs[i]?:=by
 rw [cell_of_row w b i _ e (0,0) h];simp
theorem Row.free {w:World} {b:Nat} {e:TypeId} {cs:List Value} (h:Row w b e cs) (i:Nat):w.frozen? ⟨b,i,none⟩ = false:=by
 unfold Row at h;simp [World.frozen?,h]
theorem Row.put {w:World} {b:Nat} {e:TypeId} {cs:List Value} (h:Row w b e cs) (i:Nat) (v:Value) :
 Row (w.setCell ⟨b,i,none⟩ v) b e (cs.set i v):=by
 have hlt:=h.lt;unfold Row at h ⊢;have h':w.heap[b] = .cells cs.toArray e (0,0):=by simpa [Array.getElem?_eq_getElem hlt] using h
 show (w.heap.modify b _)[b]? = _;rw [Array.getElem?_eq_getElem (by simpa using hlt),Array.getElem_modify_self,h'];simp
theorem Row.other {w:World} {b:Nat} {e:TypeId} {cs:List Value} (h:Row w b e cs) (a:Addr) (v:Value) (hne:b ≠ a.block) :
 Row (w.setCell a v) b e cs:=by
 unfold Row at h ⊢;rw [Below.heap_setCell _ _ _ _ hne];exact h
theorem Row.alloc {w:World} {b:Nat} {e:TypeId} {cs:List Value} (h:Row w b e cs) (o:Obj):Row (w.alloc o) b e cs:=by
 have hlt:=h.lt;unfold Row at h ⊢;rw [Below.heap_alloc _ _ _ hlt];exact h
theorem Row.made (w:World) (cs:List Value) (e:TypeId):Row (w.alloc (.cells cs.toArray e)) w.heap.size e cs:=heap_alloc_new w _
theorem Row.below {w w':World} {b B:Nat} {e:TypeId} {cs:List Value} (h:Row w b e cs) (hb:Below B w w') (hlt:b < B):Row w' b e cs:=by
 unfold Row at h ⊢;rw [hb.block b hlt];exact h
theorem Row.drew {w:World} {b:Nat} {e:TypeId} {cs:List Value} (h:Row w b e cs):Row w.drew b e cs:=h
theorem Row.drewN {w:World} {b:Nat} {e:TypeId} {cs:List Value} (h:Row w b e cs) (n:Nat):Row (w.drewN n) b e cs:=h
theorem Ec {a b:Bool} (h:a = b):Ending.returned (.bool a) = .returned (.bool b):=by rw [h]
theorem Bj {k:IntKind} {a b:Int} (h:a = b):Ending.returned (.int k a) = .returned (.int k b):=by rw [h]
theorem drewN_drewN (w:World) (m n:Nat):(w.drewN m).drewN n = w.drewN (m + n):=by unfold World.drewN;simp [Nat.add_assoc]
theorem below_drewN {B:Nat} {a w:World} (h:Below B a w) (n:Nat):Below B a (w.drewN n):=⟨h.os,h.tape,h.output,h.size,h.block⟩
set_option linter.unusedVariables false
def Told (w:World) (v:Value):Ending->World->Prop:=fun e w'=>e = .returned v/\w' = w
def Ol (w:World) (v:Value):Ending->World->Prop:=fun e w'=>e = .returned v/\Below w.heap.size w w'
def Am (op:Int):Bool:=(decide (1 <= op) && decide (op <= 15) && (op != 14)) || (op == 24) || (decide (27 <= op) && decide (op <= 37))
theorem Az (op:Int) (w:World):Calls prog 111 #[.int .i64 op] w (Told w (.bool (Am op))):=by
 have hc:op < 1\/(1 <= op/\op <= 13)\/op = 14\/op = 15\/(16 <= op/\op <= 23)\/op = 24\/(25 <= op/\op <= 26)\/(27 <= op/\op <= 37)\/37 < op:=by omega
 rcases hc with h | ⟨h,h'⟩ | rfl | rfl | ⟨h,h'⟩ | rfl | ⟨h,h'⟩ | ⟨h,h'⟩ | h
 ·rw [show Am op = false by (simp [Am] <;> omega)];go_enter func111,ntmps111;go_wp2;go_ret
  exact ⟨by first | rfl | (simp;omega),rfl⟩
 ·rw [show Am op = true by (simp [Am] <;> omega)];go_enter func111,ntmps111;go_wp2;go_ret
  exact ⟨by first | rfl | (simp;omega),rfl⟩
 ·rw [show Am 14 = false by decide];go_enter func111,ntmps111;go_wp2;go_ret
  exact ⟨by first | rfl | (simp;omega),rfl⟩
 ·rw [show Am 15 = true by decide];go_enter func111,ntmps111;go_wp2;go_ret
  exact ⟨by first | rfl | (simp;omega),rfl⟩
 ·rw [show Am op = false by (simp [Am] <;> omega)];go_enter func111,ntmps111;go_wp2;go_ret
  exact ⟨by first | rfl | (simp;omega),rfl⟩
 ·rw [show Am 24 = true by decide];go_enter func111,ntmps111;go_wp2;go_ret
  exact ⟨by first | rfl | (simp;omega),rfl⟩
 ·rw [show Am op = false by (simp [Am] <;> omega)];go_enter func111,ntmps111;go_wp2;go_ret
  exact ⟨by first | rfl | (simp;omega),rfl⟩
 ·rw [show Am op = true by (simp [Am] <;> omega)];go_enter func111,ntmps111;go_wp2;go_ret
  exact ⟨by first | rfl | (simp;omega),rfl⟩
 ·rw [show Am op = false by (simp [Am] <;> omega)];go_enter func111,ntmps111;go_wp2;go_ret
  exact ⟨by first | rfl | (simp;omega),rfl⟩
def Fb (op:Int):Bool:=decide (1 <= op) && decide (op <= 23)
theorem Abk (op:Int) (w:World):Calls prog 91 #[.int .i64 op] w (Told w (.bool (Fb op))):=by
 have hc:op < 1\/(1 <= op/\op <= 23)\/23 < op:=by omega
 rcases hc with h | ⟨h,h'⟩ | h
 ·rw [show Fb op = false by (simp [Fb] <;> omega)];go_enter func91,ntmps91;go_wp2;go_ret
  exact ⟨by first | rfl | (simp;omega),rfl⟩
 ·rw [show Fb op = true by (simp [Fb] <;> omega)];go_enter func91,ntmps91;go_wp2;go_ret
  exact ⟨by first | rfl | (simp;omega),rfl⟩
 ·rw [show Fb op = false by (simp [Fb] <;> omega)];go_enter func91,ntmps91;go_wp2;go_ret
  exact ⟨by first | rfl | (simp;omega),rfl⟩
def En (n:Int) (wr:Bool):Bool:=decide (0 <= n) && decide (n <= 10) && !(wr && (n == 10))
theorem Ac6 (n:Int) (wr:Bool) (w:World):Calls prog 90 #[.int .i64 n,.bool wr] w (Told w (.bool (En n wr))):=by
 have hc:(n < 0/\wr = true)\/(n < 0/\wr = false)\/((0 <= n/\n <= 9)/\wr = true)\/((0 <= n/\n <= 9)/\wr = false)\/(n = 10/\wr = true)\/(n = 10/\wr = false)\/(10 < n/\wr = true)\/(10 < n/\wr = false):=by cases wr <;> simp <;> omega
 rcases hc with ⟨h,rfl⟩ | ⟨h,rfl⟩ | ⟨⟨h,h'⟩,rfl⟩ | ⟨⟨h,h'⟩,rfl⟩ | ⟨rfl,rfl⟩ | ⟨rfl,rfl⟩ | ⟨h,rfl⟩ | ⟨h,rfl⟩
 ·rw [show En n true = false by (simp [En] <;> omega)];go_enter func90,ntmps90;go_wp2;go_ret
  exact ⟨by first | rfl | (simp;omega),rfl⟩
 ·rw [show En n false = false by (simp [En] <;> omega)];go_enter func90,ntmps90;go_wp2;go_ret
  exact ⟨by first | rfl | (simp;omega),rfl⟩
 ·rw [show En n true = true by (simp [En] <;> omega)];go_enter func90,ntmps90;go_wp2;go_ret
  exact ⟨by first | rfl | (simp;omega),rfl⟩
 ·rw [show En n false = true by (simp [En] <;> omega)];go_enter func90,ntmps90;go_wp2;go_ret
  exact ⟨by first | rfl | (simp;omega),rfl⟩
 ·rw [show En 10 true = false by decide];go_enter func90,ntmps90;go_wp2;go_ret
  exact ⟨by first | rfl | (simp;omega),rfl⟩
 ·rw [show En 10 false = true by decide];go_enter func90,ntmps90;go_wp2;go_ret
  exact ⟨by first | rfl | (simp;omega),rfl⟩
 ·rw [show En n true = false by (simp [En] <;> omega)];go_enter func90,ntmps90;go_wp2;go_ret
  exact ⟨by first | rfl | (simp;omega),rfl⟩
 ·rw [show En n false = false by (simp [En] <;> omega)];go_enter func90,ntmps90;go_wp2;go_ret
  exact ⟨by first | rfl | (simp;omega),rfl⟩
def Ed (op:Int) (Ad reg:Bool) (size dst src off Aa:Int):List Value:=[.int .i64 op,.bool Ad,.bool reg,.int .i64 size,.int .i64 dst,.int .i64 src,.int .i64 off,.int .i64 Aa]
set_option linter.unusedSimpArgs false
structure Val where
 k:Int
 t:Int
 o:Int
 x:Int
def Val.cs (v:Val):List Value:=[.int .i64 v.k,.int .i64 v.t,.int .i64 v.o,.int .i64 v.x]
def nval (x:Int):Val:=⟨1,0,0,x⟩
def I4:Val:=⟨0,0,0,0⟩
def Val.agg (v:Val):Value:=.agg #[.int .i64 v.k,.int .i64 v.t,.int .i64 v.o,.int .i64 v.x]
def Ie (cs:List Value) (d:Nat) (v:Val):Prop:=cs[423 + d * 4]? = some (.int .i64 v.k)/\cs[423 + d * 4 + 1]? = some (.int .i64 v.t)/\cs[423 + d * 4 + 2]? = some (.int .i64 v.o)/\cs[423 + d * 4 + 3]? = some (.int .i64 v.x)
theorem Ie.row {w:World} {bx:Nat} {e:TypeId} {cs:List Value} (h:Row w bx e cs) {d:Nat} {v:Val} (hr:Ie cs d v):w.cell? ⟨bx,423 + d * 4,none⟩ = some (.int .i64 v.k)/\w.cell? ⟨bx,423 + d * 4 + 1,none⟩ = some (.int .i64 v.t)/\w.cell? ⟨bx,423 + d * 4 + 2,none⟩ = some (.int .i64 v.o)/\w.cell? ⟨bx,423 + d * 4 + 3,none⟩ = some (.int .i64 v.x):=
 ⟨by rw [h.cell];exact hr.1,by rw [h.cell];exact hr.2.1,by rw [h.cell];exact hr.2.2.1,by rw [h.cell];exact hr.2.2.2⟩
structure Mod (w w':World) (bx:Nat):Prop where
 os:w'.os = w.os
 tape:w'.tape = w.tape
 output:w'.output = w.output
 size:w.heap.size <= w'.heap.size
 block:∀ k,k < w.heap.size->k ≠ bx->w'.heap[k]? = w.heap[k]?
theorem Mod.refl (w:World) (bx:Nat):Mod w w bx:=⟨rfl,rfl,rfl,Nat.le_refl _,fun _ _ _=>rfl⟩
theorem Mod.of_below {w w':World} (h:Below w.heap.size w w') (bx:Nat):Mod w w' bx:=⟨h.os,h.tape,h.output,h.size,fun k hk _=>h.block k hk⟩
theorem Mod.trans {w w1 w2:World} {bx:Nat} (h:Mod w w1 bx) (k:Mod w1 w2 bx):Mod w w2 bx:=
 ⟨k.os.trans h.os,k.tape.trans h.tape,k.output.trans h.output,Nat.le_trans h.size k.size,fun q hq hn=>(k.block q (Nat.lt_of_lt_of_le hq h.size) hn).trans (h.block q hq hn)⟩
theorem Mod.below {w w1 w2:World} {bx:Nat} (h:Mod w w1 bx) (k:Below w1.heap.size w1 w2):Mod w w2 bx:=h.trans (Mod.of_below k bx)
theorem Mod.alloc {w w1:World} {bx:Nat} (h:Mod w w1 bx) (o:Obj):Mod w (w1.alloc o) bx:=h.below ((Below.refl _ _).alloc nl o)
theorem Mod.set {w w1:World} {bx:Nat} (h:Mod w w1 bx) (i:Nat) (x:Value):Mod w (w1.setCell ⟨bx,i,none⟩ x) bx:=
 h.trans ⟨rfl,rfl,rfl,by simp [World.setCell],fun k _ hn=>Below.heap_setCell _ _ _ _ hn⟩
structure FM (w:World) (bx ib:Nat) (cs:List Value) (op:Int) (Ad reg:Bool) (size dst src off Aa:Int) (w':World):Prop where
 Ar:Row w' bx 87 cs
 ins:Row w' ib 70 (Ed op Ad reg size dst src off Aa)
 mod:Mod w w' bx
 ne:bx ≠ ib
section
variable {w w1 w2:World} {bx ib:Nat} {cs:List Value} {op:Int} {Ad reg:Bool} {size dst src off Aa:Int}
theorem FM.next (h:FM w bx ib cs op Ad reg size dst src off Aa w1) (hb:Below w1.heap.size w1 w2):FM w bx ib cs op Ad reg size dst src off Aa w2:=
 ⟨h.Ar.below hb h.Ar.lt,h.ins.below hb h.ins.lt,h.mod.below hb,h.ne⟩
theorem FM.drew (h:FM w bx ib cs op Ad reg size dst src off Aa w1):FM w bx ib cs op Ad reg size dst src off Aa w1.drew:=h.next (Below.refl _ _).drew
theorem FM.set (h:FM w bx ib cs op Ad reg size dst src off Aa w1) (k:Nat) (x:Value):FM w bx ib (cs.set k x) op Ad reg size dst src off Aa (w1.setCell ⟨bx,k,none⟩ x):=
 ⟨h.Ar.put k x,h.ins.other _ _ (Ne.symm h.ne),h.mod.set k x,h.ne⟩
theorem FM.begin {w:World} {bx:Nat} {cs:List Value} (h:Row w bx 87 cs) (op:Int) (Ad reg:Bool) (size dst src off Aa:Int) :
 FM w bx w.heap.size cs op Ad reg size dst src off Aa (w.alloc (.cells #[.int .i64 op,.bool Ad,.bool reg,.int .i64 size,.int .i64 dst,.int .i64 src,.int .i64 off,.int .i64 Aa] 70)):=
 ⟨h.alloc _,Row.made w (Ed op Ad reg size dst src off Aa) _,(Mod.refl w bx).alloc _,by have:=h.lt;omega⟩
theorem FM.cells (h:FM w bx ib cs op Ad reg size dst src off Aa w1):w1.cell? ⟨ib,0,none⟩ = some (.int .i64 op)/\w1.cell? ⟨ib,1,none⟩ = some (.bool Ad)/\w1.cell? ⟨ib,2,none⟩ = some (.bool reg)/\w1.cell? ⟨ib,3,none⟩ = some (.int .i64 size) /\
 w1.cell? ⟨ib,4,none⟩ = some (.int .i64 dst)/\w1.cell? ⟨ib,5,none⟩ = some (.int .i64 src)/\w1.cell? ⟨ib,6,none⟩ = some (.int .i64 off)/\w1.cell? ⟨ib,7,none⟩ = some (.int .i64 Aa):=
 ⟨by rw [h.ins.cell];rfl,by rw [h.ins.cell];rfl,by rw [h.ins.cell];rfl,by rw [h.ins.cell];rfl,by rw [h.ins.cell];rfl,by rw [h.ins.cell];rfl,by rw [h.ins.cell];rfl,by rw [h.ins.cell];rfl⟩
theorem FM.row4 (h:FM w bx ib cs op Ad reg size dst src off Aa w1) (hl:cs.length = 471) (d:Nat) (hd:d < 11):∃ a b c x,(w1.cell? ⟨bx,423 + d * 4,none⟩ = some a/\w1.cell? ⟨bx,423 + d * 4 + 1,none⟩ = some b/\w1.cell? ⟨bx,423 + d * 4 + 2,none⟩ = some c/\w1.cell? ⟨bx,423 + d * 4 + 3,none⟩ = some x) /\
 w1.frozen? ⟨bx,423 + d * 4,none⟩ = false/\w1.frozen? ⟨bx,423 + d * 4 + 1,none⟩ = false/\w1.frozen? ⟨bx,423 + d * 4 + 2,none⟩ = false/\w1.frozen? ⟨bx,423 + d * 4 + 3,none⟩ = false:=
 ⟨cs[423 + d * 4],cs[423 + d * 4 + 1],cs[423 + d * 4 + 2],cs[423 + d * 4 + 3],⟨by rw [h.Ar.cell];simp [hl],by rw [h.Ar.cell];simp [hl],by rw [h.Ar.cell];simp [hl],by rw [h.Ar.cell];simp [hl]⟩,h.Ar.free _,h.Ar.free _,h.Ar.free _,h.Ar.free _⟩
theorem FM.D9 (h:FM w bx ib cs op Ad reg size dst src off Aa w1) (k:Nat) (a b c x:Value):FM w bx ib ((((cs.set k a).set (k + 1) b).set (k + 2) c).set (k + 3) x) op Ad reg size dst src off Aa ((((w1.setCell ⟨bx,k,none⟩ a).setCell ⟨bx,k + 1,none⟩ b).setCell ⟨bx,k + 2,none⟩ c).setCell ⟨bx,k + 3,none⟩ x):=
 (((h.set k a).set (k + 1) b).set (k + 2) c).set (k + 3) x
end
def FX (w:World) (bx ib:Nat) (op:Int) (Ad reg:Bool) (size dst src off Aa:Int) (w':World):Prop:=∃ cs,FM w bx ib cs op Ad reg size dst src off Aa w'/\cs.length = 471
section
variable {w w1 w2:World} {bx ib:Nat} {cs:List Value} {op:Int} {Ad reg:Bool} {size dst src off Aa:Int}
theorem FX.next (h:FX w bx ib op Ad reg size dst src off Aa w1) (hb:Below w1.heap.size w1 w2):FX w bx ib op Ad reg size dst src off Aa w2:=let ⟨cs,h1,h2⟩:=h;⟨cs,h1.next hb,h2⟩
theorem FX.cells (h:FX w bx ib op Ad reg size dst src off Aa w1):w1.cell? ⟨ib,0,none⟩ = some (.int .i64 op)/\w1.cell? ⟨ib,1,none⟩ = some (.bool Ad)/\w1.cell? ⟨ib,2,none⟩ = some (.bool reg)/\w1.cell? ⟨ib,3,none⟩ = some (.int .i64 size) /\
 w1.cell? ⟨ib,4,none⟩ = some (.int .i64 dst)/\w1.cell? ⟨ib,5,none⟩ = some (.int .i64 src)/\w1.cell? ⟨ib,6,none⟩ = some (.int .i64 off)/\w1.cell? ⟨ib,7,none⟩ = some (.int .i64 Aa):=let ⟨cs,h1,h2⟩:=h;h1.cells
theorem FX.k47 (h:FX w bx ib op Ad reg size dst src off Aa w1):w1.cell? ⟨ib,4,none⟩ = some (.int .i64 dst)/\w1.cell? ⟨ib,7,none⟩ = some (.int .i64 Aa)/\FX w bx ib op Ad reg size dst src off Aa w1:=⟨h.cells.2.2.2.2.1,h.cells.2.2.2.2.2.2.2,h⟩
theorem FX.n47 (h:w1.cell? ⟨ib,4,none⟩ = some (.int .i64 dst)/\w1.cell? ⟨ib,7,none⟩ = some (.int .i64 Aa)/\FX w bx ib op Ad reg size dst src off Aa w1) (hb:Below w1.heap.size w1 w2):w2.cell? ⟨ib,4,none⟩ = some (.int .i64 dst)/\w2.cell? ⟨ib,7,none⟩ = some (.int .i64 Aa)/\FX w bx ib op Ad reg size dst src off Aa w2:=(h.2.2.next hb).k47
theorem FX.D9 (h:FX w bx ib op Ad reg size dst src off Aa w1) (k:Nat) (a b c x:Value):FX w bx ib op Ad reg size dst src off Aa ((((w1.setCell ⟨bx,k,none⟩ a).setCell ⟨bx,k + 1,none⟩ b).setCell ⟨bx,k + 2,none⟩ c).setCell ⟨bx,k + 3,none⟩ x):=
 let ⟨cs,h1,h2⟩:=h;⟨_,h1.D9 k a b c x,by simp [h2]⟩
theorem FX.row4 (h:FX w bx ib op Ad reg size dst src off Aa w1) (d:Nat) (hd:d < 11):∃ a b c x,(w1.cell? ⟨bx,423 + d * 4,none⟩ = some a/\w1.cell? ⟨bx,423 + d * 4 + 1,none⟩ = some b/\w1.cell? ⟨bx,423 + d * 4 + 2,none⟩ = some c/\w1.cell? ⟨bx,423 + d * 4 + 3,none⟩ = some x) /\
 w1.frozen? ⟨bx,423 + d * 4,none⟩ = false/\w1.frozen? ⟨bx,423 + d * 4 + 1,none⟩ = false/\w1.frozen? ⟨bx,423 + d * 4 + 2,none⟩ = false/\w1.frozen? ⟨bx,423 + d * 4 + 3,none⟩ = false:=let ⟨cs,h1,h2⟩:=h;h1.row4 h2 d hd
end
section
variable {w0 w1 w2:World} {bx ib:Nat} {cs:List Value} {op:Int} {Ad reg:Bool} {size dst src off Aa:Int} {d:Nat} {k t o x:Int}
theorem FM.Abl (h:FM w0 bx ib cs op Ad reg size dst src off Aa w1) {q:Nat} (h1:q ≠ bx) (h2:q ≠ ib) (hq:w0.heap.size <= q) (i:Nat) (x:Value):FM w0 bx ib cs op Ad reg size dst src off Aa (w1.setCell ⟨q,i,none⟩ x):=
 ⟨h.Ar.other _ _ (Ne.symm h1),h.ins.other _ _ (Ne.symm h2),⟨h.mod.os,h.mod.tape,h.mod.output,by simpa [World.setCell] using h.mod.size,fun k hk hn=>(Below.heap_setCell _ _ _ _ (by show k ≠ q;omega)).trans (h.mod.block k hk hn)⟩,h.ne⟩
theorem FM.k12 (hu:Ie cs d ⟨k,t,o,x⟩) (h:FM w0 bx ib cs op Ad reg size dst src off Aa w1):(w1.cell? ⟨ib,0,none⟩ = some (.int .i64 op)/\w1.cell? ⟨ib,1,none⟩ = some (.bool Ad)/\w1.cell? ⟨ib,2,none⟩ = some (.bool reg)/\w1.cell? ⟨ib,3,none⟩ = some (.int .i64 size)/\w1.cell? ⟨ib,4,none⟩ = some (.int .i64 dst)/\w1.cell? ⟨ib,5,none⟩ = some (.int .i64 src)/\w1.cell? ⟨ib,6,none⟩ = some (.int .i64 off)/\w1.cell? ⟨ib,7,none⟩ = some (.int .i64 Aa))/\(w1.cell? ⟨bx,423 + d * 4,none⟩ = some (.int .i64 k)/\w1.cell? ⟨bx,423 + d * 4 + 1,none⟩ = some (.int .i64 t)/\w1.cell? ⟨bx,423 + d * 4 + 2,none⟩ = some (.int .i64 o)/\w1.cell? ⟨bx,423 + d * 4 + 3,none⟩ = some (.int .i64 x))/\FM w0 bx ib cs op Ad reg size dst src off Aa w1:=⟨h.cells,hu.row h.Ar,h⟩
theorem FM.n12 (hu:Ie cs d ⟨k,t,o,x⟩) (h:(w1.cell? ⟨ib,0,none⟩ = some (.int .i64 op)/\w1.cell? ⟨ib,1,none⟩ = some (.bool Ad)/\w1.cell? ⟨ib,2,none⟩ = some (.bool reg)/\w1.cell? ⟨ib,3,none⟩ = some (.int .i64 size)/\w1.cell? ⟨ib,4,none⟩ = some (.int .i64 dst)/\w1.cell? ⟨ib,5,none⟩ = some (.int .i64 src)/\w1.cell? ⟨ib,6,none⟩ = some (.int .i64 off)/\w1.cell? ⟨ib,7,none⟩ = some (.int .i64 Aa))/\(w1.cell? ⟨bx,423 + d * 4,none⟩ = some (.int .i64 k)/\w1.cell? ⟨bx,423 + d * 4 + 1,none⟩ = some (.int .i64 t)/\w1.cell? ⟨bx,423 + d * 4 + 2,none⟩ = some (.int .i64 o)/\w1.cell? ⟨bx,423 + d * 4 + 3,none⟩ = some (.int .i64 x))/\FM w0 bx ib cs op Ad reg size dst src off Aa w1) (hb:Below w1.heap.size w1 w2):(w2.cell? ⟨ib,0,none⟩ = some (.int .i64 op)/\w2.cell? ⟨ib,1,none⟩ = some (.bool Ad)/\w2.cell? ⟨ib,2,none⟩ = some (.bool reg)/\w2.cell? ⟨ib,3,none⟩ = some (.int .i64 size)/\w2.cell? ⟨ib,4,none⟩ = some (.int .i64 dst)/\w2.cell? ⟨ib,5,none⟩ = some (.int .i64 src)/\w2.cell? ⟨ib,6,none⟩ = some (.int .i64 off)/\w2.cell? ⟨ib,7,none⟩ = some (.int .i64 Aa))/\(w2.cell? ⟨bx,423 + d * 4,none⟩ = some (.int .i64 k)/\w2.cell? ⟨bx,423 + d * 4 + 1,none⟩ = some (.int .i64 t)/\w2.cell? ⟨bx,423 + d * 4 + 2,none⟩ = some (.int .i64 o)/\w2.cell? ⟨bx,423 + d * 4 + 3,none⟩ = some (.int .i64 x))/\FM w0 bx ib cs op Ad reg size dst src off Aa w2:=(h.2.2.next hb).k12 hu
theorem FM.p12 (hu:Ie cs d ⟨k,t,o,x⟩) (h:(w1.cell? ⟨ib,0,none⟩ = some (.int .i64 op)/\w1.cell? ⟨ib,1,none⟩ = some (.bool Ad)/\w1.cell? ⟨ib,2,none⟩ = some (.bool reg)/\w1.cell? ⟨ib,3,none⟩ = some (.int .i64 size)/\w1.cell? ⟨ib,4,none⟩ = some (.int .i64 dst)/\w1.cell? ⟨ib,5,none⟩ = some (.int .i64 src)/\w1.cell? ⟨ib,6,none⟩ = some (.int .i64 off)/\w1.cell? ⟨ib,7,none⟩ = some (.int .i64 Aa))/\(w1.cell? ⟨bx,423 + d * 4,none⟩ = some (.int .i64 k)/\w1.cell? ⟨bx,423 + d * 4 + 1,none⟩ = some (.int .i64 t)/\w1.cell? ⟨bx,423 + d * 4 + 2,none⟩ = some (.int .i64 o)/\w1.cell? ⟨bx,423 + d * 4 + 3,none⟩ = some (.int .i64 x))/\FM w0 bx ib cs op Ad reg size dst src off Aa w1) {q:Nat} (h1:q ≠ bx) (h2:q ≠ ib) (hq:w0.heap.size <= q) (i:Nat) (y:Value):((w1.setCell ⟨q,i,none⟩ y).cell? ⟨ib,0,none⟩ = some (.int .i64 op)/\(w1.setCell ⟨q,i,none⟩ y).cell? ⟨ib,1,none⟩ = some (.bool Ad)/\(w1.setCell ⟨q,i,none⟩ y).cell? ⟨ib,2,none⟩ = some (.bool reg)/\(w1.setCell ⟨q,i,none⟩ y).cell? ⟨ib,3,none⟩ = some (.int .i64 size)/\(w1.setCell ⟨q,i,none⟩ y).cell? ⟨ib,4,none⟩ = some (.int .i64 dst)/\(w1.setCell ⟨q,i,none⟩ y).cell? ⟨ib,5,none⟩ = some (.int .i64 src)/\(w1.setCell ⟨q,i,none⟩ y).cell? ⟨ib,6,none⟩ = some (.int .i64 off)/\(w1.setCell ⟨q,i,none⟩ y).cell? ⟨ib,7,none⟩ = some (.int .i64 Aa))/\((w1.setCell ⟨q,i,none⟩ y).cell? ⟨bx,423 + d * 4,none⟩ = some (.int .i64 k)/\(w1.setCell ⟨q,i,none⟩ y).cell? ⟨bx,423 + d * 4 + 1,none⟩ = some (.int .i64 t)/\(w1.setCell ⟨q,i,none⟩ y).cell? ⟨bx,423 + d * 4 + 2,none⟩ = some (.int .i64 o)/\(w1.setCell ⟨q,i,none⟩ y).cell? ⟨bx,423 + d * 4 + 3,none⟩ = some (.int .i64 x))/\FM w0 bx ib cs op Ad reg size dst src off Aa (w1.setCell ⟨q,i,none⟩ y):=(h.2.2.Abl h1 h2 hq i y).k12 hu
theorem FM.q12 (hu:Ie cs d ⟨k,t,o,x⟩) (h:(w1.cell? ⟨ib,0,none⟩ = some (.int .i64 op)/\w1.cell? ⟨ib,1,none⟩ = some (.bool Ad)/\w1.cell? ⟨ib,2,none⟩ = some (.bool reg)/\w1.cell? ⟨ib,3,none⟩ = some (.int .i64 size)/\w1.cell? ⟨ib,4,none⟩ = some (.int .i64 dst)/\w1.cell? ⟨ib,5,none⟩ = some (.int .i64 src)/\w1.cell? ⟨ib,6,none⟩ = some (.int .i64 off)/\w1.cell? ⟨ib,7,none⟩ = some (.int .i64 Aa))/\(w1.cell? ⟨bx,423 + d * 4,none⟩ = some (.int .i64 k)/\w1.cell? ⟨bx,423 + d * 4 + 1,none⟩ = some (.int .i64 t)/\w1.cell? ⟨bx,423 + d * 4 + 2,none⟩ = some (.int .i64 o)/\w1.cell? ⟨bx,423 + d * 4 + 3,none⟩ = some (.int .i64 x))/\FM w0 bx ib cs op Ad reg size dst src off Aa w1) {q:Nat} (h1:q ≠ bx) (h2:q ≠ ib) (hq:w0.heap.size <= q) (x0 x1 x2 x3:Value):(((((w1.setCell ⟨q,0,none⟩ x0).setCell ⟨q,1,none⟩ x1).setCell ⟨q,2,none⟩ x2).setCell ⟨q,3,none⟩ x3).cell? ⟨ib,0,none⟩ = some (.int .i64 op)/\((((w1.setCell ⟨q,0,none⟩ x0).setCell ⟨q,1,none⟩ x1).setCell ⟨q,2,none⟩ x2).setCell ⟨q,3,none⟩ x3).cell? ⟨ib,1,none⟩ = some (.bool Ad)/\((((w1.setCell ⟨q,0,none⟩ x0).setCell ⟨q,1,none⟩ x1).setCell ⟨q,2,none⟩ x2).setCell ⟨q,3,none⟩ x3).cell? ⟨ib,2,none⟩ = some (.bool reg)/\((((w1.setCell ⟨q,0,none⟩ x0).setCell ⟨q,1,none⟩ x1).setCell ⟨q,2,none⟩ x2).setCell ⟨q,3,none⟩ x3).cell? ⟨ib,3,none⟩ = some (.int .i64 size)/\((((w1.setCell ⟨q,0,none⟩ x0).setCell ⟨q,1,none⟩ x1).setCell ⟨q,2,none⟩ x2).setCell ⟨q,3,none⟩ x3).cell? ⟨ib,4,none⟩ = some (.int .i64 dst)/\((((w1.setCell ⟨q,0,none⟩ x0).setCell ⟨q,1,none⟩ x1).setCell ⟨q,2,none⟩ x2).setCell ⟨q,3,none⟩ x3).cell? ⟨ib,5,none⟩ = some (.int .i64 src)/\((((w1.setCell ⟨q,0,none⟩ x0).setCell ⟨q,1,none⟩ x1).setCell ⟨q,2,none⟩ x2).setCell ⟨q,3,none⟩ x3).cell? ⟨ib,6,none⟩ = some (.int .i64 off)/\((((w1.setCell ⟨q,0,none⟩ x0).setCell ⟨q,1,none⟩ x1).setCell ⟨q,2,none⟩ x2).setCell ⟨q,3,none⟩ x3).cell? ⟨ib,7,none⟩ = some (.int .i64 Aa))/\(((((w1.setCell ⟨q,0,none⟩ x0).setCell ⟨q,1,none⟩ x1).setCell ⟨q,2,none⟩ x2).setCell ⟨q,3,none⟩ x3).cell? ⟨bx,423 + d * 4,none⟩ = some (.int .i64 k)/\((((w1.setCell ⟨q,0,none⟩ x0).setCell ⟨q,1,none⟩ x1).setCell ⟨q,2,none⟩ x2).setCell ⟨q,3,none⟩ x3).cell? ⟨bx,423 + d * 4 + 1,none⟩ = some (.int .i64 t)/\((((w1.setCell ⟨q,0,none⟩ x0).setCell ⟨q,1,none⟩ x1).setCell ⟨q,2,none⟩ x2).setCell ⟨q,3,none⟩ x3).cell? ⟨bx,423 + d * 4 + 2,none⟩ = some (.int .i64 o)/\((((w1.setCell ⟨q,0,none⟩ x0).setCell ⟨q,1,none⟩ x1).setCell ⟨q,2,none⟩ x2).setCell ⟨q,3,none⟩ x3).cell? ⟨bx,423 + d * 4 + 3,none⟩ = some (.int .i64 x))/\FM w0 bx ib cs op Ad reg size dst src off Aa ((((w1.setCell ⟨q,0,none⟩ x0).setCell ⟨q,1,none⟩ x1).setCell ⟨q,2,none⟩ x2).setCell ⟨q,3,none⟩ x3):=
 ((((h.2.2.Abl h1 h2 hq 0 x0).Abl h1 h2 hq 1 x1).Abl h1 h2 hq 2 x2).Abl h1 h2 hq 3 x3).k12 hu
end
theorem As6 (w:World) (o:Obj) (cs:List Value) (e:TypeId):Row ((w.alloc o).alloc (.cells cs.toArray e)) (w.heap.size + 1) e cs:=by
 have h:=Row.made (w.alloc o) cs e;rw [show (w.alloc o).heap.size = w.heap.size + 1 by simp] at h;exact h
theorem Row.four {w:World} {b:Nat} {e:TypeId} {a1 a2 a3 a4:Value} (h:Row w b e [a1,a2,a3,a4]):(w.cell? ⟨b,0,none⟩ = some a1/\w.cell? ⟨b,1,none⟩ = some a2/\w.cell? ⟨b,2,none⟩ = some a3/\w.cell? ⟨b,3,none⟩ = some a4) /\
 w.frozen? ⟨b,0,none⟩ = false/\w.frozen? ⟨b,1,none⟩ = false/\w.frozen? ⟨b,2,none⟩ = false/\w.frozen? ⟨b,3,none⟩ = false:=
 ⟨⟨by rw [h.cell];rfl,by rw [h.cell];rfl,by rw [h.cell];rfl,by rw [h.cell];rfl⟩,h.free _,h.free _,h.free _,h.free _⟩
theorem Row.Wi {w:World} {b:Nat} {e:TypeId} {a1 a2 a3 a4:Value} (h:Row w b e [a1,a2,a3,a4]) (b1 b2 b3 b4:Value) :
 Row ((((w.setCell ⟨b,0,none⟩ b1).setCell ⟨b,1,none⟩ b2).setCell ⟨b,2,none⟩ b3).setCell ⟨b,3,none⟩ b4) b e [b1,b2,b3,b4]:=(((h.put 0 b1).put 1 b2).put 2 b3).put 3 b4
theorem Wj {B b:Nat} {w w':World} (h:Below B w w') (hb:B <= b) (i:Nat) (b1 b2 b3 b4:Value) :
 Below B w ((((w'.setCell ⟨b,i,none⟩ b1).setCell ⟨b,i + 1,none⟩ b2).setCell ⟨b,i + 2,none⟩ b3).setCell ⟨b,i + 3,none⟩ b4):=by
 refine Below.setCell (Below.setCell (Below.setCell (Below.setCell h ?_ _) ?_ _) ?_ _) ?_ _ <;> exact hb
theorem made1 (w1:World):Row (w1.alloc (.cells #[.int .i64 0,.int .i64 0,.int .i64 0,.int .i64 0] 57)).drew w1.heap.size 57 [.int .i64 0,.int .i64 0,.int .i64 0,.int .i64 0]:=by
 have h:=Row.made w1 [.int .i64 0,.int .i64 0,.int .i64 0,.int .i64 0] 57;exact h.below (Below.refl _ _).drew h.lt
theorem Ig (w1:World):Row ((w1.alloc (.cells #[.int .i64 0,.int .i64 0,.int .i64 0,.int .i64 0] 57)).alloc (.cells #[.int .i64 0,.int .i64 0,.int .i64 0,.int .i64 0] 57)).drew w1.heap.size 57 [.int .i64 0,.int .i64 0,.int .i64 0,.int .i64 0]:=by
 have h:=(Row.made w1 [.int .i64 0,.int .i64 0,.int .i64 0,.int .i64 0] 57).alloc (.cells #[.int .i64 0,.int .i64 0,.int .i64 0,.int .i64 0] 57);exact h.below (Below.refl _ _).drew h.lt
theorem made2 (w1:World):Row ((w1.alloc (.cells #[.int .i64 0,.int .i64 0,.int .i64 0,.int .i64 0] 57)).alloc (.cells #[.int .i64 0,.int .i64 0,.int .i64 0,.int .i64 0] 57)).drew (w1.heap.size + 1) 57 [.int .i64 0,.int .i64 0,.int .i64 0,.int .i64 0]:=by
 have h:=As6 w1 (.cells #[.int .i64 0,.int .i64 0,.int .i64 0,.int .i64 0] 57) [.int .i64 0,.int .i64 0,.int .i64 0,.int .i64 0] 57;exact h.below (Below.refl _ _).drew h.lt
theorem Af7 {w1 w':World} (hb:Below (w1.alloc (.cells #[.int .i64 0,.int .i64 0,.int .i64 0,.int .i64 0] 57)).drew.heap.size (w1.alloc (.cells #[.int .i64 0,.int .i64 0,.int .i64 0,.int .i64 0] 57)).drew w'):w1.heap.size < w'.heap.size/\(w'.cell? ⟨w1.heap.size,0,none⟩ = some (.int .i64 0)/\w'.cell? ⟨w1.heap.size,1,none⟩ = some (.int .i64 0)/\w'.cell? ⟨w1.heap.size,2,none⟩ = some (.int .i64 0)/\w'.cell? ⟨w1.heap.size,3,none⟩ = some (.int .i64 0))/\w'.frozen? ⟨w1.heap.size,0,none⟩ = false/\w'.frozen? ⟨w1.heap.size,1,none⟩ = false/\w'.frozen? ⟨w1.heap.size,2,none⟩ = false/\w'.frozen? ⟨w1.heap.size,3,none⟩ = false:=⟨((made1 w1).below hb (made1 w1).lt).lt,((made1 w1).below hb (made1 w1).lt).four⟩
theorem Af8 {w1 w':World} (hb:Below ((w1.alloc (.cells #[.int .i64 0,.int .i64 0,.int .i64 0,.int .i64 0] 57)).alloc (.cells #[.int .i64 0,.int .i64 0,.int .i64 0,.int .i64 0] 57)).drew.heap.size ((w1.alloc (.cells #[.int .i64 0,.int .i64 0,.int .i64 0,.int .i64 0] 57)).alloc (.cells #[.int .i64 0,.int .i64 0,.int .i64 0,.int .i64 0] 57)).drew w'):w1.heap.size < w'.heap.size/\w1.heap.size + 1 < w'.heap.size/\((w'.cell? ⟨w1.heap.size,0,none⟩ = some (.int .i64 0)/\w'.cell? ⟨w1.heap.size,1,none⟩ = some (.int .i64 0)/\w'.cell? ⟨w1.heap.size,2,none⟩ = some (.int .i64 0)/\w'.cell? ⟨w1.heap.size,3,none⟩ = some (.int .i64 0))/\w'.frozen? ⟨w1.heap.size,0,none⟩ = false/\w'.frozen? ⟨w1.heap.size,1,none⟩ = false/\w'.frozen? ⟨w1.heap.size,2,none⟩ = false/\w'.frozen? ⟨w1.heap.size,3,none⟩ = false)/\(w'.cell? ⟨(w1.heap.size + 1),0,none⟩ = some (.int .i64 0)/\w'.cell? ⟨(w1.heap.size + 1),1,none⟩ = some (.int .i64 0)/\w'.cell? ⟨(w1.heap.size + 1),2,none⟩ = some (.int .i64 0)/\w'.cell? ⟨(w1.heap.size + 1),3,none⟩ = some (.int .i64 0))/\w'.frozen? ⟨(w1.heap.size + 1),0,none⟩ = false/\w'.frozen? ⟨(w1.heap.size + 1),1,none⟩ = false/\w'.frozen? ⟨(w1.heap.size + 1),2,none⟩ = false/\w'.frozen? ⟨(w1.heap.size + 1),3,none⟩ = false:=⟨((Ig w1).below hb (Ig w1).lt).lt,((made2 w1).below hb (made2 w1).lt).lt,((Ig w1).below hb (Ig w1).lt).four,((made2 w1).below hb (made2 w1).lt).four⟩
structure FA (w0:World) (bx ib ab bb:Nat) (cs:List Value) (op:Int) (Ad reg:Bool) (size dst src off Aa:Int) (a b:List Value) (w1:World):Prop where
 fm:FM w0 bx ib cs op Ad reg size dst src off Aa w1
 ra:Row w1 ab 57 a
 rb:Row w1 bb 57 b
 la:w0.heap.size <= ab
 lb:w0.heap.size <= bb
 nai:ab ≠ ib
 nbi:bb ≠ ib
 nab:ab ≠ bb
 nax:ab ≠ bx
 nbx:bb ≠ bx
section
variable {w0 w1 w2:World} {bx ib ab bb n:Nat} {cs:List Value} {op:Int} {Ad reg:Bool} {size dst src off Aa:Int} {a b:List Value}
theorem FA.next (h:FA w0 bx ib ab bb cs op Ad reg size dst src off Aa a b w1) (hb:Below w1.heap.size w1 w2):FA w0 bx ib ab bb cs op Ad reg size dst src off Aa a b w2:=
 ⟨h.fm.next hb,h.ra.below hb h.ra.lt,h.rb.below hb h.rb.lt,h.la,h.lb,h.nai,h.nbi,h.nab,h.nax,h.nbx⟩
theorem FM.box (h:FM w0 bx ib cs op Ad reg size dst src off Aa w1) (o:Obj):FM w0 bx ib cs op Ad reg size dst src off Aa (w1.alloc o):=h.next ((Below.refl _ _).alloc nl o)
theorem FM.Nq (h:FM w0 bx ib cs op Ad reg size dst src off Aa w1) {q:Nat} (h1:q ≠ bx) (h2:q ≠ ib) (hq:w0.heap.size <= q) (x0 x1 x2 x3:Value) :
 FM w0 bx ib cs op Ad reg size dst src off Aa ((((w1.setCell ⟨q,0,none⟩ x0).setCell ⟨q,1,none⟩ x1).setCell ⟨q,2,none⟩ x2).setCell ⟨q,3,none⟩ x3):=(((h.Abl h1 h2 hq 0 x0).Abl h1 h2 hq 1 x1).Abl h1 h2 hq 2 x2).Abl h1 h2 hq 3 x3
theorem Row.Nq {q b:Nat} {e:TypeId} {xs:List Value} (h:Row w1 b e xs) (hn:b ≠ q) (x0 x1 x2 x3:Value) :
 Row ((((w1.setCell ⟨q,0,none⟩ x0).setCell ⟨q,1,none⟩ x1).setCell ⟨q,2,none⟩ x2).setCell ⟨q,3,none⟩ x3) b e xs:=(((h.other ⟨q,0,none⟩ x0 hn).other ⟨q,1,none⟩ x1 hn).other ⟨q,2,none⟩ x2 hn).other ⟨q,3,none⟩ x3 hn
theorem X3 (h:FM w0 bx ib cs op Ad reg size dst src off Aa w1) (a b:List Value):FA w0 bx ib w1.heap.size (w1.heap.size + 1) cs op Ad reg size dst src off Aa a b ((w1.alloc (.cells a.toArray 57)).alloc (.cells b.toArray 57)):=by
 have h1:=h.Ar.lt;have h2:=h.ins.lt;have h3:=h.mod.size;exact ⟨(h.box _).box _,(Row.made w1 a _).alloc _,As6 w1 _ b _,h3,by omega,by omega,by omega,by omega,by omega,by omega⟩
theorem FA.swap (h:FA w0 bx ib ab bb cs op Ad reg size dst src off Aa a b w1):FA w0 bx ib bb ab cs op Ad reg size dst src off Aa b a w1:=⟨h.fm,h.rb,h.ra,h.lb,h.la,h.nbi,h.nai,Ne.symm h.nab,h.nbx,h.nax⟩
theorem X4 (h:FM w0 bx ib cs op Ad reg size dst src off Aa w1) {y0 y1 y2 y3:Value} (hr:Row w1 n 57 [y0,y1,y2,y3]) (h1:n ≠ bx) (h2:n ≠ ib) (h3:w0.heap.size <= n) (x0 x1 x2 x3:Value) (b:List Value) :
 FA w0 bx ib n w1.heap.size cs op Ad reg size dst src off Aa [x0,x1,x2,x3] b (((((w1.setCell ⟨n,0,none⟩ x0).setCell ⟨n,1,none⟩ x1).setCell ⟨n,2,none⟩ x2).setCell ⟨n,3,none⟩ x3).alloc (.cells b.toArray 57)):=by
 have k1:=h.Ar.lt;have k2:=h.ins.lt;have k3:=h.mod.size;have k4:=hr.lt;have hs:((((w1.setCell ⟨n,0,none⟩ x0).setCell ⟨n,1,none⟩ x1).setCell ⟨n,2,none⟩ x2).setCell ⟨n,3,none⟩ x3).heap.size = w1.heap.size:=by simp [World.setCell]
 have hm:=Row.made ((((w1.setCell ⟨n,0,none⟩ x0).setCell ⟨n,1,none⟩ x1).setCell ⟨n,2,none⟩ x2).setCell ⟨n,3,none⟩ x3) b 57;rw [hs] at hm;exact ⟨(h.Nq h1 h2 h3 x0 x1 x2 x3).box _,(hr.Wi x0 x1 x2 x3).alloc _,hm,h3,k3,h2,by omega,by omega,h1,by omega⟩
theorem X5 (h:FM w0 bx ib cs op Ad reg size dst src off Aa w1) {m:Nat} {y0 y1 y2 y3 z0 z1 z2 z3:Value} (hr:Row w1 n 57 [y0,y1,y2,y3]) (hr':Row w1 m 57 [z0,z1,z2,z3]) (h1:n ≠ bx) (h2:n ≠ ib) (h3:w0.heap.size <= n) (h1':m ≠ bx) (h2':m ≠ ib) (h3':w0.heap.size <= m) (hnm:n ≠ m) (x0 x1 x2 x3 u0 u1 u2 u3:Value) :
 FA w0 bx ib n m cs op Ad reg size dst src off Aa [x0,x1,x2,x3] [u0,u1,u2,u3] ((((((((w1.setCell ⟨n,0,none⟩ x0).setCell ⟨n,1,none⟩ x1).setCell ⟨n,2,none⟩ x2).setCell ⟨n,3,none⟩ x3).setCell ⟨m,0,none⟩ u0).setCell ⟨m,1,none⟩ u1).setCell ⟨m,2,none⟩ u2).setCell ⟨m,3,none⟩ u3):=
 ⟨(h.Nq h1 h2 h3 x0 x1 x2 x3).Nq h1' h2' h3' u0 u1 u2 u3,(hr.Wi x0 x1 x2 x3).Nq hnm u0 u1 u2 u3,(hr'.Nq (Ne.symm hnm) x0 x1 x2 x3).Wi u0 u1 u2 u3,h3,h3',h2,h2',hnm,h1,h1'⟩
end
theorem FA.Azo {w0 w1:World} {bx ib ab bb:Nat} {cs:List Value} {op:Int} {Ad reg:Bool} {size dst src off Aa:Int} {a:List Value} {y0 y1 y2 y3:Value} (h:FA w0 bx ib ab bb cs op Ad reg size dst src off Aa a [y0,y1,y2,y3] w1) (x0 x1 x2 x3:Value) :
 FA w0 bx ib ab bb cs op Ad reg size dst src off Aa a [x0,x1,x2,x3] ((((w1.setCell ⟨bb,0,none⟩ x0).setCell ⟨bb,1,none⟩ x1).setCell ⟨bb,2,none⟩ x2).setCell ⟨bb,3,none⟩ x3):=
 ⟨h.fm.Nq h.nbx h.nbi h.lb x0 x1 x2 x3,h.ra.Nq h.nab x0 x1 x2 x3,h.rb.Wi x0 x1 x2 x3,h.la,h.lb,h.nai,h.nbi,h.nab,h.nax,h.nbx⟩
theorem FA.Avu {w0 w1:World} {bx ib ab bb:Nat} {cs:List Value} {op:Int} {Ad reg:Bool} {size dst src off Aa:Int} {b:List Value} {y0 y1 y2 y3:Value} (h:FA w0 bx ib ab bb cs op Ad reg size dst src off Aa [y0,y1,y2,y3] b w1) (x0 x1 x2 x3:Value) :
 FA w0 bx ib ab bb cs op Ad reg size dst src off Aa [x0,x1,x2,x3] b ((((w1.setCell ⟨ab,0,none⟩ x0).setCell ⟨ab,1,none⟩ x1).setCell ⟨ab,2,none⟩ x2).setCell ⟨ab,3,none⟩ x3):=
 ⟨h.fm.Nq h.nax h.nai h.la x0 x1 x2 x3,h.ra.Wi x0 x1 x2 x3,h.rb.Nq (Ne.symm h.nab) x0 x1 x2 x3,h.la,h.lb,h.nai,h.nbi,h.nab,h.nax,h.nbx⟩
def D9 (cs:List Value) (k:Nat) (a b c d:Value):List Value:=(((cs.set k a).set (k + 1) b).set (k + 2) c).set (k + 3) d
theorem Gh (x:Int) (w:World):Calls prog 35 #[.int .i64 x] w (Ol w (.agg #[.int .i64 1,.int .i64 0,.int .i64 0,.int .i64 x])):=by
 go_enter func35,ntmps35;go_wp2;exact bodyPost_ret (v:=.agg #[.int .i64 1,.int .i64 0,.int .i64 0,.int .i64 x]) (by simp [results,results35,go_sem]) rfl ⟨rfl,(Below.refl _ _).alloc nl _⟩
def Wrote (w:World) (bx:Nat) (cs:List Value) (by' er:Int):Ending->World->Prop:=fun e w'=>e = .returned (.tuple #[.int .i64 by',.int .i64 er])/\Mod w w' bx/\Row w' bx 87 cs
theorem Af (k t o x:Int) (w:World):Calls prog 67 #[.agg #[.int .i64 k,.int .i64 t,.int .i64 o,.int .i64 x]] w (Ol w (.bool (k == 1))):=by
 go_enter func67,ntmps67;go_wp2;exact bodyPost_ret (v:=.bool (k == 1)) (by simp [results,results67,go_sem]) rfl ⟨rfl,(Below.refl _ _).alloc nl _⟩
theorem Af9 (op:Int) (Ad:Bool) (size dst off Aa:Int) (d:Nat) (hd:d < 11) (bx:Nat) (cs:List Value) (u:Val) (hu:Ie cs d u) (w:World) (h:Row w bx 87 cs) :
 Calls prog 66 #[.pointer (some ⟨bx,0,none⟩),.agg #[.int .i64 op,.bool Ad,.bool true,.int .i64 size,.int .i64 dst,.int .i64 d,.int .i64 off,.int .i64 Aa]] w (Ol w (.agg #[.int .i64 u.k,.int .i64 u.t,.int .i64 u.o,.int .i64 u.x])):=by
 obtain ⟨c0,c1,c2,c3⟩:=hu.row h;have hlt:=h.lt;obtain ⟨k,t,o,x⟩:=u;simp only at c0 c1 c2 c3 ⊢;have hj1:(0:Int) <= (d:Int):=by omega
 have hj2:(d:Int) < 11:=by omega
 clear h hu;go_enter func66,ntmps66;go_wp2_with fail
 go_region
 go_wp2;exact bodyPost_ret (v:=.agg #[.int .i64 k,.int .i64 t,.int .i64 o,.int .i64 x]) (by simp [results,results66,go_sem]) rfl ⟨rfl,(((Below.refl _ _).alloc nl _).alloc (by simp) _).drew⟩
theorem Aga (op:Int) (Ad:Bool) (size dst src off Aa:Int) (bx:Nat) (w:World) :
 Calls prog 66 #[.pointer (some ⟨bx,0,none⟩),.agg #[.int .i64 op,.bool Ad,.bool false,.int .i64 size,.int .i64 dst,.int .i64 src,.int .i64 off,.int .i64 Aa]] w (Ol w (.agg #[.int .i64 1,.int .i64 0,.int .i64 0,.int .i64 Aa])):=by
 go_enter func66,ntmps66;go_wp2_with (go_at_call 35;refine (Gh _ _).mono ?_;rintro e w' ⟨rfl,hb⟩;have hr:=(As6 w (.cells #[.int .i64 op,.bool Ad,.bool false,.int .i64 size,.int .i64 dst,.int .i64 src,.int .i64 off,.int .i64 Aa] 70) [.int .i64 0,.int .i64 0,.int .i64 0,.int .i64 0] 57).below hb (by simp);obtain ⟨⟨_,_,_,_⟩,_,_,_,_⟩:=hr.four);have hr2:=hr.Wi (.int .i64 1) (.int .i64 0) (.int .i64 0) (.int .i64 Aa);have hB:=Wj (b:=w.heap.size + 1) ((((Below.refl w.heap.size w).alloc nl (.cells #[.int .i64 op,.bool Ad,.bool false,.int .i64 size,.int .i64 dst,.int .i64 src,.int .i64 off,.int .i64 Aa] 70)).alloc (by simp) (.cells #[.int .i64 0,.int .i64 0,.int .i64 0,.int .i64 0] 57)).trans (hb.mono (by simp;omega))) (by omega) 0 (.int .i64 1) (.int .i64 0) (.int .i64 0) (.int .i64 Aa);simp only [Nat.zero_add] at hB;obtain ⟨⟨d0,d1,d2,d3⟩,_⟩:=hr2.four;generalize World.setCell _ _ _ = w2 at hB d0 d1 d2 d3 ⊢;exact bodyPost_ret (v:=.agg #[.int .i64 1,.int .i64 0,.int .i64 0,.int .i64 Aa]) (by simp [results,results66,go_sem,d0,d1,d2,d3]) rfl ⟨rfl,hB⟩
theorem As7 (op:Int) (Ad reg:Bool) (size dst src off Aa:Int) (bx:Nat) (cs:List Value) (w:World) (h:Row w bx 87 cs) :
 Calls prog 58 #[.pointer (some ⟨bx,0,none⟩),.agg #[.int .i64 op,.bool Ad,.bool reg,.int .i64 size,.int .i64 dst,.int .i64 src,.int .i64 off,.int .i64 Aa]] w (Wrote w bx cs (if Ad then Aa else off) 0):=by
 have HF:=hid (FM.begin h op Ad reg size dst src off Aa);have HW:=hid h;clear h
 cases Ad
 all_goals
  go_enter func58,ntmps58;go_wp2
 ·exact bodyPost_ret (v:=.tuple #[.int .i64 off,.int .i64 0]) (by simp [results,results58,go_sem]) rfl ⟨rfl,HF.out.mod,HF.out.Ar⟩
 ·exact bodyPost_ret (v:=.tuple #[.int .i64 Aa,.int .i64 0]) (by simp [results,results58,go_sem]) rfl ⟨rfl,HF.out.mod,HF.out.Ar⟩
theorem Ao1 (op:Int) (Ad reg:Bool) (size dst src off Aa:Int) (bx:Nat) (cs:List Value) (hl:cs.length = 471) (u:Val) (hu:Ie cs 0 u) (w:World) (h:Row w bx 87 cs) :
 Calls prog 61 #[.pointer (some ⟨bx,0,none⟩),.agg #[.int .i64 op,.bool Ad,.bool reg,.int .i64 size,.int .i64 dst,.int .i64 src,.int .i64 off,.int .i64 Aa]] w (fun e w'=>if u.k = 1 then Wrote w bx (cs.set 470 (.bool true)) 0 0 e w' else Wrote w bx cs 0 86 e w'):=by
 have HF:=hid (FM.begin h op Ad reg size dst src off Aa);obtain ⟨c0,c1,c2,c3⟩:=hu.row h;simp only [Nat.zero_mul,Nat.add_zero] at c0 c1 c2 c3;have hlt:=h.lt;clear h hu;obtain ⟨k,t,o,x⟩:=u;simp only at c0 c1 c2 c3 ⊢
 by_cases hk:k = 1
 ·subst hk;simp only [if_true];go_enter func61,ntmps61;go_wp2_with (go_at_call 67;refine (Af _ _ _ _ _).mono ?_;rintro e w' ⟨rfl,hb⟩;have hF:=HF.out.next hb;have hd:w'.cell? ⟨bx,470,none⟩ = some (cs[470]'(by omega)):=(by rw [hF.Ar.cell];simp [hl]);have hf:=hF.Ar.free 470);have hF2:=hF.set 470 (.bool true);generalize World.setCell _ _ _ = w2 at hF2 ⊢;exact bodyPost_ret (v:=.tuple #[.int .i64 0,.int .i64 0]) (by simp [results,results61,go_sem]) rfl ⟨rfl,hF2.mod,hF2.Ar⟩
 ·simp only [if_neg hk];have hkb:(k == 1) = false:=by simpa using hk
  go_enter func61,ntmps61;go_wp2_with (go_at_call 67;refine (Af _ _ _ _ _).mono ?_;rintro e w' ⟨rfl,hb⟩;have hF:=HF.out.next hb;rw [hkb]);exact bodyPost_ret (v:=.tuple #[.int .i64 0,.int .i64 86]) (by simp [results,results61,go_sem]) rfl ⟨rfl,hF.mod,hF.Ar⟩
def bit (x i:Nat):Int:=((x / 2 ^ i % 2:Nat):Int)
def J6 (n:Nat) (g:Nat->Int):List Value:=(List.range n).map fun i=>Value.int .i64 (g i)
theorem Ac7 (n:Nat) (g:Nat->Int):(J6 n g).length = n:=by simp [J6]
theorem Wn {n:Nat} (g:Nat->Int) {i:Nat} (h:i < n):(J6 n g)[i]? = some (.int .i64 (g i)):=by
 simp [J6,h]
theorem Z5 {n:Nat} {g h:Nat->Int} (e:∀ t,t < n->g t = h t):J6 n g = J6 n h:=by
 unfold J6;refine List.map_congr_left fun t ht=>?_;rw [e t (List.mem_range.1 ht)]
theorem Ao2 (n:Nat) (g:Nat->Int) (j:Nat) (v:Int):(J6 n g).set j (.int .i64 v) = J6 n (fun t=>if t = j then v else g t):=by
 apply List.ext_getElem?
 intro i;rw [List.getElem?_set]
 by_cases hi:i < n
 ·by_cases hj:j = i
  ·subst hj;simp [J6,hi]
  ·simp [J6,hi,hj,Ne.symm hj]
 ·simp [J6,hi];intro h;omega
theorem Ald (n:Nat):(madeCells #[Value.int .i64 0] n).toList = J6 n (fun _=>0):=by
 simp [madeCells,J6];intro a _;rw [Nat.mod_one];rfl
def un (v:Int):Nat:=(v % 18446744073709551616).toNat
theorem Eo (v:Int):un v < 18446744073709551616:=by unfold un;omega
theorem Nb (v:Int):((un v:Nat):Int) = v % 18446744073709551616:=by unfold un;omega
theorem Aaj {v:Int} (h1 : -9223372036854775808 <= v) (h2:v <= 9223372036854775807):wrap64 (un v) = v:=by
 unfold wrap64;rw [Nb];omega
theorem Pj (v:Int):(BitVec.ofInt 64 v).toNat = un v:=by
 rw [BitVec.toNat_ofInt];unfold un;rfl
theorem Aj1 (x y:Int):bits .and .i64 x y = wrap64 ((un x &&& un y:Nat):Int):=by
 show IntKind.i64.wrap ((BitVec.ofInt 64 x &&& BitVec.ofInt 64 y).toNat:Int) = _;rw [BitVec.toNat_and,Pj,Pj,IntWalk.i64_left]
theorem Agb (x y:Int):bits .or .i64 x y = wrap64 ((un x ||| un y:Nat):Int):=by
 show IntKind.i64.wrap ((BitVec.ofInt 64 x ||| BitVec.ofInt 64 y).toNat:Int) = _;rw [BitVec.toNat_or,Pj,Pj,IntWalk.i64_left]
theorem As8 (x y:Int):bits .xor .i64 x y = wrap64 ((un x ^^^ un y:Nat):Int):=by
 show IntKind.i64.wrap ((BitVec.ofInt 64 x ^^^ BitVec.ofInt 64 y).toNat:Int) = _;rw [BitVec.toNat_xor,Pj,Pj,IntWalk.i64_left]
theorem Avv {n:Nat} (h:n < 18446744073709551616):un (n:Int) = n:=by unfold un;omega
theorem Qd (x:Int) (k:Nat) (hk:k < 64):bits .and .i64 x (2 ^ k - 1) = x % 2 ^ k:=by
 have h2:(2:Nat) ^ k <= 2 ^ 63:=Nat.pow_le_pow_right (by decide) (by omega);have hp:=Nat.two_pow_pos k
 have e:((2:Int) ^ k - 1) = ((2 ^ k - 1:Nat):Int):=by
  rw [Int.ofNat_sub (by omega)];simp
 rw [Aj1,e,Avv (by omega),Nat.and_two_pow_sub_one_eq_mod];have h3:=Nat.mod_lt (un x) hp;unfold wrap64;have h4:(((un x % 2 ^ k:Nat):Int) + 9223372036854775808) % 18446744073709551616 - 9223372036854775808 = ((un x % 2 ^ k:Nat):Int):=by omega
 rw [h4];simp only [Int.natCast_emod,Nb,Int.natCast_pow]
 have e2:(18446744073709551616:Int) = 2 ^ k * 2 ^ (64 - k):=by
  rw [<- Int.pow_add];have:k + (64 - k) = 64:=by omega
  rw [this];rfl
 rw [e2];exact Int.emod_emod_of_dvd x ⟨_,rfl⟩
def Ag (n:Nat) (v:Int):Nat:=un v % 2 ^ n
theorem Dl (n:Nat) (v:Int):Ag n v < 2 ^ n:=Nat.mod_lt _ (Nat.two_pow_pos n)
open Go.WideShapes
def Ah (xs:List Int):Prop:=∀ x ∈ xs,0 <= x/\x <= 255
theorem Ah.at {xs:List Int} (h:Ah xs) {i:Nat} (hi:i < xs.length):0 <= xs.getD i 0/\xs.getD i 0 <= 255:=by
 have:xs.getD i 0 = xs[i]:=by simp [List.getD,hi]
 rw [this];exact h _ (List.getElem_mem hi)
theorem Ah.at' {xs:List Int} (h:Ah xs) (i:Nat):0 <= xs.getD i 0/\xs.getD i 0 <= 255:=by
 by_cases hi:i < xs.length
 ·exact h.at hi
 ·simp [List.getD,List.getElem?_eq_none (show xs.length <= i by omega)]
theorem Ah.take {xs:List Int} (h:Ah xs) (k:Nat):Ah (xs.take k):=fun x hx=>h x (List.mem_of_mem_take hx)
theorem Ah.append {xs ys:List Int} (h:Ah xs) (h2:Ah ys):Ah (xs ++ ys):=fun x hx=>by
 rcases List.mem_append.1 hx with hx | hx
 ·exact h x hx
 ·exact h2 x hx
theorem Ah.nil:Ah []:=fun x hx=>by cases hx
def Held (w:World) (v:Value) (xs:List Int):Prop:=
 Ah xs/\((xs = []/\(v = .slice none 0 0\/∃ a cap,v = .slice (some a) 0 cap/\cap <= maxLen)) \/
  (0 < xs.length ∧ ∃ b off cap, v = .slice (some ⟨b, off, none⟩) xs.length cap ∧ xs.length ≤ cap ∧ cap ≤ maxLen ∧ b < w.heap.size ∧
    ∀ i,i < xs.length->w.cell? ⟨b,off + i,none⟩ = some (.int .u8 (xs.getD i 0))))
theorem Held.bytes {w:World} {v:Value} {xs:List Int} (h:Held w v xs):Ah xs:=h.1
theorem Held.below {w w':World} {v:Value} {xs:List Int} {B:Nat} (h:Held w v xs) (hb:Below B w w') (hB:w.heap.size <= B):Held w' v xs:=by
 obtain ⟨h0,h | ⟨hp,b,off,cap,rfl,hc,hm,hlt,hcell⟩⟩:=h
 ·exact ⟨h0,Or.inl h⟩
 ·exact ⟨h0,Or.inr ⟨hp,b,off,cap,rfl,hc,hm,Nat.lt_of_lt_of_le hlt hb.size,fun i hi=>(hb.cell (p:=⟨b,off + i,none⟩) (show b < B by omega)).trans (hcell i hi)⟩⟩
theorem Held.drewN {w:World} {v:Value} {xs:List Int} (h:Held w v xs) (n:Nat):Held (w.drewN n) v xs:=h.below (below_drewN (Below.refl w.heap.size w) n) nl
theorem Dq {w:World} {base n:Nat} {v:Value} {xs:List Int} (h:w.ownsRow base 5 1 v n (xs.map (Value.int .u8))) (hx:Ah xs) (hn:n = xs.length):Held w v xs:=by
 subst hn;have h0:=h;obtain ⟨hlen,h⟩:=h
 rcases h with ⟨rfl,h1⟩ | ⟨g,cap,cur,rfl,hb,hg,h1,h2,h3,h4⟩
 ·exact ⟨hx,Or.inl ⟨List.length_eq_zero_iff.1 h1,Or.inl rfl⟩⟩
 ·by_cases hp:0 < xs.length
  ·refine ⟨hx,Or.inr ⟨hp,g,0,cap,rfl,h1,h2,lt_of_block hg,fun i hi=>?_⟩⟩;rw [Nat.zero_add,h0.cellAt i (by omega)];simp [List.getD,hi]
  ·have:xs = []:=List.length_eq_zero_iff.1 (by omega);subst this;exact ⟨hx,Or.inl ⟨rfl,Or.inr ⟨_,cap,rfl,h2⟩⟩⟩
theorem Z7 (w:World):Held w (.slice none 0 0) []:=⟨Ah.nil,Or.inl ⟨rfl,Or.inl rfl⟩⟩
theorem Z8 {w:World} {b cap:Nat} {xs:List Int} {e:TypeId} {cs:List Value} (hR:Row w b e cs) (hx:Ah xs) (h1:xs.length <= cap) (h2:cap <= maxLen) (hc:∀ i,i < xs.length->cs[i]? = some (.int .u8 (xs.getD i 0))) :
 Held w (.slice (some ⟨b,0,none⟩) xs.length cap) xs:=by
 by_cases hp:0 < xs.length
 ·exact ⟨hx,Or.inr ⟨hp,b,0,cap,rfl,h1,h2,hR.lt,fun i hi=>by rw [Nat.zero_add,hR.cell i];exact hc i hi⟩⟩
 ·have:xs = []:=List.length_eq_zero_iff.1 (by omega);subst this;exact ⟨hx,Or.inl ⟨rfl,Or.inr ⟨_,cap,rfl,h2⟩⟩⟩
theorem Held.str {w:World} {v:Value} {xs:List Int} (h:Held w v xs):(convert 22 9 v).run prog w = .ok (.string (strOfNums xs)) w:=by
 obtain ⟨_,⟨rfl,rfl | ⟨a,cap,rfl,_⟩⟩ | ⟨hp,b,off,cap,rfl,hc,hm,hlt,hcell⟩⟩:=h
 ·exact run_convert_bytes_nil (P:=prog) w _ _ underlying22 underlying5 0 0 _ underlying9
 ·rw [run_convert_bytes_string w _ _ _ _ 0 cap underlying22 underlying5 underlying9,run_bytesToString w a 0 cap [] (by simpa using run_loadCells_list (P:=prog) w a [] (fun j v hj=>by cases hj))];rfl
 ·exact run_convert_bytes_arg (P:=prog) w _ _ underlying22 underlying5 b off _ cap xs rfl hcell _ underlying9
theorem Ao3 {x y:Int} (hx:0 <= x/\x <= 255) (hy:0 <= y/\y <= 255) (h:UInt8.ofNat x.toNat = UInt8.ofNat y.toNat):x = y:=by
 have:=congrArg UInt8.toNat h;simp only [UInt8.toNat_ofNat'] at this;omega
theorem Ale {xs ys:List Int} (hx:Ah xs) (hy:Ah ys) (h:xs.map (fun n=>UInt8.ofNat n.toNat) = ys.map (fun n=>UInt8.ofNat n.toNat)):xs = ys:=by
 induction xs generalizing ys with
 | nil => cases ys with
   | nil=>rfl
   | cons y ys=>simp at h
 | cons x xs ih => cases ys with
   | nil=>simp at h
   | cons y ys =>
     simp only [List.map_cons,List.cons.injEq] at h;rw [Ao3 (hx x (by simp)) (hy y (by simp)) h.1,ih (fun z hz=>hx z (by simp [hz])) (fun z hz=>hy z (by simp [hz])) h.2]
theorem As9 {xs ys:List Int} (hx:Ah xs) (hy:Ah ys):(xs.map (fun n=>UInt8.ofNat n.toNat) == ys.map (fun n=>UInt8.ofNat n.toNat)) = decide (xs = ys):=by
 by_cases h:xs = ys
 ·subst h;simp
 ·have:¬ (xs.map (fun n=>UInt8.ofNat n.toNat) = ys.map (fun n=>UInt8.ofNat n.toNat)):=fun h2=>h (Ale hx hy h2);simp [h,this]
theorem Abm:(prog.info? 5).map (fun i=>(i.zero,i.size,i.bytes)) = some (some (.int .u8 0),1,1):=by kernel_rfl
theorem Z9 {w:World} {b off:Nat} {xs:List Int} (h:∀ i,i < xs.length->w.cell? ⟨b,off + i,none⟩ = some (.int .u8 (xs.getD i 0))) :
 ∀ j u,(xs.map (Value.int .u8))[j]? = some u->w.cell? ((⟨b,off,none⟩:Addr).add j) = some u:=by
 intro j u hu
 have hj:j < xs.length:=by
  rcases Nat.lt_or_ge j xs.length with h | h
  ·exact h
  ·simp [List.getElem?_eq_none (show (xs.map (Value.int .u8)).length <= j by simpa using h)] at hu
 have hplain:(⟨b,off,none⟩:Addr).add j = ⟨b,off + j,none⟩:=by unfold Addr.add;split <;> simp_all
 rw [hplain,h j hj];simp [hj] at hu;subst hu;simp [List.getD,hj]
theorem Aak (xs:List Int):∀ u ∈ xs.map (Value.int .u8),u.oneCell' = true:=by
 intro u hu;obtain ⟨x,_,rfl⟩:=List.mem_map.1 hu;rfl
theorem Ata (v1 v2:Value) (xs ys:List Int) (w:World) (h1:Held w v1 xs) (h2:Held w v2 ys) :
 Calls prog 36 #[v1,v2] w fun e w'=>e = .returned (.bool (decide (xs = ys)))/\w = w':=by
 have s1:=h1.str;have s2:=h2.str;have hb:=As9 h1.bytes h2.bytes;have HB:=hid hb;clear hb;go_enter func36,ntmps36;go_wp2;go_ret
 exact ⟨Ec (by rw [ByteArray.toList_eq,ByteArray.toList_eq];exact HB.out),rfl⟩
theorem Uf (v1 v2:Value) (xs:List Int) (w:World) (h1:Held w v1 xs) (h2:Held w v2 xs) :
 Calls prog 36 #[v1,v2] w fun e w'=>e = .returned (.bool true)/\w = w':=
 (Ata v1 v2 xs xs w h1 h2).mono fun e w' ⟨he,hw⟩=>⟨he.trans (Ec (by simp)),hw⟩
theorem Zw (v:Value) (xs:List Int) (w:World) (h:Held w v xs) (hl:xs.length <= 140737488355328) :
 Calls prog 27 #[v] w fun e w'=>∃ v',e = .returned v'/\w'.ownsRow w.heap.size 5 1 v' xs.length (xs.map (Value.int .u8))/\Below w.heap.size w w':=by
 obtain ⟨i0,hi,hz0,hz1,hz2⟩:=info_parts Abm;obtain ⟨hx,⟨rfl,rfl | ⟨a,cap,rfl,hcap⟩⟩ | ⟨hp,b,off,cap,rfl,hc,hm,hlt,hcell⟩⟩:=h
 ·go_enter func27,ntmps27;go_wp2_with (at_builtin;refine wpList_append_own_none rfl (.const (.slice none 0 0)) (.tmp 3) 22 rfl w.heap.size 5 i0 1 underlying22 hi (.slice none 0 0) 0 [] rfl (World.ownsRow_nil _ _ _ _) rfl ?_);go_ret
  exact ⟨_,rfl,World.ownsRow_nil _ _ _ _,Below.refl _ _⟩
 ·go_enter func27,ntmps27;go_wp2_with (at_builtin;refine wpList_append_own _ rfl (.const (.slice none 0 0)) (.tmp 3) 22 rfl w.heap.size 5 i0 (.int .u8 0) 1 1 underlying22 hi hz0 hz1 hz2 rfl (by decide) (.slice none 0 0) 0 [] rfl (World.ownsRow_nil _ _ _ _) a 0 _ [] rfl rfl (fun j u hu=>by cases hu) (fun u hu=>by cases hu) (by unfold maxLen;omega) (by omega) nl ?_;intro v1 w1 hown hgrow _);have hB:=Below.grown (Below.refl _ _) hgrow nl (fun k hk=>by cases hk);go_wp2;go_ret
  exact ⟨_,rfl,hown,hB⟩
 ·have hn:=Z9 hcell;have ho:=Aak xs;go_enter func27,ntmps27;go_wp2_with (at_builtin;refine wpList_append_own _ rfl (.const (.slice none 0 0)) (.tmp 3) 22 rfl w.heap.size 5 i0 (.int .u8 0) 1 1 underlying22 hi hz0 hz1 hz2 rfl (by decide) (.slice none 0 0) 0 [] rfl (World.ownsRow_nil _ _ _ _) ⟨b,off,none⟩ xs.length _ (xs.map (Value.int .u8)) rfl (by simp) hn ho (by unfold maxLen;omega) (by omega) nl ?_;intro v1 w1 hown hgrow _);have hB:=Below.grown (Below.refl _ _) hgrow nl (fun k hk=>by cases hk);rw [Nat.zero_add,List.nil_append] at hown;go_wp2;go_ret
  exact ⟨_,rfl,hown,hB⟩
def stp (s w:Int):Int:=if 65535 < s + w then s + w - 65535 else s + w
def wordAt (xs:List Int) (k:Nat):Int:=256 * xs.getD (2 * k) 0 + xs.getD (2 * k + 1) 0
def Abn (xs:List Int) (s:Int):Nat->Int
 | 0=>s
 | k + 1=>stp (Abn xs s k) (wordAt xs k)
def Ao4 (xs:List Int) (seed:Int):Int:=Abn xs (seed % 65536) ((xs.length + 1) / 2)
theorem Agc {xs:List Int} (h:Ah xs) (k:Nat):0 <= wordAt xs k/\wordAt xs k <= 65535:=by
 have h1:=h.at' (2 * k);have h2:=h.at' (2 * k + 1);unfold wordAt;omega
theorem ah {xs:List Int} (h:Ah xs) {s:Int} (hs:0 <= s/\s <= 65535) (k:Nat):0 <= Abn xs s k/\Abn xs s k <= 65535:=by
 induction k with
 | zero=>exact hs
 | succ k ih =>
   have hw:=Agc h k;simp only [Abn,stp]
   split <;> omega
theorem Ac8 (x y:Int) (hx:0 <= x/\x <= 255) (hy:0 <= y/\y <= 255):bits .or .i64 (x * 256) y = x * 256 + y:=by
 have ux:un (x * 256) = x.toNat * 256:=by unfold un;omega
 have uy:un y = y.toNat:=by unfold un;omega
 rw [Agb,ux,uy,Nat.mul_comm,show 256 = 2 ^ 8 from rfl,<- Nat.two_pow_add_eq_or_of_lt (show y.toNat < 2 ^ 8 by omega)];unfold wrap64;omega
theorem Ao5 (seed:Int):bits .and .i64 seed 65535 = seed % 65536:=by
 have h:=Qd seed 16 (by decide);have e:(2:Int) ^ 16 = 65536:=rfl;rw [e] at h;exact h
theorem Avw (v:Value) (xs:List Int) (hl:xs.length <= 281474976710656) (seed:Int) (w:World) (h:Held w v xs) :
 Calls prog 83 #[v,.int .i64 seed] w fun e w'=>e = .returned (.int .i64 (Ao4 xs seed))/\w = w':=by
 have hx:=h.bytes;have hsd:=Ao5 seed
 have hsl:∃ a cap,v = .slice a xs.length cap/\∀ i,i < xs.length->∃ b off,a = some ⟨b,off,none⟩/\w.cell? ⟨b,off + i,none⟩ = some (.int .u8 (xs.getD i 0)):=by
  obtain ⟨_,⟨rfl,rfl | ⟨a,cap,rfl,_⟩⟩ | ⟨_,b,off,cap,rfl,_,_,_,hcell⟩⟩:=h
  ·exact ⟨_,_,rfl,fun i hi=>by simp at hi⟩
  ·exact ⟨_,_,rfl,fun i hi=>by simp at hi⟩
  ·exact ⟨_,_,rfl,fun i hi=>⟨b,off,rfl,hcell i hi⟩⟩
 obtain ⟨a,cap,rfl,hc⟩:=hsl;obtain ⟨n,hn⟩:∃ n,n = xs.length:=⟨_,rfl⟩;rw [<- hn] at hc hl ⊢;have HN:=hid hn;have HC:=hid hc;have HX:=hid hx;clear hn hc hx h;obtain ⟨s0,hs0⟩:∃ s0,s0 = seed % 65536:=⟨_,rfl⟩;have Axw:0 <= s0/\s0 <= 65535:=by omega
 rw [<- hs0] at hsd;have HS0:=hid hs0;have Azp:=hid Axw;clear hs0 Axw;go_enter func83,ntmps83;go_wp2
 go_loop [5,6] (fun z s=>∃ k:Nat,2 * k <= n + 1/\s = .int .i64 ((2 * k:Nat):Int)/\z = .int .i64 (Abn xs s0 k)) (fun _ s=>n + 2 - (intOf s).toNat)
 case atStart=>exact ⟨0,Nat.zero_le _,rfl,rfl⟩
 case round=>
  obtain ⟨k,hk,rfl,rfl⟩:=hrel;obtain ⟨i,hi⟩:∃ i,i = 2 * k:=⟨_,rfl⟩;rw [<- hi];have HI:=hid hi;clear hi
  by_cases hlt:i < n
  ·obtain ⟨b,off,rfl,e1⟩:=HC.out i hlt;have hsr:=ah HX.out Azp.out k;obtain ⟨z,hz⟩:∃ z,z = Abn xs s0 k:=⟨_,rfl⟩;rw [<- hz] at hsr ⊢;have hx1:=HX.out.at' i;have hx2:=HX.out.at' (i + 1);obtain ⟨x,hx⟩:∃ x,x = xs.getD i 0:=⟨_,rfl⟩;obtain ⟨y,hy⟩:∃ y,y = xs.getD (i + 1) 0:=⟨_,rfl⟩;rw [<- hx] at hx1 e1;rw [<- hy] at hx2
   have hnx:Abn xs s0 (k + 1) = if 65535 < z + (x * 256 + y) then z + (x * 256 + y) - 65535 else z + (x * 256 + y):=by
    show stp (Abn xs s0 k) (wordAt xs k) = _;unfold stp wordAt;rw [<- hz,<- HI.out,<- hx,<- hy,Int.mul_comm 256 x]
   have HNX:=hid hnx;have HXX:=hid hx;have HY:=hid hy;have HZ:=hid hz;have heq:=Ac8 x y hx1 hx2;clear hnx hx hy hz
   by_cases hlt2:i + 1 < n
   ·obtain ⟨b',off',hbb,e2⟩:=HC.out (i + 1) hlt2
    cases hbb
    rw [<- HY.out] at e2
    by_cases hbig:65535 < z + (x * 256 + y)
    ·have HBG:=hid hbig;go_wp2
     go_round
     case rel=>exact ⟨k + 1,by have:=HI.out;omega,by have:=HI.out;go_num,by rw [HNX.out,if_pos HBG.out]⟩
     case measure=>simp [intOf];omega
    ·have HBG:=hid hbig;go_wp2
     go_round
     case rel=>exact ⟨k + 1,by have:=HI.out;omega,by have:=HI.out;go_num,by rw [HNX.out,if_neg HBG.out]⟩
     case measure=>simp [intOf];omega
   ·have hy0 : y = 0 := by
     rw [HY.out];simp [List.getD,List.getElem?_eq_none (show xs.length <= i + 1 by have:=HN.out;omega)]
    have hnx2:=HNX.out;rw [hy0,Int.add_zero] at hnx2;have Axx:=hid hnx2;clear hnx2 heq hy0 hx2
    by_cases hbig:65535 < z + x * 256
    ·have HBG:=hid hbig;go_wp2
     go_round
     case rel=>exact ⟨k + 1,by have:=HI.out;omega,by have:=HI.out;go_num,by rw [Axx.out,if_pos HBG.out]⟩
     case measure=>simp [intOf];omega
    ·have HBG:=hid hbig;go_wp2
     go_round
     case rel=>exact ⟨k + 1,by have:=HI.out;omega,by have:=HI.out;go_num,by rw [Axx.out,if_neg HBG.out]⟩
     case measure=>simp [intOf];omega
  ·go_wp2;go_ret
   refine ⟨Bj ?_,rfl⟩;unfold Ao4;rw [<- HN.out,<- HS0.out]
   congr 1
   have:=HI.out;omega
theorem Held.load {w:World} {v:Value} {xs:List Int} (h:Held w v xs):(Extern.Bytes.bytesOf v).run prog w = .ok ⟨(Lib.bytesOf xs).toArray⟩ w:=by
 obtain ⟨_,⟨rfl,rfl | ⟨a,cap,rfl,_⟩⟩ | ⟨_,b,off,cap,rfl,_,_,_,hcell⟩⟩:=h
 ·rfl
 ·rfl
 ·have hl := Lib.run_loadBytesX (P := prog) w xs ⟨b, off, none⟩ .empty (fun j x hj => by
   have hjl:j < xs.length:=(List.getElem?_eq_some_iff.1 hj).1;have e:(⟨b,off,none⟩:Addr).add j = ⟨b,off + j,none⟩:=by unfold Addr.add;split <;> simp_all
   rw [e,hcell j (by omega),List.getD_eq_getElem?_getD,hj];rfl)
  have he:(⟨ByteArray.empty.data ++ (Lib.bytesOf xs).toArray⟩:ByteArray) = ⟨(Lib.bytesOf xs).toArray⟩:=by
   apply ByteArray.ext
   show (#[]:Array UInt8) ++ (Lib.bytesOf xs).toArray = (Lib.bytesOf xs).toArray;simp
  rw [he] at hl;exact hl
def X6:List Int->List Int->Int
 | [],[]=>0
 | [],_ :: _=>-1
 | _ :: _,[]=>1
 | a :: ar,b :: br=>if a < b then -1 else if b < a then 1 else X6 ar br
theorem Au9 {x y:Int} (hx:0 <= x/\x <= 255) (hy:0 <= y/\y <= 255):(x.toNat.toUInt8 < y.toNat.toUInt8) ↔ x < y:=by
 rw [UInt8.lt_iff_toNat_lt];have e1:x.toNat.toUInt8.toNat = x.toNat:=by simp;omega
 have e2:y.toNat.toUInt8.toNat = y.toNat:=by simp;omega
 rw [e1,e2];omega
theorem Aj2:∀ (xs ys:List Int),Ah xs->Ah ys->Lib.compareBytes (Lib.bytesOf xs) (Lib.bytesOf ys) = X6 xs ys
 | [],[],_,_=>rfl
 | [],_ :: _,_,_=>rfl
 | _ :: _,[],_,_=>rfl
 | x :: xs, y :: ys, hx, hy => by
   have ih:=Aj2 xs ys (fun z hz=>hx z (by simp [hz])) (fun z hz=>hy z (by simp [hz]));have h1:=Au9 (hx x (by simp)) (hy y (by simp));have h2:=Au9 (hy y (by simp)) (hx x (by simp));show (if x.toNat.toUInt8 < y.toNat.toUInt8 then (-1:Int) else if y.toNat.toUInt8 < x.toNat.toUInt8 then 1 else Lib.compareBytes (Lib.bytesOf xs) (Lib.bytesOf ys)) = _;rw [ih,show X6 (x :: xs) (y :: ys) = if x < y then -1 else if y < x then 1 else X6 xs ys from rfl]
   by_cases h:x < y
   ·rw [if_pos (h1.2 h),if_pos h]
   ·rw [if_neg (fun h'=>h (h1.1 h')),if_neg h]
    by_cases h':y < x
    ·rw [if_pos (h2.2 h'),if_pos h']
    ·rw [if_neg (fun h''=>h' (h2.1 h'')),if_neg h']
theorem Ac9 {v1 v2:Value} {xs ys:List Int} {w:World} (h1:Held w v1 xs) (h2:Held w v2 ys):(callFunc 137 #[v1,v2]).run prog w = .ok (.value (.int .i64 (X6 xs ys))) w:=by
 rw [run_callFunc_extern func137 (by kernel_rfl) (by kernel_rfl) (by kernel_rfl) (e:=Extern.BytealgCompare.compare) (by kernel_rfl)]
 have e:(Extern.BytealgCompare.compare #[v1,v2]).run prog w = .ok (.int .i64 (X6 xs ys)) w:=by
  change Sem.run prog (do pure (goInt (Extern.BytealgCompare.cmp (<- Extern.Bytes.bytesOf v1) (<- Extern.Bytes.bytesOf v2)))) w = _;simp only [Sem.run_bind,Sem.run_pure,h1.load,h2.load,Result.andThen];rw [Lib.cmp_eq];show Result.ok (Value.int .i64 (Lib.compareBytes (Lib.bytesOf xs) (Lib.bytesOf ys))) w = _;rw [Aj2 xs ys h1.bytes h2.bytes]
 rw [e];rfl
theorem Atb (v1 v2:Value) (xs ys:List Int) (w:World) (h1:Held w v1 xs) (h2:Held w v2 ys) :
 Calls prog 85 #[v1,v2] w fun e w'=>e = .returned (.int .i64 (X6 xs ys))/\w = w':=by
 have hr:=Ac9 h1 h2;clear h1 h2;go_enter func85,ntmps85;go_wp2;go_ret
 exact ⟨rfl,rfl⟩
def Lr:List Int->Int->Int
 | [],_=>-1
 | b :: l,c=>if b = c then 0 else if Lr l c = -1 then -1 else Lr l c + 1
theorem Ao6 (xs:List Int) (hx:Ah xs) (c:Int) (hc:0 <= c/\c <= 255):Lib.indexByte (Lib.bytesOf xs) c.toNat.toUInt8 = Lr xs c:=by
 induction xs with
 | nil=>rfl
 | cons x xs ih =>
   have hb:=hx x (by simp);have ih:=ih fun z hz=>hx z (by simp [hz]);show (if x.toNat.toUInt8 == c.toNat.toUInt8 then (0:Int) else if Lib.indexByte (Lib.bytesOf xs) c.toNat.toUInt8 == -1 then -1 else Lib.indexByte (Lib.bytesOf xs) c.toNat.toUInt8 + 1) = _;rw [ih,show Lr (x :: xs) c = if x = c then 0 else if Lr xs c = -1 then -1 else Lr xs c + 1 from rfl]
   have he:(x.toNat.toUInt8 == c.toNat.toUInt8) = decide (x = c):=by
    rw [Bool.eq_iff_iff];simp only [beq_iff_eq,decide_eq_true_eq];exact ⟨fun h=>Ao3 hb hc h,fun h=>by rw [h]⟩
   rw [he]
   by_cases h:x = c <;> simp [h]
theorem Alf {v:Value} {xs:List Int} {w:World} (h:Held w v xs) (c:Int) (hc:0 <= c/\c <= 255):(callFunc 138 #[v,.int .u8 c]).run prog w = .ok (.value (.int .i64 (Lr xs c))) w:=by
 rw [run_callFunc_extern func138 (by kernel_rfl) (by kernel_rfl) (by kernel_rfl) (e:=Extern.BytealgIndexByte.indexByte) (by kernel_rfl)];have hs:=Lib.run_indexByteString (P:=prog) ⟨(Lib.bytesOf xs).toArray⟩ c w
 have e:(Extern.BytealgIndexByte.indexByte #[v,.int .u8 c]).run prog w = .ok (.int .i64 (Lr xs c)) w:=by
  rw [<- Ao6 xs h.bytes c hc];have hl:=h.load
  change Sem.run prog (do
   let b <- Extern.Bytes.bytesOf v
   let c <- Extern.Bytes.asByte (.int .u8 c)
   match (List.range b.size).find? fun i=>b[i]! == c with
   | some i=>pure (goInt i)
   | none=>pure (goInt (-1))) w = _
  change Sem.run prog (do
   let b <- Extern.Bytes.bytesOf (.string ⟨(Lib.bytesOf xs).toArray⟩)
   let c <- Extern.Bytes.asByte (.int .u8 c)
   match (List.range b.size).find? fun i=>b[i]! == c with
   | some i=>pure (goInt i)
   | none=>pure (goInt (-1))) w = _ at hs
  simp only [Sem.run_bind,hl,Result.andThen];simp only [Extern.Bytes.bytesOf,Sem.run_bind,Sem.run_pure,Result.andThen] at hs;exact hs
 rw [e];rfl
theorem Ao7 (c:Int):IntKind.u8.wrap c = c % 256:=by simp [IntKind.wrap,IntKind.bits,IntKind.signed]
theorem Atc (v:Value) (xs:List Int) (c:Int) (w:World) (h:Held w v xs) :
 Calls prog 86 #[v,.int .i64 c] w fun e w'=>e = .returned (.int .i64 (Lr xs (c % 256)))/\w = w':=by
 have hr:=Alf h (c % 256) (by omega);have hu:=Ao7 c;clear h;go_enter func86,ntmps86;go_wp2;go_ret
 exact ⟨rfl,rfl⟩
def mix1 (x y:Nat):Nat:=x ^^^ (y * 14437167314951722571 % 18446744073709551616)
def mix2 (z:Nat):Nat:=z ^^^ (z / 536870912)
def mix3 (z:Nat):Nat:=z * 10320681969465668653 % 18446744073709551616
def mix4 (z:Nat):Nat:=z ^^^ (z / 4294967296)
def Avx (x y:Nat):Nat:=mix4 (mix3 (mix2 (mix1 x y)))
theorem Avy (x y:Int) (w:World):Calls prog 87 #[.int .i64 x,.int .i64 y] w fun e w'=>e = .returned (.int .i64 (wrap64 ((Avx (un x) (un y):Nat):Int)))/\w = w':=by
 go_enter func87,ntmps87;go_wp2;go_ret
 refine ⟨Bj ?_,rfl⟩;have ux:∀ z:Int,IntKind.u64.wrap z = ((un z:Nat):Int):=fun z=>by rw [IntKind.wrap_u64,Nb]
 have um:∀ z k:Nat,IntKind.u64.wrap ((z:Int) * (k:Int)) = ((z * k % 18446744073709551616:Nat):Int):=fun z k=>by rw [IntKind.wrap_u64,<- Int.natCast_mul,Int.natCast_emod];rfl
 have h1:mix1 (un x) (un y) < 2 ^ 64:=Nat.xor_lt_two_pow (Eo x) (by omega);have h2:mix2 (mix1 (un x) (un y)) < 2 ^ 64:=Nat.xor_lt_two_pow h1 (Nat.lt_of_le_of_lt (Nat.div_le_self _ _) h1);have h3:mix3 (mix2 (mix1 (un x) (un y))) < 2 ^ 64:=Nat.mod_lt _ (by decide)
 have e1:bits BinOp.xor IntKind.u64 (IntKind.u64.wrap x) (IntKind.u64.wrap (IntKind.u64.wrap y * 14437167314951722571)) = ((mix1 (un x) (un y):Nat):Int):=by
  have hk:=um (un y) 14437167314951722571;have hk2:((14437167314951722571:Nat):Int) = 14437167314951722571:=rfl;rw [hk2] at hk;rw [ux x,ux y,hk,bits_xor_u64_nat _ _ (Eo x) (Nat.mod_lt _ (by decide))];rfl
 rw [e1];show wrap64 _ = wrap64 ((mix4 (mix3 (mix2 (mix1 (un x) (un y)))):Nat):Int);generalize mix1 (un x) (un y) = z1 at h1 h2 h3 ⊢;have d1:(z1:Int) / 536870912 = ((z1 / 536870912:Nat):Int):=by omega
 rw [d1,bits_xor_u64_nat _ _ h1 (Nat.lt_of_le_of_lt (Nat.div_le_self _ _) h1)];show wrap64 (bits BinOp.xor IntKind.u64 (IntKind.u64.wrap (((mix2 z1:Nat):Int) * 10320681969465668653)) (IntKind.u64.wrap (((mix2 z1:Nat):Int) * 10320681969465668653) / 4294967296)) = _;generalize mix2 z1 = z2 at h2 h3 ⊢;have hk:=um z2 10320681969465668653;have hk2:((10320681969465668653:Nat):Int) = 10320681969465668653:=rfl;rw [hk2] at hk;rw [hk];show wrap64 (bits BinOp.xor IntKind.u64 ((mix3 z2:Nat):Int) (((mix3 z2:Nat):Int) / 4294967296)) = _;generalize mix3 z2 = z3 at h3 ⊢;have d2:(z3:Int) / 4294967296 = ((z3 / 4294967296:Nat):Int):=by omega
 rw [d2,bits_xor_u64_nat _ _ h3 (Nat.lt_of_le_of_lt (Nat.div_le_self _ _) h3)];rfl
def tot (f:Nat->Int):Nat->Int
 | 0=>0
 | k + 1=>tot f k + f k
def Aq (w:World) (base:Nat) (ρ:Nat->Nat) (r:Nat) (e:TypeId) (v:Value) (xs:List Value):Prop:=
 w.ownsRow base e 1 v xs.length xs/\∀ b,v.ownBlock = some b->ρ b = r
theorem Nc {w w':World} {base:Nat} {e:TypeId} {v:Value} {n:Nat} {xs:List Value} (h:w.ownsRow base e 1 v n xs) (hk:∀ b,v.ownBlock = some b->w'.heap[b]? = w.heap[b]?):w'.ownsRow base e 1 v n xs:=by
 obtain ⟨hl,hz | ⟨g,cap,cur,rfl,hb,hg,rest⟩⟩:=h
 ·exact ⟨hl,Or.inl hz⟩
 ·exact ⟨hl,Or.inr ⟨g,cap,cur,rfl,hb,by rw [hk g rfl];exact hg,rest⟩⟩
theorem Aq.move {w w':World} {base:Nat} {ρ ρ':Nat->Nat} {r r':Nat} {e:TypeId} {v:Value} {xs:List Value} (h:Aq w base ρ r e v xs)
 (hf:∀ q,q < w.heap.size->ρ q = r->w'.heap[q]? = w.heap[q]?/\ρ' q = r'):Aq w' base ρ' r' e v xs:=by
 have hlt:=h.1.lt;exact ⟨Nc h.1 fun b hb=>(hf b (hlt b hb).2 (h.2 b hb)).1,fun b hb=>(hf b (hlt b hb).2 (h.2 b hb)).2⟩
theorem Aq.same {w w':World} {base:Nat} {ρ:Nat->Nat} {r:Nat} {e:TypeId} {v:Value} {xs:List Value} (h:Aq w base ρ r e v xs) (hh:w'.heap = w.heap):Aq w' base ρ r e v xs:=
 h.move fun q _ hr=>⟨by rw [hh],hr⟩
theorem Aq.nil (w:World) (base:Nat) (ρ:Nat->Nat) (r:Nat) (e:TypeId):Aq w base ρ r e (.slice none 0 0) []:=⟨World.ownsRow_nil _ _ _ _,fun b hb=>by cases hb⟩
theorem Aq.open {w:World} {base:Nat} {ρ:Nat->Nat} {r:Nat} {e:TypeId} {v:Value} {xs:List Value} (h:Aq w base ρ r e v xs) :
 ∃ a cap,v = .slice a xs.length cap/\xs.length <= cap/\cap <= maxLen/\(0 < xs.length->∃ b,a = some ⟨b,0,none⟩/\b < w.heap.size/\base <= b/\ρ b = r/\∀ i,i < xs.length->w.cell? ⟨b,i,none⟩ = xs[i]?/\w.frozen? ⟨b,i,none⟩ = false):=by
 obtain ⟨h1,h2⟩:=h;have h0:=h1;obtain ⟨hl,⟨rfl,hz⟩ | ⟨g,cap,cur,rfl,hb,hg,hnc,hcm,hcs,ht⟩⟩:=h1
 ·exact ⟨none,0,by rw [hz],by omega,by decide,fun hp=>by omega⟩
 ·exact ⟨_,cap,rfl,hnc,hcm,fun hp=>⟨g,rfl,(Array.getElem?_eq_some_iff.1 hg).1,hb,h2 g rfl,fun i hi=>⟨h0.cellAt i (by omega),by simp [World.frozen?,hg]⟩⟩⟩
theorem heap_setCell_same {w:World} {b i:Nat} {e:TypeId} {cs:List Value} {v:Value} (h:Row w b e cs) (hv:cs[i]? = some v):(w.setCell ⟨b,i,none⟩ v).heap = w.heap:=by
 have h2:=h.put i v
 have hset:cs.set i v = cs:=by
  apply List.ext_getElem?
  intro t;rw [List.getElem?_set]
  by_cases ht:i = t
  ·subst ht
   have hi:i < cs.length:=by
    rcases Nat.lt_or_ge i cs.length with h | h
    ·exact h
    ·rw [List.getElem?_eq_none h] at hv;cases hv
   rw [if_pos rfl,if_pos hi,hv]
  ·rw [if_neg ht]
 rw [hset] at h2
 apply Array.ext_getElem?
 intro q
 by_cases hq:q = b
 ·subst hq;unfold Row at h h2;rw [h2,h]
 ·exact Below.heap_setCell _ _ _ _ hq
structure Calm (w w':World):Prop where
 heap:w'.heap = w.heap
 below:∀ B,Below B w w'
theorem Calm.refl (w:World):Calm w w:=⟨rfl,fun B=>Below.refl B w⟩
theorem Calm.trans {a b c:World} (h:Calm a b) (k:Calm b c):Calm a c:=⟨k.heap.trans h.heap,fun B=>(h.below B).trans (k.below B)⟩
theorem Calm.drewN {a b:World} (h:Calm a b) (n:Nat):Calm a (b.drewN n):=⟨h.heap,fun B=>below_drewN (h.below B) n⟩
theorem Calm.drew {a b:World} (h:Calm a b):Calm a b.drew:=⟨h.heap,fun B=>(h.below B).drew⟩
theorem Calm.set {a w:World} (h:Calm a w) {b i:Nat} {e:TypeId} {cs:List Value} {v:Value} (hR:Row w b e cs) (hv:cs[i]? = some v):Calm a (w.setCell ⟨b,i,none⟩ v):=
 ⟨(heap_setCell_same hR hv).trans h.heap, fun B => (h.below B).trans (by
   have hh:=heap_setCell_same hR hv;exact ⟨rfl,rfl,rfl,by rw [hh];exact Nat.le_refl _,fun k _=>by rw [hh]⟩)⟩
theorem Row.calm {w w':World} {b:Nat} {e:TypeId} {cs:List Value} (h:Row w b e cs) (hc:Calm w w'):Row w' b e cs:=by unfold Row at h ⊢;rw [hc.heap];exact h
theorem Calm.cell {w w':World} (h:Calm w w') (a:Addr):w'.cell? a = w.cell? a:=World.cell?_of_block (by rw [h.heap])
theorem Hg {P:Program} {w:World} {ops:Array Oper} {rest:List Oper} {o:Oper} {a:Act} {Q:Exit->Act->World->Prop} (hgd:o.guard = none) (s x:Operand) (t:TypeId)
 (ho:o.op = .call { callee:=.builtin .append,args:=#[s,x],argTypes:=#[t,t] })
 (base:Nat) (e:TypeId) (i:TypeInfo) (z:Value) (bytes:Nat) (ht:P.underlying t = some (.slice e)) (hi:P.info? e = some i) (hz:i.zero = some z)
 (hsize:i.size = 1) (hby:i.bytes = bytes) (hzs:z.cells.size = 1)
 (v:Value) (n:Nat) (xs:List Value) (hs:a.eval s = v) (hown:w.ownsRow base e 1 v n xs)
 (ad:Addr) (m c:Nat) (news:List Value) (hx:a.eval x = .slice (some ad) m c) (hl:news.length = m * 1) (hnews:∀ j u,news[j]? = some u->w.cell? (ad.add j) = some u) (h1:∀ u ∈ news,u.oneCell' = true)
 (hm:0 < m) (h63:n + m <= maxLen) (hbytes:(n + m) * bytes <= 140737488355328) (hbase:base <= w.heap.size)
 (h : ∀ g cap w', w'.ownsRow base e 1 (.slice (some ⟨g, 0, none⟩) (n + m) cap) (n + m) (xs ++ news) → w.grownBy w' v.ownBlock → (v.ownBlock = some g ∨ g = w.heap.size) → g < w'.heap.size →
   (∀ v2 n2 xs2,w.ownsRow base e 1 v2 n2 xs2->(v2.ownBlock = v.ownBlock->n2 <= n)->w'.ownsRow base e 1 v2 n2 xs2)->wpList P ops Q rest (a.put o.dst (.slice (some ⟨g,0,none⟩) (n + m) cap)) w'):wpList P ops Q (o :: rest) a w:=by
 refine wpList_plain hgd fun K hK=>?_;obtain ⟨g,cap,w',hr,h2,h3,h4,h5⟩:=run_append_lies (P:=P) w t o.type base e i z 1 bytes ht hi hz hsize hby hzs (by decide) v n xs hown ad m c news hl hnews h1 hm h63 hbytes hbase _ rfl
 have hkeep:∀ v2 n2 xs2,w.ownsRow base e 1 v2 n2 xs2->(v2.ownBlock = v.ownBlock->n2 <= n)->w'.ownsRow base e 1 v2 n2 xs2:=by
  intro v2 n2 xs2 ho2 hle
  by_cases hsame:v2.ownBlock = v.ownBlock
  ·have hle:=hle hsame
   rcases hown.2 with ⟨rfl,h0⟩ | ⟨g0,cap0,cur,rfl,hb,hg,hnc,hcm,hcs,htk⟩
   ·exact Nc ho2 fun b hb2=>by rw [hb2] at hsame;cases hsame
   ·have hl0:=hl;rw [Nat.mul_one] at hl0 hcs htk
    by_cases hroom:n + m <= cap0
    ·have hr':=run_append_room (P:=P) w t o.type e i ht hi g0 n cap0 cur hg ad m c news (by rw [hsize];exact hl) hnews h1 hroom (by rw [hsize,Nat.mul_one,hl0,hcs];omega);rw [hr] at hr';injection hr' with hv hw;obtain ⟨hl2,⟨rfl,hz2⟩ | ⟨g2,cap2,A16,rfl,hb2,hg2,hn2,hm2,hs2,ht2⟩⟩:=ho2
     ·exact ⟨hl2,Or.inl ⟨rfl,hz2⟩⟩
     ·obtain rfl:g2 = g0:=by simpa [Value.ownBlock] using hsame
      rw [hg] at hg2;injection hg2 with hg2;injection hg2 with hg2;subst hg2;refine ⟨hl2,Or.inr ⟨g2,cap2,_,rfl,hb2,by rw [hw];exact setRow_heap w g2 _ _ e _ hg,hn2,hm2,?_,?_⟩⟩
      ·rw [hsize,Nat.mul_one];simp only [List.size_toArray,List.length_append,List.length_take,List.length_drop,Array.length_toList];rw [Nat.mul_one] at hs2;omega
      ·rw [hsize,Nat.mul_one] at *;simp only [List.append_assoc];rw [List.take_append_of_le_length (by rw [List.length_take,Array.length_toList];omega),List.take_take,Nat.min_eq_left (by omega)];exact ht2
    ·have hr':=run_append_grow (P:=P) w t o.type e i z ht hi hz ⟨g0,0,none⟩ n cap0 xs (by rw [hsize];exact hown.1) (hown.cells (g:=g0) rfl) ad m c news (by rw [hsize];exact hl) hnews (by omega) (by simp only [maxLen] at h63;omega) (by rw [hby];exact growslice_fits (by omega) hbytes);rw [hr] at hr';injection hr' with hv hw;refine Nc ho2 fun b hb2=>?_;obtain ⟨_,hlt⟩:=ho2.lt b hb2;rw [hw];exact Below.heap_alloc w.drew _ b hlt
  ·exact Nc ho2 fun b hb2=>h3.block b (ho2.lt b hb2).2 (fun hc=>hsame (by rw [hb2];exact hc))
 unfold Oper.wp execOp;simp only [ho,resolve,invoke,builtin,Sem.run_bind,Sem.run_pure,Result.andThen_ok,List.map_toArray,List.map_cons,List.map_nil,hs,hx,hr];exact hK _ _ (h g cap w' h2 h3 h4 h5 hkeep)
theorem Aal {w:World} {base g n cap:Nat} {e:TypeId} {xs:List Value} (h:w.ownsRow base e 1 (.slice (some ⟨g,0,none⟩) n cap) n xs) (i:Nat) (x:Value) (hi:i < n) :
 (w.setCell ⟨g,i,none⟩ x).ownsRow base e 1 (.slice (some ⟨g,0,none⟩) n cap) n (xs.set i x):=by
 obtain ⟨hl,⟨h0,_⟩ | ⟨g',cap',cur,hv,hb,hg,h1,h2,h3,h4⟩⟩:=h
 ·cases h0
 ·cases hv
  refine ⟨by simpa using hl,Or.inr ⟨g,cap,cur.setIfInBounds i x,rfl,hb,?_,h1,h2,by simpa using h3,?_⟩⟩
  ·have hlt:g < w.heap.size:=(Array.getElem?_eq_some_iff.1 hg).1;have h':w.heap[g] = .cells cur e (0,0):=by simpa [Array.getElem?_eq_getElem hlt] using hg
   show (w.heap.modify g _)[g]? = _;rw [Array.getElem?_eq_getElem (by simpa using hlt),Array.getElem_modify_self,h'];rfl
  ·rw [Array.toList_setIfInBounds,List.take_set,h4]
theorem Gj {w w':World} {ρ:Nat->Nat} {row:Option Nat} {g r:Nat} (hg:w.grownBy w' row) (hrow:∀ b,row = some b->ρ b = r) (hnew:row = some g\/g = w.heap.size) :
 ∀ q,q < w.heap.size->ρ q ≠ r->w'.heap[q]? = w.heap[q]?/\(fun q=>if q = g then r else ρ q) q = ρ q:=by
 intro q hq hr
 have hne:¬ (q = g):=by
  rintro rfl
  rcases hnew with h | h
  ·exact hr (hrow q h)
  ·omega
 refine ⟨hg.block q hq (fun e=>hr (hrow q e.symm)),?_⟩;show (if q = g then r else ρ q) = ρ q;rw [if_neg hne]
theorem Aq.grow {w w':World} {base:Nat} {ρ:Nat->Nat} {r0 r:Nat} {e:TypeId} {v:Value} {xs:List Value} {row:Option Nat} {g:Nat} (h:Aq w base ρ r0 e v xs) (hne:r0 ≠ r) (hg:w.grownBy w' row) (hrow:∀ b,row = some b->ρ b = r) (hnew:row = some g\/g = w.heap.size) :
 Aq w' base (fun q=>if q = g then r else ρ q) r0 e v xs:=
 h.move fun q hq hr=>by
  have:=Gj hg hrow hnew q hq (by rw [hr];exact hne);exact ⟨this.1,this.2.trans hr⟩
theorem Row.grow {w w':World} {ρ:Nat->Nat} {b r:Nat} {e:TypeId} {cs:List Value} {row:Option Nat} {g:Nat} (h:Row w b e cs) (hne:ρ b ≠ r) (hg:w.grownBy w' row) (hrow:∀ b,row = some b->ρ b = r) (hnew:row = some g\/g = w.heap.size):Row w' b e cs:=by
 have:=(Gj hg hrow hnew b h.lt hne).1;unfold Row at h ⊢;rw [this];exact h
theorem Aq.set {w:World} {base:Nat} {ρ:Nat->Nat} {r0:Nat} {e:TypeId} {v:Value} {xs:List Value} (h:Aq w base ρ r0 e v xs) {a:Addr} (hne:ρ a.block ≠ r0) (x:Value):Aq (w.setCell a x) base ρ r0 e v xs:=
 h.move fun q _ hr=>⟨Below.heap_setCell _ _ _ _ (fun e=>hne (by rw [<- e];exact hr)),hr⟩
theorem Aq.alloc {w:World} {base:Nat} {ρ:Nat->Nat} {r0:Nat} {e:TypeId} {v:Value} {xs:List Value} (h:Aq w base ρ r0 e v xs) (o:Obj):Aq (w.alloc o) base ρ r0 e v xs:=
 h.move fun q hq hr=>⟨Below.heap_alloc _ _ _ hq,hr⟩
theorem Ug {P:Program} {kt:TypeId} (hk:P.underlying kt = some (.int .i64)) (e:Bool) (k:Int) (w:World):(Instr.checkKey e 10000 kt (.int .i64 k)).run P w = .ok () w:=
 MapKept.run_checkKey (d:=.int .i64) hk (show MapKept.IsKey (.int .i64) (.int .i64 k) from rfl) e 9999
theorem Dw {P:Program} {t kt et:TypeId} (hm:P.underlying t = some (.map kt et)) (hk:P.underlying kt = some (.int .i64)) (w:World) (es:Array MapEntry) (c:Nat) (k:Int) (v:Value)
 (hf:Instr.findNow (.int .i64) (.int .i64 k) es.toList 0 = some none) :
 (Instr.mapUpdate t (.map (some w.heap.size)) (.int .i64 k) v).run P (w.alloc (.map es c)) = .ok () (w.alloc (.map (es.push { key:=.int .i64 k,val:=v,born:=c }) (c + 1))):=by
 have h1:(w.alloc (.map es c)).heap[w.heap.size]? = some (.map es c):=heap_alloc_new w _;simp [Instr.mapUpdate,run_underlying hm,MapKept.run_getObj_map h1,Ug hk,MapKept.run_findKey hk hf,MapKept.run_setObj_map _ h1,Result.andThen];show (⟨_,_,_,_,_⟩:World) = ⟨_,_,_,_,_⟩
 congr 1
 show (w.heap.push _).setIfInBounds w.heap.size _ = w.heap.push _
 apply Array.toList_inj.1
 rw [Array.toList_setIfInBounds,Array.toList_push,Array.toList_push,<- Array.length_toList,List.set_append_right _ _ nl,Nat.sub_self];rfl
theorem Cj {P:Program} {t kt et:TypeId} (hm:P.underlying t = some (.map kt et)) (hk:P.underlying kt = some (.int .i64)) (w:World) (b:Nat) (es:Array MapEntry) (c:Nat) (hb:w.heap[b]? = some (.map es c)) (k:Int) (i:Nat) (v:Value)
 (hf:Instr.findNow (.int .i64) (.int .i64 k) es.toList 0 = some (some (i,v))) (ok:Bool) :
 (Instr.lookup t (.map (some b)) (.int .i64 k) ok).run P w = .ok (if ok then .tuple #[v,.bool true] else v) w:=by
 cases ok <;> simp [Instr.lookup,run_underlying hm,MapKept.run_getObj_map hb,Ug hk,MapKept.run_findKey hk hf,Result.andThen]
theorem Ej {P:Program} {t kt et:TypeId} (hm:P.underlying t = some (.map kt et)) (hk:P.underlying kt = some (.int .i64)) (w:World) (b:Nat) (es:Array MapEntry) (c:Nat) (hb:w.heap[b]? = some (.map es c)) (k:Int) (z:Value)
 (hf:Instr.findNow (.int .i64) (.int .i64 k) es.toList 0 = some none) (hz:(zeroValue et).run P w = .ok z w) (ok:Bool) :
 (Instr.lookup t (.map (some b)) (.int .i64 k) ok).run P w = .ok (if ok then .tuple #[z,.bool false] else z) w:=by
 cases ok <;> simp [Instr.lookup,run_underlying hm,MapKept.run_getObj_map hb,Ug hk,MapKept.run_findKey hk hf,hz,Result.andThen]
def Bits (w:World) (b off n x:Nat):Prop:=b < w.heap.size/\∀ i,i < n->w.cell? ⟨b,off + i,none⟩ = some (.int .i64 (bit x i))
theorem Bits.below {w w':World} {b off n x B:Nat} (h:Bits w b off n x) (hb:Below B w w') (hlt:b < B):Bits w' b off n x:=
 ⟨Nat.lt_of_lt_of_le h.1 hb.size,fun i hi=>(hb.cell (p:=⟨b,off + i,none⟩) hlt).trans (h.2 i hi)⟩
theorem Bits.row {w:World} {b n x:Nat} {e:TypeId} (h:Row w b e (J6 n (bit x))):Bits w b 0 n x:=
 ⟨h.lt,fun i hi=>by rw [h.cell,Nat.zero_add,Wn _ hi]⟩
theorem Bits.other {w:World} {b off n x:Nat} (h:Bits w b off n x) (a:Addr) (v:Value) (hne:b ≠ a.block):Bits (w.setCell a v) b off n x:=
 ⟨by have:=h.1;simpa [World.setCell] using this,fun i hi=>(World.cell?_of_block (Below.heap_setCell _ _ _ _ hne)).trans (h.2 i hi)⟩
theorem Ao8 {n:Nat} (g:Nat->Int) {j:Nat} {u:Value} (h:(J6 n g)[j]? = some u):j < n/\u = .int .i64 (g j):=by
 by_cases hj:j < n
 ·rw [Wn g hj] at h;exact ⟨hj,(Option.some.inj h).symm⟩
 ·rw [List.getElem?_eq_none (by rw [Ac7];omega)] at h
  cases h
theorem addr_add (b o j:Nat):(⟨b,o,none⟩:Addr).add j = ⟨b,o + j,none⟩:=by
 unfold Addr.add;split
 ·subst_vars;rfl
 ·rfl
theorem Bits.news {w:World} {b o n x:Nat} (h:Bits w b o n x):∀ j u,(J6 n (bit x))[j]? = some u->w.cell? ((⟨b,o,none⟩:Addr).add j) = some u:=by
 intro j u hu;obtain ⟨hj,rfl⟩:=Ao8 _ hu;rw [addr_add];exact h.2 j hj
theorem Bits.congr {w:World} {b o n x y:Nat} (h:Bits w b o n x) (e:∀ i,i < n->bit x i = bit y i):Bits w b o n y:=
 ⟨h.1,fun i hi=>by rw [<- e i hi];exact h.2 i hi⟩
def Axy:List MapEntry:=[⟨.int .i64 1,.func (.func 113) #[] #[],0⟩,⟨.int .i64 2,.func (.func 114) #[] #[],1⟩,⟨.int .i64 3,.func (.func 115) #[] #[],2⟩,⟨.int .i64 4,.func (.func 116) #[] #[],3⟩,⟨.int .i64 5,.func (.func 117) #[] #[],4⟩,⟨.int .i64 6,.func (.func 118) #[] #[],5⟩,⟨.int .i64 7,.func (.func 119) #[] #[],6⟩,⟨.int .i64 8,.func (.func 120) #[] #[],7⟩,⟨.int .i64 9,.func (.func 121) #[] #[],8⟩,⟨.int .i64 10,.func (.func 122) #[] #[],9⟩,⟨.int .i64 11,.func (.func 123) #[] #[],10⟩,⟨.int .i64 12,.func (.func 124) #[] #[],11⟩,⟨.int .i64 13,.func (.func 125) #[] #[],12⟩,⟨.int .i64 14,.func (.func 126) #[] #[],13⟩,⟨.int .i64 15,.func (.func 127) #[] #[],14⟩]
def Bh (i:Nat):Array MapEntry:=(Axy.take i).toArray
theorem Alg (w:World):(Instr.mapUpdate 142 (.map (some w.heap.size)) (.int .i64 1) (.func (.func 113) #[] #[])).run prog (w.alloc (.map #[] 0)) = .ok () (w.alloc (.map (Bh 1) 1)):=
 Dw underlying142 underlying3 w #[] 0 1 _ rfl
theorem Alh (w:World):(Instr.mapUpdate 142 (.map (some w.heap.size)) (.int .i64 2) (.func (.func 114) #[] #[])).run prog (w.alloc (.map (Bh 1) 1)) = .ok () (w.alloc (.map (Bh 2) 2)):=
 Dw underlying142 underlying3 w (Bh 1) 1 2 _ rfl
theorem Ali (w:World):(Instr.mapUpdate 142 (.map (some w.heap.size)) (.int .i64 3) (.func (.func 115) #[] #[])).run prog (w.alloc (.map (Bh 2) 2)) = .ok () (w.alloc (.map (Bh 3) 3)):=
 Dw underlying142 underlying3 w (Bh 2) 2 3 _ rfl
theorem Alj (w:World):(Instr.mapUpdate 142 (.map (some w.heap.size)) (.int .i64 4) (.func (.func 116) #[] #[])).run prog (w.alloc (.map (Bh 3) 3)) = .ok () (w.alloc (.map (Bh 4) 4)):=
 Dw underlying142 underlying3 w (Bh 3) 3 4 _ rfl
theorem Alk (w:World):(Instr.mapUpdate 142 (.map (some w.heap.size)) (.int .i64 5) (.func (.func 117) #[] #[])).run prog (w.alloc (.map (Bh 4) 4)) = .ok () (w.alloc (.map (Bh 5) 5)):=
 Dw underlying142 underlying3 w (Bh 4) 4 5 _ rfl
theorem Alm (w:World):(Instr.mapUpdate 142 (.map (some w.heap.size)) (.int .i64 6) (.func (.func 118) #[] #[])).run prog (w.alloc (.map (Bh 5) 5)) = .ok () (w.alloc (.map (Bh 6) 6)):=
 Dw underlying142 underlying3 w (Bh 5) 5 6 _ rfl
theorem Aln (w:World):(Instr.mapUpdate 142 (.map (some w.heap.size)) (.int .i64 7) (.func (.func 119) #[] #[])).run prog (w.alloc (.map (Bh 6) 6)) = .ok () (w.alloc (.map (Bh 7) 7)):=
 Dw underlying142 underlying3 w (Bh 6) 6 7 _ rfl
theorem Alo (w:World):(Instr.mapUpdate 142 (.map (some w.heap.size)) (.int .i64 8) (.func (.func 120) #[] #[])).run prog (w.alloc (.map (Bh 7) 7)) = .ok () (w.alloc (.map (Bh 8) 8)):=
 Dw underlying142 underlying3 w (Bh 7) 7 8 _ rfl
theorem Alp (w:World):(Instr.mapUpdate 142 (.map (some w.heap.size)) (.int .i64 9) (.func (.func 121) #[] #[])).run prog (w.alloc (.map (Bh 8) 8)) = .ok () (w.alloc (.map (Bh 9) 9)):=
 Dw underlying142 underlying3 w (Bh 8) 8 9 _ rfl
theorem Alq (w:World):(Instr.mapUpdate 142 (.map (some w.heap.size)) (.int .i64 10) (.func (.func 122) #[] #[])).run prog (w.alloc (.map (Bh 9) 9)) = .ok () (w.alloc (.map (Bh 10) 10)):=
 Dw underlying142 underlying3 w (Bh 9) 9 10 _ rfl
theorem Agd (w:World):(Instr.mapUpdate 142 (.map (some w.heap.size)) (.int .i64 11) (.func (.func 123) #[] #[])).run prog (w.alloc (.map (Bh 10) 10)) = .ok () (w.alloc (.map (Bh 11) 11)):=
 Dw underlying142 underlying3 w (Bh 10) 10 11 _ rfl
theorem Agf (w:World):(Instr.mapUpdate 142 (.map (some w.heap.size)) (.int .i64 12) (.func (.func 124) #[] #[])).run prog (w.alloc (.map (Bh 11) 11)) = .ok () (w.alloc (.map (Bh 12) 12)):=
 Dw underlying142 underlying3 w (Bh 11) 11 12 _ rfl
theorem Agg (w:World):(Instr.mapUpdate 142 (.map (some w.heap.size)) (.int .i64 13) (.func (.func 125) #[] #[])).run prog (w.alloc (.map (Bh 12) 12)) = .ok () (w.alloc (.map (Bh 13) 13)):=
 Dw underlying142 underlying3 w (Bh 12) 12 13 _ rfl
theorem Agh (w:World):(Instr.mapUpdate 142 (.map (some w.heap.size)) (.int .i64 14) (.func (.func 126) #[] #[])).run prog (w.alloc (.map (Bh 13) 13)) = .ok () (w.alloc (.map (Bh 14) 14)):=
 Dw underlying142 underlying3 w (Bh 13) 13 14 _ rfl
theorem Agi (w:World):(Instr.mapUpdate 142 (.map (some w.heap.size)) (.int .i64 15) (.func (.func 127) #[] #[])).run prog (w.alloc (.map (Bh 14) 14)) = .ok () (w.alloc (.map (Bh 15) 15)):=
 Dw underlying142 underlying3 w (Bh 14) 14 15 _ rfl
theorem Ap (w:World):Calls prog 96 #[] w fun e w'=>∃ b,e = .returned (.map (some b))/\w'.heap[b]? = some (.map (Bh 15) 15)/\Below w.heap.size w w':=by
 have hmm:=@run_makeMap prog;have p0:=Alg;have p1:=Alh;have p2:=Ali;have p3:=Alj;have p4:=Alk;have p5:=Alm;have p6:=Aln;have p7:=Alo;have p8:=Alp;have p9:=Alq;have p10:=Agd;have p11:=Agf;have p12:=Agg;have p13:=Agh;have p14:=Agi;go_enter func96,ntmps96;go_wp2;go_ret
 exact ⟨_,rfl,heap_alloc_new w _,(Below.refl _ _).alloc nl _⟩
theorem aj (w:World) (b:Nat) (h:w.heap[b]? = some (.map (Bh 15) 15)) (ok:Bool):(Instr.lookup 142 (.map (some b)) (.int .i64 1) ok).run prog w = .ok (if ok then .tuple #[.func (.func 113) #[] #[],.bool true] else .func (.func 113) #[] #[]) w:=
 Cj underlying142 underlying3 w b (Bh 15) 15 h 1 0 _ rfl ok
theorem au (w:World) (b:Nat) (h:w.heap[b]? = some (.map (Bh 15) 15)) (ok:Bool):(Instr.lookup 142 (.map (some b)) (.int .i64 2) ok).run prog w = .ok (if ok then .tuple #[.func (.func 114) #[] #[],.bool true] else .func (.func 114) #[] #[]) w:=
 Cj underlying142 underlying3 w b (Bh 15) 15 h 2 1 _ rfl ok
theorem ay (w:World) (b:Nat) (h:w.heap[b]? = some (.map (Bh 15) 15)) (ok:Bool):(Instr.lookup 142 (.map (some b)) (.int .i64 3) ok).run prog w = .ok (if ok then .tuple #[.func (.func 115) #[] #[],.bool true] else .func (.func 115) #[] #[]) w:=
 Cj underlying142 underlying3 w b (Bh 15) 15 h 3 2 _ rfl ok
theorem dh (w:World) (b:Nat) (h:w.heap[b]? = some (.map (Bh 15) 15)) (ok:Bool):(Instr.lookup 142 (.map (some b)) (.int .i64 4) ok).run prog w = .ok (if ok then .tuple #[.func (.func 116) #[] #[],.bool true] else .func (.func 116) #[] #[]) w:=
 Cj underlying142 underlying3 w b (Bh 15) 15 h 4 3 _ rfl ok
theorem dn (w:World) (b:Nat) (h:w.heap[b]? = some (.map (Bh 15) 15)) (ok:Bool):(Instr.lookup 142 (.map (some b)) (.int .i64 5) ok).run prog w = .ok (if ok then .tuple #[.func (.func 117) #[] #[],.bool true] else .func (.func 117) #[] #[]) w:=
 Cj underlying142 underlying3 w b (Bh 15) 15 h 5 4 _ rfl ok
theorem dw (w:World) (b:Nat) (h:w.heap[b]? = some (.map (Bh 15) 15)) (ok:Bool):(Instr.lookup 142 (.map (some b)) (.int .i64 6) ok).run prog w = .ok (if ok then .tuple #[.func (.func 118) #[] #[],.bool true] else .func (.func 118) #[] #[]) w:=
 Cj underlying142 underlying3 w b (Bh 15) 15 h 6 5 _ rfl ok
theorem eu (w:World) (b:Nat) (h:w.heap[b]? = some (.map (Bh 15) 15)) (ok:Bool):(Instr.lookup 142 (.map (some b)) (.int .i64 7) ok).run prog w = .ok (if ok then .tuple #[.func (.func 119) #[] #[],.bool true] else .func (.func 119) #[] #[]) w:=
 Cj underlying142 underlying3 w b (Bh 15) 15 h 7 6 _ rfl ok
theorem gq (w:World) (b:Nat) (h:w.heap[b]? = some (.map (Bh 15) 15)) (ok:Bool):(Instr.lookup 142 (.map (some b)) (.int .i64 8) ok).run prog w = .ok (if ok then .tuple #[.func (.func 120) #[] #[],.bool true] else .func (.func 120) #[] #[]) w:=
 Cj underlying142 underlying3 w b (Bh 15) 15 h 8 7 _ rfl ok
theorem gy (w:World) (b:Nat) (h:w.heap[b]? = some (.map (Bh 15) 15)) (ok:Bool):(Instr.lookup 142 (.map (some b)) (.int .i64 9) ok).run prog w = .ok (if ok then .tuple #[.func (.func 121) #[] #[],.bool true] else .func (.func 121) #[] #[]) w:=
 Cj underlying142 underlying3 w b (Bh 15) 15 h 9 8 _ rfl ok
theorem Y5 (w:World) (b:Nat) (h:w.heap[b]? = some (.map (Bh 15) 15)) (ok:Bool):(Instr.lookup 142 (.map (some b)) (.int .i64 10) ok).run prog w = .ok (if ok then .tuple #[.func (.func 122) #[] #[],.bool true] else .func (.func 122) #[] #[]) w:=
 Cj underlying142 underlying3 w b (Bh 15) 15 h 10 9 _ rfl ok
theorem Y6 (w:World) (b:Nat) (h:w.heap[b]? = some (.map (Bh 15) 15)) (ok:Bool):(Instr.lookup 142 (.map (some b)) (.int .i64 11) ok).run prog w = .ok (if ok then .tuple #[.func (.func 123) #[] #[],.bool true] else .func (.func 123) #[] #[]) w:=
 Cj underlying142 underlying3 w b (Bh 15) 15 h 11 10 _ rfl ok
theorem Y7 (w:World) (b:Nat) (h:w.heap[b]? = some (.map (Bh 15) 15)) (ok:Bool):(Instr.lookup 142 (.map (some b)) (.int .i64 12) ok).run prog w = .ok (if ok then .tuple #[.func (.func 124) #[] #[],.bool true] else .func (.func 124) #[] #[]) w:=
 Cj underlying142 underlying3 w b (Bh 15) 15 h 12 11 _ rfl ok
theorem Y8 (w:World) (b:Nat) (h:w.heap[b]? = some (.map (Bh 15) 15)) (ok:Bool):(Instr.lookup 142 (.map (some b)) (.int .i64 13) ok).run prog w = .ok (if ok then .tuple #[.func (.func 125) #[] #[],.bool true] else .func (.func 125) #[] #[]) w:=
 Cj underlying142 underlying3 w b (Bh 15) 15 h 13 12 _ rfl ok
theorem Y9 (w:World) (b:Nat) (h:w.heap[b]? = some (.map (Bh 15) 15)) (ok:Bool):(Instr.lookup 142 (.map (some b)) (.int .i64 14) ok).run prog w = .ok (if ok then .tuple #[.func (.func 126) #[] #[],.bool true] else .func (.func 126) #[] #[]) w:=
 Cj underlying142 underlying3 w b (Bh 15) 15 h 14 13 _ rfl ok
theorem Za (w:World) (b:Nat) (h:w.heap[b]? = some (.map (Bh 15) 15)) (ok:Bool):(Instr.lookup 142 (.map (some b)) (.int .i64 15) ok).run prog w = .ok (if ok then .tuple #[.func (.func 127) #[] #[],.bool true] else .func (.func 127) #[] #[]) w:=
 Cj underlying142 underlying3 w b (Bh 15) 15 h 15 14 _ rfl ok
def Atd:List MapEntry:=[⟨.int .i64 4,.func (.func 128) #[] #[],0⟩,⟨.int .i64 5,.func (.func 129) #[] #[],1⟩,⟨.int .i64 6,.func (.func 130) #[] #[],2⟩,⟨.int .i64 7,.func (.func 131) #[] #[],3⟩,⟨.int .i64 11,.func (.func 132) #[] #[],4⟩,⟨.int .i64 12,.func (.func 133) #[] #[],5⟩,⟨.int .i64 13,.func (.func 134) #[] #[],6⟩]
def A8 (i:Nat):Array MapEntry:=(Atd.take i).toArray
theorem Ada (w:World):(Instr.mapUpdate 142 (.map (some w.heap.size)) (.int .i64 4) (.func (.func 128) #[] #[])).run prog (w.alloc (.map #[] 0)) = .ok () (w.alloc (.map (A8 1) 1)):=
 Dw underlying142 underlying3 w #[] 0 4 _ rfl
theorem Adb (w:World):(Instr.mapUpdate 142 (.map (some w.heap.size)) (.int .i64 5) (.func (.func 129) #[] #[])).run prog (w.alloc (.map (A8 1) 1)) = .ok () (w.alloc (.map (A8 2) 2)):=
 Dw underlying142 underlying3 w (A8 1) 1 5 _ rfl
theorem Adc (w:World):(Instr.mapUpdate 142 (.map (some w.heap.size)) (.int .i64 6) (.func (.func 130) #[] #[])).run prog (w.alloc (.map (A8 2) 2)) = .ok () (w.alloc (.map (A8 3) 3)):=
 Dw underlying142 underlying3 w (A8 2) 2 6 _ rfl
theorem Ade (w:World):(Instr.mapUpdate 142 (.map (some w.heap.size)) (.int .i64 7) (.func (.func 131) #[] #[])).run prog (w.alloc (.map (A8 3) 3)) = .ok () (w.alloc (.map (A8 4) 4)):=
 Dw underlying142 underlying3 w (A8 3) 3 7 _ rfl
theorem Adf (w:World):(Instr.mapUpdate 142 (.map (some w.heap.size)) (.int .i64 11) (.func (.func 132) #[] #[])).run prog (w.alloc (.map (A8 4) 4)) = .ok () (w.alloc (.map (A8 5) 5)):=
 Dw underlying142 underlying3 w (A8 4) 4 11 _ rfl
theorem Adg (w:World):(Instr.mapUpdate 142 (.map (some w.heap.size)) (.int .i64 12) (.func (.func 133) #[] #[])).run prog (w.alloc (.map (A8 5) 5)) = .ok () (w.alloc (.map (A8 6) 6)):=
 Dw underlying142 underlying3 w (A8 5) 5 12 _ rfl
theorem Adh (w:World):(Instr.mapUpdate 142 (.map (some w.heap.size)) (.int .i64 13) (.func (.func 134) #[] #[])).run prog (w.alloc (.map (A8 6) 6)) = .ok () (w.alloc (.map (A8 7) 7)):=
 Dw underlying142 underlying3 w (A8 6) 6 13 _ rfl
theorem Ea (w:World):Calls prog 97 #[] w fun e w'=>∃ b,e = .returned (.map (some b))/\w'.heap[b]? = some (.map (A8 7) 7)/\Below w.heap.size w w':=by
 have hmm:=@run_makeMap prog;have p0:=Ada;have p1:=Adb;have p2:=Adc;have p3:=Ade;have p4:=Adf;have p5:=Adg;have p6:=Adh;go_enter func97,ntmps97;go_wp2;go_ret
 exact ⟨_,rfl,heap_alloc_new w _,(Below.refl _ _).alloc nl _⟩
theorem Abp (w:World) (b:Nat) (h:w.heap[b]? = some (.map (A8 7) 7)) (ok:Bool):(Instr.lookup 142 (.map (some b)) (.int .i64 4) ok).run prog w = .ok (if ok then .tuple #[.func (.func 128) #[] #[],.bool true] else .func (.func 128) #[] #[]) w:=
 Cj underlying142 underlying3 w b (A8 7) 7 h 4 0 _ rfl ok
theorem Abq (w:World) (b:Nat) (h:w.heap[b]? = some (.map (A8 7) 7)) (ok:Bool):(Instr.lookup 142 (.map (some b)) (.int .i64 5) ok).run prog w = .ok (if ok then .tuple #[.func (.func 129) #[] #[],.bool true] else .func (.func 129) #[] #[]) w:=
 Cj underlying142 underlying3 w b (A8 7) 7 h 5 1 _ rfl ok
theorem Abr (w:World) (b:Nat) (h:w.heap[b]? = some (.map (A8 7) 7)) (ok:Bool):(Instr.lookup 142 (.map (some b)) (.int .i64 6) ok).run prog w = .ok (if ok then .tuple #[.func (.func 130) #[] #[],.bool true] else .func (.func 130) #[] #[]) w:=
 Cj underlying142 underlying3 w b (A8 7) 7 h 6 2 _ rfl ok
theorem Abs (w:World) (b:Nat) (h:w.heap[b]? = some (.map (A8 7) 7)) (ok:Bool):(Instr.lookup 142 (.map (some b)) (.int .i64 7) ok).run prog w = .ok (if ok then .tuple #[.func (.func 131) #[] #[],.bool true] else .func (.func 131) #[] #[]) w:=
 Cj underlying142 underlying3 w b (A8 7) 7 h 7 3 _ rfl ok
theorem y7 (w:World) (b:Nat) (h:w.heap[b]? = some (.map (A8 7) 7)) (ok:Bool):(Instr.lookup 142 (.map (some b)) (.int .i64 11) ok).run prog w = .ok (if ok then .tuple #[.func (.func 132) #[] #[],.bool true] else .func (.func 132) #[] #[]) w:=
 Cj underlying142 underlying3 w b (A8 7) 7 h 11 4 _ rfl ok
theorem y8 (w:World) (b:Nat) (h:w.heap[b]? = some (.map (A8 7) 7)) (ok:Bool):(Instr.lookup 142 (.map (some b)) (.int .i64 12) ok).run prog w = .ok (if ok then .tuple #[.func (.func 133) #[] #[],.bool true] else .func (.func 133) #[] #[]) w:=
 Cj underlying142 underlying3 w b (A8 7) 7 h 12 5 _ rfl ok
theorem y9 (w:World) (b:Nat) (h:w.heap[b]? = some (.map (A8 7) 7)) (ok:Bool):(Instr.lookup 142 (.map (some b)) (.int .i64 13) ok).run prog w = .ok (if ok then .tuple #[.func (.func 134) #[] #[],.bool true] else .func (.func 134) #[] #[]) w:=
 Cj underlying142 underlying3 w b (A8 7) 7 h 13 6 _ rfl ok
theorem Abt (w:World) (b:Nat) (h:w.heap[b]? = some (.map (A8 7) 7)) (ok:Bool):(Instr.lookup 142 (.map (some b)) (.int .i64 1) ok).run prog w = .ok (if ok then .tuple #[.nilFunc,.bool false] else .nilFunc) w:=
 Ej underlying142 underlying3 w b (A8 7) 7 h 1 .nilFunc rfl (by kernel_rfl) ok
theorem Abu (w:World) (b:Nat) (h:w.heap[b]? = some (.map (A8 7) 7)) (ok:Bool):(Instr.lookup 142 (.map (some b)) (.int .i64 2) ok).run prog w = .ok (if ok then .tuple #[.nilFunc,.bool false] else .nilFunc) w:=
 Ej underlying142 underlying3 w b (A8 7) 7 h 2 .nilFunc rfl (by kernel_rfl) ok
theorem Abv (w:World) (b:Nat) (h:w.heap[b]? = some (.map (A8 7) 7)) (ok:Bool):(Instr.lookup 142 (.map (some b)) (.int .i64 3) ok).run prog w = .ok (if ok then .tuple #[.nilFunc,.bool false] else .nilFunc) w:=
 Ej underlying142 underlying3 w b (A8 7) 7 h 3 .nilFunc rfl (by kernel_rfl) ok
theorem Abw (w:World) (b:Nat) (h:w.heap[b]? = some (.map (A8 7) 7)) (ok:Bool):(Instr.lookup 142 (.map (some b)) (.int .i64 8) ok).run prog w = .ok (if ok then .tuple #[.nilFunc,.bool false] else .nilFunc) w:=
 Ej underlying142 underlying3 w b (A8 7) 7 h 8 .nilFunc rfl (by kernel_rfl) ok
theorem Abx (w:World) (b:Nat) (h:w.heap[b]? = some (.map (A8 7) 7)) (ok:Bool):(Instr.lookup 142 (.map (some b)) (.int .i64 9) ok).run prog w = .ok (if ok then .tuple #[.nilFunc,.bool false] else .nilFunc) w:=
 Ej underlying142 underlying3 w b (A8 7) 7 h 9 .nilFunc rfl (by kernel_rfl) ok
theorem zf (w:World) (b:Nat) (h:w.heap[b]? = some (.map (A8 7) 7)) (ok:Bool):(Instr.lookup 142 (.map (some b)) (.int .i64 10) ok).run prog w = .ok (if ok then .tuple #[.nilFunc,.bool false] else .nilFunc) w:=
 Ej underlying142 underlying3 w b (A8 7) 7 h 10 .nilFunc rfl (by kernel_rfl) ok
theorem zh (w:World) (b:Nat) (h:w.heap[b]? = some (.map (A8 7) 7)) (ok:Bool):(Instr.lookup 142 (.map (some b)) (.int .i64 14) ok).run prog w = .ok (if ok then .tuple #[.nilFunc,.bool false] else .nilFunc) w:=
 Ej underlying142 underlying3 w b (A8 7) 7 h 14 .nilFunc rfl (by kernel_rfl) ok
theorem zi (w:World) (b:Nat) (h:w.heap[b]? = some (.map (A8 7) 7)) (ok:Bool):(Instr.lookup 142 (.map (some b)) (.int .i64 15) ok).run prog w = .ok (if ok then .tuple #[.nilFunc,.bool false] else .nilFunc) w:=
 Ej underlying142 underlying3 w b (A8 7) 7 h 15 .nilFunc rfl (by kernel_rfl) ok
def G8 (n x:Nat):Int:=if x < 2 ^ (n - 1) then (x:Int) else (x:Int) - 2 ^ n
theorem Aam {x:Nat} (hx:x < 18446744073709551616):G8 64 x = wrap64 (x:Int):=by
 unfold G8 wrap64;have e1:(2:Nat) ^ (64 - 1) = 9223372036854775808:=rfl;have e2:(2:Int) ^ 64 = 18446744073709551616:=rfl;rw [e1,e2]
 split <;> omega
theorem Aan {x:Nat} (hx:x < 4294967296):G8 32 x = wrap32 (x:Int):=by
 unfold G8 wrap32;have e1:(2:Nat) ^ (32 - 1) = 2147483648:=rfl;have e2:(2:Int) ^ 32 = 4294967296:=rfl;rw [e1,e2]
 split <;> omega
end Go.Proofs.YtjacnhnaoenelaaGreat

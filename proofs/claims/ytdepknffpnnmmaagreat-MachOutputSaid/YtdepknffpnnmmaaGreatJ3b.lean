import Derived.Test.YtdepknffpnnmmaaGreatJ3a
import Derived.Test.YtdepknffpnnmmaaGreatJ0b
import Derived.Test.YtdepknffpnnmmaaGreatJ0a
namespace Go.Proofs.YtdepknffpnnmmaaGreat
open Go.RowKit
set_option linter.unusedVariables false
set_option linter.unusedSimpArgs false
def Mst.reg (s:Mst) (d:Int):Val:=(s.rg[d.toNat]?).getD noval
def Mst.setr (s:Mst) (d:Int) (v:Val):Mst:={ s with rg:=s.rg.set d.toNat v }
def Mst.sec (s:Mst) (i:Ins):Val:=if i.reg then s.reg i.src else nval i.imm
def movedF (v:Val) (n:Int):Val × Int:=
 if n < -2097152\/2097152 < n\/v.x + n < -1048576\/1048576 < v.x + n then (v,85) else (⟨v.k,v.t,v.o,v.x + n⟩,0)
def alikeF (a b:Val):Bool:=a.k == b.k && decide (2 <= a.k) && decide (a.k <= 4)
def sumF (op:Int) (a b:Val):Val × Int:=
 if op = 1/\2 <= a.k/\b.k = 1 then movedF a b.x
 else if op = 1/\a.k = 1/\2 <= b.k then movedF b a.x
 else if op = 2/\2 <= a.k/\b.k = 1 then (if b.x < -2097152 then (a,85) else movedF a (-b.x))
 else if op = 2/\alikeF a b = true then (nval (a.x - b.x),0)
 else (a,80)
def arithV (op:Int) (nar:Bool) (a b:Val):Val × Int:=
 if op = 15/\nar = false/\b.k ≠ 0 then (b,0)
 else if (if op = 15 then 1 else a.k) = 1/\(if op = 14 then 1 else b.k) = 1 then
  (nval (aluF op nar (if op = 15 then 0 else a.x) (if op = 14 then 0 else b.x)).1,(aluF op nar (if op = 15 then 0 else a.x) (if op = 14 then 0 else b.x)).2)
 else if nar = true\/(if op = 15 then 1 else a.k) = 0\/(if op = 14 then 1 else b.k) = 0 then (a,80)
 else sumF op (if op = 15 then nval 0 else a) (if op = 14 then nval 0 else b)
structure Did where
 by':Int
 er:Int
 s:Mst
def setOr (s:Mst) (d:Int) (r:Val × Int):Did:=⟨0,r.2,if r.2 = 0 then s.setr d r.1 else s⟩
def arithD (s:Mst) (i:Ins):Did:=setOr s i.dst (arithV i.op i.nar (s.reg i.dst) (s.sec i))
def partV (i:Ins) (v:Val):Val × Int:=
 if v.k ≠ 1 then (v,80) else if i.op = 16 then (nval (extF i.size i.nar v.x),0) else (nval (swapF i.size (i.op != 17) v.x),0)
def partD (s:Mst) (i:Ins):Did:=setOr s i.dst (partV i (s.reg (if i.op = 16 then i.src else i.dst)))
def constD (s:Mst) (i:Ins):Did:=setOr s i.dst (if i.op = 21 then ⟨4,0,0,i.imm⟩ else nval i.imm,0)
def lenF (fx:Mfix) (s:Mst) (v:Val):Int:=if v.k = 2 then 256 else if v.k = 3 then s.ctx.length else if v.k = 4 then fx.data.length else (fx.tabs.getD v.t.toNat (0,0)).2
def withinF (fx:Mfix) (s:Mst) (v:Val) (at' n:Int):Bool:=decide (0 <= at') && decide (at' + n <= lenF fx s v)
def slotF (sl:List Slot) (i:Nat):Slot:=sl.getD (i / 8) noslot
def bitF (m:Int) (j:Nat):Bool:=m.toNat / 2 ^ j % 2 == 1
def readyF (sl:List Slot) (at' n:Nat):Int:=
 if (List.range n).any (fun i=>(slotF sl (at' + i)).p.k != 0) then 80
 else if (List.range n).any (fun i=>!bitF (slotF sl (at' + i)).m ((at' + i) % 8)) then 82 else 0
def readableF (s:Mst) (v:Val) (at':Int) (n:Int):Int:=if v.k ≠ 2 then 0 else readyF s.sl at'.toNat n.toNat
def rowOf (s:Mst) (v:Val):List Int:=s.rows.getD v.t.toNat []
def fromF (fx:Mfix) (v:Val) (at':Int):Nat:=(v.o * (fx.tabs.getD v.t.toNat (0,0)).2 + at').toNat
def stackF (sl:List Slot) (at' n:Nat):List Int:=(List.range n).map fun i=>(slotF sl (at' + i)).b.getD ((at' + i) % 8) 0
def readF (fx:Mfix) (s:Mst) (v:Val) (at' n:Int):List Int:=
 if v.k = 2 then stackF s.sl at'.toNat n.toNat
 else if v.k = 3 then (s.ctx.drop at'.toNat).take n.toNat
 else if v.k = 4 then (fx.data.drop at'.toNat).take n.toNat
 else ((rowOf s v).drop (fromF fx v at')).take n.toNat
def overF (xs:List Int) (at':Nat) (b:List Int):List Int:=xs.take at' ++ b ++ xs.drop (at' + b.length)
def wr1 (sl:List Slot) (i:Nat) (c:Int):List Slot:=
 let x:=slotF sl i
 let y:=if x.p.k ≠ 0 then noslot else x
 sl.set (i / 8) ⟨y.p,y.b.set (i % 8) c,if bitF y.m (i % 8) then y.m else y.m + 2 ^ (i % 8)⟩
def wrF (sl:List Slot) (at':Nat):List Int->List Slot
 | []=>sl
 | c :: b=>wrF (wr1 sl at' c) (at' + 1) b
def writeF (fx:Mfix) (s:Mst) (v:Val) (at':Int) (b:List Int):Mst:=
 if v.k = 2 then { s with sl:=wrF s.sl at'.toNat b }
 else if v.k = 3 then { s with ctx:=overF s.ctx at'.toNat b }
 else { s with rows:=s.rows.set v.t.toNat (overF (rowOf s v) (fromF fx v at') b) }
def trapD (s:Mst) (er:Int):Did:=⟨0,er,s⟩
def loadD (fx:Mfix) (s:Mst) (i:Ins):Did:=
 let v:=s.reg i.src
 if v.k < 2 then trapD s 80
 else if withinF fx s v (v.x + i.off) i.size = false then trapD s 81
 else if v.k = 2/\i.op = 22/\i.size = 8/\(v.x + i.off) % 8 = 0/\2 <= (slotF s.sl (v.x + i.off).toNat).p.k then ⟨0,0,s.setr i.dst (slotF s.sl (v.x + i.off).toNat).p⟩
 else setOr s i.dst (nval (getv (i.op == 23) (readF fx s v (v.x + i.off) i.size)),readableF s v (v.x + i.off) i.size)
def storeD (fx:Mfix) (s:Mst) (i:Ins):Did:=
 let v:=s.reg i.dst
 let b:=s.sec i
 if v.k < 2\/b.k = 0 then trapD s 80
 else if v.k = 4 then trapD s 83
 else if withinF fx s v (v.x + i.off) i.size = false then trapD s 81
 else if b.k = 1 then ⟨0,0,writeF fx s v (v.x + i.off) (putl i.size.toNat b.x)⟩
 else if v.k ≠ 2\/i.size ≠ 8\/(v.x + i.off) % 8 ≠ 0 then trapD s 86
 else ⟨0,0,{ s with sl:=s.sl.set ((v.x + i.off).toNat / 8) ⟨b,[0,0,0,0,0,0,0,0],0⟩ }⟩
def mixedF (s:Mst) (i:Ins) (old:Int):Int:=
 let src:=(s.reg i.src).x
 let r0:=if i.size = 4 then (s.reg 0).x % 4294967296 else (s.reg 0).x
 if i.imm = 0\/i.imm = 1 then wrap64 (old + src)
 else if i.imm = 64\/i.imm = 65 then (aluF 8 false old src).1
 else if i.imm = 80\/i.imm = 81 then (aluF 9 false old src).1
 else if i.imm = 160\/i.imm = 161 then (aluF 10 false old src).1
 else if i.imm = 241/\old ≠ r0 then old else src
def atomD (fx:Mfix) (s:Mst) (i:Ins):Did:=
 let v:=s.reg i.dst
 let old:=getv false (readF fx s v (v.x + i.off) i.size)
 let s1:=writeF fx s v (v.x + i.off) (putl i.size.toNat (mixedF s i old))
 if v.k < 2\/(s.reg i.src).k ≠ 1\/(i.imm = 241/\(s.reg 0).k ≠ 1) then trapD s 80
 else if v.k = 4 then trapD s 83
 else if withinF fx s v (v.x + i.off) i.size = false then trapD s 81
 else if readableF s v (v.x + i.off) i.size ≠ 0 then trapD s (readableF s v (v.x + i.off) i.size)
 else ⟨0,0,if i.imm = 241 then s1.setr 0 (nval old) else if i.imm % 2 = 1 then s1.setr i.src (nval old) else s1⟩
def leapD (s:Mst) (i:Ins):Did:=⟨if i.nar then i.imm else i.off,0,s⟩
def branchV (i:Ins) (a b:Val):Bool × Int:=
 if a.k = 1/\b.k = 1 then (holdF i.op i.nar a.x b.x,0)
 else if i.nar = true\/a.k = 0\/b.k = 0 then (false,80)
 else if alikeF a b = true/\i.op ≠ 37 then (holdF (if 29 <= i.op/\i.op <= 32 then i.op + 4 else i.op) false a.x b.x,0)
 else if a.k = 5/\i.reg = false/\i.imm = 0/\(i.op = 27\/i.op = 28) then (i.op == 28,0)
 else (false,80)
def branchD (s:Mst) (i:Ins):Did:=
 ⟨if (branchV i (s.reg i.dst) (s.sec i)).2 = 0/\(branchV i (s.reg i.dst) (s.sec i)).1 = true then i.off else 0,(branchV i (s.reg i.dst) (s.sec i)).2,s⟩
def leaveD (s:Mst):Did:=if (s.reg 0).k = 1 then ⟨0,0,{ s with done:=true }⟩ else trapD s 86
def pieceF (fx:Mfix) (s:Mst) (v:Val) (n:Int) (write:Bool):Bool:=
 decide (2 <= v.k) && withinF fx s v v.x n && (if write then v.k != 4 else readableF s v v.x n == 0)
def lensF (v:Val):Bool:=v.k == 1 && decide (0 <= v.x) && decide (v.x <= 65535)
def askedF (fx:Mfix) (s:Mst) (id:Int):Bool:=
 if id = 1\/id = 5 then lensF (s.reg 2) && (s.reg 3).k == 1 && pieceF fx s (s.reg 1) (s.reg 2).x false
 else if id = 2 then lensF (s.reg 3) && pieceF fx s (s.reg 1) (s.reg 3).x true && pieceF fx s (s.reg 2) (s.reg 3).x false
 else if id = 3 then (s.reg 2).k == 1 && lensF (s.reg 3) && pieceF fx s (s.reg 1) (s.reg 3).x true
 else if id = 4 then lensF (s.reg 3) && pieceF fx s (s.reg 1) (s.reg 3).x false && pieceF fx s (s.reg 2) (s.reg 3).x false
 else if id = 6 then (s.reg 1).k == 1
 else (s.reg 1).k == 1 && (s.reg 2).k == 1
def bytesF (fx:Mfix) (s:Mst) (r n:Int):List Int:=readF fx s (s.reg r) (s.reg r).x (s.reg n).x
def endF (s:Mst) (v:Val):Mst:={ s with rg:=v :: (List.replicate 5 noval ++ s.rg.drop 6) }
def callD (fx:Mfix) (s:Mst) (i:Ins):Did:=
 if i.imm < 1\/8 < i.imm then trapD s 87
 else if askedF fx s i.imm = false then trapD s 87
 else if i.imm = 1 then ⟨0,0,endF s (nval (sumv (bytesF fx s 1 2) (s.reg 3).x))⟩
 else if i.imm = 2 then ⟨0,0,endF (writeF fx s (s.reg 1) (s.reg 1).x (bytesF fx s 2 3)) (nval 0)⟩
 else if i.imm = 3 then ⟨0,0,endF (writeF fx s (s.reg 1) (s.reg 1).x (List.replicate (s.reg 3).x.toNat ((s.reg 2).x % 256))) (nval 0)⟩
 else if i.imm = 4 then ⟨0,0,endF s (nval (cmpv (bytesF fx s 1 3) (bytesF fx s 2 3)))⟩
 else if i.imm = 5 then ⟨0,0,endF s (nval (findv (bytesF fx s 1 2) ((s.reg 3).x % 256)))⟩
 else if i.imm = 6 then (if 64 <= s.sent.length then ⟨0,0,endF s (nval (-1))⟩ else ⟨0,0,endF { s with sent:=s.sent ++ [(s.reg 1).x] } (nval 0)⟩)
 else if i.imm = 7 then
  (if (s.reg 1).x < 0\/(fx.tabs.length:Int) <= (s.reg 1).x then trapD s 87
   else ⟨0,0,endF s (if 0 <= (s.reg 2).x/\(s.reg 2).x < (fx.tabs.getD (s.reg 1).x.toNat (0,0)).1 then ⟨5,(s.reg 1).x,(s.reg 2).x,0⟩ else nval 0)⟩)
 else ⟨0,0,endF s (nval (wrap64 ((mixv (un (s.reg 1).x) (un (s.reg 2).x):Nat):Int)))⟩
def doF (fx:Mfix) (s:Mst) (i:Ins):Did:=
 if i.op <= 15 then arithD s i else if i.op <= 19 then partD s i else if i.op <= 21 then constD s i else if i.op <= 23 then loadD fx s i else if i.op = 24 then storeD fx s i
 else if i.op = 25 then atomD fx s i else if i.op = 26 then leapD s i else if i.op <= 37 then branchD s i else if i.op = 38 then callD fx s i else leaveD s
def whereF (code:List Ins) (u:Int):Option Nat:=(List.range code.length).find? fun j=>(unitAt code j:Int) == u
def stepF (fx:Mfix) (s:Mst):Int × Mst:=
 if s.done then (4,s) else
 let i:=fx.code.getD s.at' ⟨0,false,false,0,0,0,0,0⟩
 let r:=doF fx s i
 if r.er ≠ 0 then (r.er,s)
 else if i.op = 39 then (0,{ r.s with steps:=r.s.steps + 1 })
 else match whereF fx.code ((unitAt fx.code (s.at' + 1):Int) + r.by') with
  | some j=>(0,{ r.s with at':=j,steps:=r.s.steps + 1 })
  | none=>(89,s)
end Go.Proofs.YtdepknffpnnmmaaGreat

import Derived.Test.YtjacnhnaoenelaaGreatQJ3a
namespace Go.Proofs.YtjacnhnaoenelaaGreat
open Go.RowKit
set_option linter.unusedVariables false
set_option linter.unusedSimpArgs false
def Mst.reg (s:Mst) (d:Int):Val:=(s.rg[d.toNat]?).getD I4
def Mst.Hw (s:Mst) (d:Int) (v:Val):Mst:={ s with rg:=s.rg.set d.toNat v }
def Mst.sec (s:Mst) (i:Ins):Val:=if i.reg then s.reg i.src else nval i.Aa
def Qv (v:Val) (n:Int):Val × Int:=
 if n < -2097152\/2097152 < n\/v.x + n < -1048576\/1048576 < v.x + n then (v,85) else (⟨v.k,v.t,v.o,v.x + n⟩,0)
def Ii (a b:Val):Bool:=a.k == b.k && decide (2 <= a.k) && decide (a.k <= 4)
def sumF (op:Int) (a b:Val):Val × Int:=
 if op = 1/\2 <= a.k/\b.k = 1 then Qv a b.x
 else if op = 1/\a.k = 1/\2 <= b.k then Qv b a.x
 else if op = 2/\2 <= a.k/\b.k = 1 then (if b.x < -2097152 then (a,85) else Qv a (-b.x))
 else if op = 2/\Ii a b = true then (nval (a.x - b.x),0)
 else (a,80)
def O7 (op:Int) (Ad:Bool) (a b:Val):Val × Int:=
 if op = 15/\Ad = false/\b.k ≠ 0 then (b,0)
 else if (if op = 15 then 1 else a.k) = 1/\(if op = 14 then 1 else b.k) = 1 then
  (nval (Sz op Ad (if op = 15 then 0 else a.x) (if op = 14 then 0 else b.x)).1,(Sz op Ad (if op = 15 then 0 else a.x) (if op = 14 then 0 else b.x)).2)
 else if Ad = true\/(if op = 15 then 1 else a.k) = 0\/(if op = 14 then 1 else b.k) = 0 then (a,80)
 else sumF op (if op = 15 then nval 0 else a) (if op = 14 then nval 0 else b)
structure Did where
 by':Int
 er:Int
 s:Mst
def N7 (s:Mst) (d:Int) (r:Val × Int):Did:=⟨0,r.2,if r.2 = 0 then s.Hw d r.1 else s⟩
def mg (s:Mst) (i:Ins):Did:=N7 s i.dst (O7 i.op i.Ad (s.reg i.dst) (s.sec i))
def Zg (i:Ins) (v:Val):Val × Int:=
 if v.k ≠ 1 then (v,80) else if i.op = 16 then (nval (Aca i.size i.Ad v.x),0) else (nval (Il i.size (i.op != 17) v.x),0)
def Px (s:Mst) (i:Ins):Did:=N7 s i.dst (Zg i (s.reg (if i.op = 16 then i.src else i.dst)))
def Ti (s:Mst) (i:Ins):Did:=N7 s i.dst (if i.op = 21 then ⟨4,0,0,i.Aa⟩ else nval i.Aa,0)
def Xc (fx:Ak) (s:Mst) (v:Val):Int:=if v.k = 2 then 256 else if v.k = 3 then s.ctx.length else if v.k = 4 then fx.data.length else (fx.tabs.getD v.t.toNat (0,0)).2
def Dh (fx:Ak) (s:Mst) (v:Val) (at' n:Int):Bool:=decide (0 <= at') && decide (at' + n <= Xc fx s v)
def F6 (sl:List Slot) (i:Nat):Slot:=sl.getD (i / 8) Cc
def Aci (m:Int) (j:Nat):Bool:=m.toNat / 2 ^ j % 2 == 1
def ng (sl:List Slot) (at' n:Nat):Int:=
 if (List.range n).any (fun i=>(F6 sl (at' + i)).p.k != 0) then 80
 else if (List.range n).any (fun i=>!Aci (F6 sl (at' + i)).m ((at' + i) % 8)) then 82 else 0
def Gs (s:Mst) (v:Val) (at':Int) (n:Int):Int:=if v.k ≠ 2 then 0 else ng s.sl at'.toNat n.toNat
def rowOf (s:Mst) (v:Val):List Int:=s.rows.getD v.t.toNat []
def Zh (fx:Ak) (v:Val) (at':Int):Nat:=(v.o * (fx.tabs.getD v.t.toNat (0,0)).2 + at').toNat
def Qw (sl:List Slot) (at' n:Nat):List Int:=(List.range n).map fun i=>(F6 sl (at' + i)).b.getD ((at' + i) % 8) 0
def D7 (fx:Ak) (s:Mst) (v:Val) (at' n:Int):List Int:=
 if v.k = 2 then Qw s.sl at'.toNat n.toNat
 else if v.k = 3 then (s.ctx.drop at'.toNat).take n.toNat
 else if v.k = 4 then (fx.data.drop at'.toNat).take n.toNat
 else ((rowOf s v).drop (Zh fx v at')).take n.toNat
def Jp (xs:List Int) (at':Nat) (b:List Int):List Int:=xs.take at' ++ b ++ xs.drop (at' + b.length)
def wr1 (sl:List Slot) (i:Nat) (c:Int):List Slot:=
 let x:=F6 sl i
 let y:=if x.p.k ≠ 0 then Cc else x
 sl.set (i / 8) ⟨y.p,y.b.set (i % 8) c,if Aci y.m (i % 8) then y.m else y.m + 2 ^ (i % 8)⟩
def wrF (sl:List Slot) (at':Nat):List Int->List Slot
 | []=>sl
 | c :: b=>wrF (wr1 sl at' c) (at' + 1) b
def Gn (fx:Ak) (s:Mst) (v:Val) (at':Int) (b:List Int):Mst:=
 if v.k = 2 then { s with sl:=wrF s.sl at'.toNat b }
 else if v.k = 3 then { s with ctx:=Jp s.ctx at'.toNat b }
 else { s with rows:=s.rows.set v.t.toNat (Jp (rowOf s v) (Zh fx v at') b) }
def Jq (s:Mst) (er:Int):Did:=⟨0,er,s⟩
def Jz (fx:Ak) (s:Mst) (i:Ins):Did:=
 let v:=s.reg i.src
 if v.k < 2 then Jq s 80
 else if Dh fx s v (v.x + i.off) i.size = false then Jq s 81
 else if v.k = 2/\i.op = 22/\i.size = 8/\(v.x + i.off) % 8 = 0/\2 <= (F6 s.sl (v.x + i.off).toNat).p.k then ⟨0,0,s.Hw i.dst (F6 s.sl (v.x + i.off).toNat).p⟩
 else N7 s i.dst (nval (Vl (i.op == 23) (D7 fx s v (v.x + i.off) i.size)),Gs s v (v.x + i.off) i.size)
def Iy (fx:Ak) (s:Mst) (i:Ins):Did:=
 let v:=s.reg i.dst
 let b:=s.sec i
 if v.k < 2\/b.k = 0 then Jq s 80
 else if v.k = 4 then Jq s 83
 else if Dh fx s v (v.x + i.off) i.size = false then Jq s 81
 else if b.k = 1 then ⟨0,0,Gn fx s v (v.x + i.off) (Wq i.size.toNat b.x)⟩
 else if v.k ≠ 2\/i.size ≠ 8\/(v.x + i.off) % 8 ≠ 0 then Jq s 86
 else ⟨0,0,{ s with sl:=s.sl.set ((v.x + i.off).toNat / 8) ⟨b,[0,0,0,0,0,0,0,0],0⟩ }⟩
def Yl (s:Mst) (i:Ins) (old:Int):Int:=
 let src:=(s.reg i.src).x
 let r0:=if i.size = 4 then (s.reg 0).x % 4294967296 else (s.reg 0).x
 if i.Aa = 0\/i.Aa = 1 then wrap64 (old + src)
 else if i.Aa = 64\/i.Aa = 65 then (Sz 8 false old src).1
 else if i.Aa = 80\/i.Aa = 81 then (Sz 9 false old src).1
 else if i.Aa = 160\/i.Aa = 161 then (Sz 10 false old src).1
 else if i.Aa = 241/\old ≠ r0 then old else src
def Mc (fx:Ak) (s:Mst) (i:Ins):Did:=
 let v:=s.reg i.dst
 let old:=Vl false (D7 fx s v (v.x + i.off) i.size)
 let s1:=Gn fx s v (v.x + i.off) (Wq i.size.toNat (Yl s i old))
 if v.k < 2\/(s.reg i.src).k ≠ 1\/(i.Aa = 241/\(s.reg 0).k ≠ 1) then Jq s 80
 else if v.k = 4 then Jq s 83
 else if Dh fx s v (v.x + i.off) i.size = false then Jq s 81
 else if Gs s v (v.x + i.off) i.size ≠ 0 then Jq s (Gs s v (v.x + i.off) i.size)
 else ⟨0,0,if i.Aa = 241 then s1.Hw 0 (nval old) else if i.Aa % 2 = 1 then s1.Hw i.src (nval old) else s1⟩
def Aex (s:Mst) (i:Ins):Did:=⟨if i.Ad then i.Aa else i.off,0,s⟩
def Qx (i:Ins) (a b:Val):Bool × Int:=
 if a.k = 1/\b.k = 1 then (jm i.op i.Ad a.x b.x,0)
 else if i.Ad = true\/a.k = 0\/b.k = 0 then (false,80)
 else if Ii a b = true/\i.op ≠ 37 then (jm (if 29 <= i.op/\i.op <= 32 then i.op + 4 else i.op) false a.x b.x,0)
 else if a.k = 5/\i.reg = false/\i.Aa = 0/\(i.op = 27\/i.op = 28) then (i.op == 28,0)
 else (false,80)
def Ux (s:Mst) (i:Ins):Did:=
 ⟨if (Qx i (s.reg i.dst) (s.sec i)).2 = 0/\(Qx i (s.reg i.dst) (s.sec i)).1 = true then i.off else 0,(Qx i (s.reg i.dst) (s.sec i)).2,s⟩
def leaveD (s:Mst):Did:=if (s.reg 0).k = 1 then ⟨0,0,{ s with done:=true }⟩ else Jq s 86
def Jr (fx:Ak) (s:Mst) (v:Val) (n:Int) (write:Bool):Bool:=
 decide (2 <= v.k) && Dh fx s v v.x n && (if write then v.k != 4 else Gs s v v.x n == 0)
def Xd (v:Val):Bool:=v.k == 1 && decide (0 <= v.x) && decide (v.x <= 65535)
def Hq (fx:Ak) (s:Mst) (id:Int):Bool:=
 if id = 1\/id = 5 then Xd (s.reg 2) && (s.reg 3).k == 1 && Jr fx s (s.reg 1) (s.reg 2).x false
 else if id = 2 then Xd (s.reg 3) && Jr fx s (s.reg 1) (s.reg 3).x true && Jr fx s (s.reg 2) (s.reg 3).x false
 else if id = 3 then (s.reg 2).k == 1 && Xd (s.reg 3) && Jr fx s (s.reg 1) (s.reg 3).x true
 else if id = 4 then Xd (s.reg 3) && Jr fx s (s.reg 1) (s.reg 3).x false && Jr fx s (s.reg 2) (s.reg 3).x false
 else if id = 6 then (s.reg 1).k == 1
 else (s.reg 1).k == 1 && (s.reg 2).k == 1
def N8 (fx:Ak) (s:Mst) (r n:Int):List Int:=D7 fx s (s.reg r) (s.reg r).x (s.reg n).x
def O8 (s:Mst) (v:Val):Mst:={ s with rg:=v :: (List.replicate 5 I4 ++ s.rg.drop 6) }
def J3 (fx:Ak) (s:Mst) (i:Ins):Did:=
 if i.Aa < 1\/8 < i.Aa then Jq s 87
 else if Hq fx s i.Aa = false then Jq s 87
 else if i.Aa = 1 then ⟨0,0,O8 s (nval (Ao4 (N8 fx s 1 2) (s.reg 3).x))⟩
 else if i.Aa = 2 then ⟨0,0,O8 (Gn fx s (s.reg 1) (s.reg 1).x (N8 fx s 2 3)) (nval 0)⟩
 else if i.Aa = 3 then ⟨0,0,O8 (Gn fx s (s.reg 1) (s.reg 1).x (List.replicate (s.reg 3).x.toNat ((s.reg 2).x % 256))) (nval 0)⟩
 else if i.Aa = 4 then ⟨0,0,O8 s (nval (X6 (N8 fx s 1 3) (N8 fx s 2 3)))⟩
 else if i.Aa = 5 then ⟨0,0,O8 s (nval (Lr (N8 fx s 1 2) ((s.reg 3).x % 256)))⟩
 else if i.Aa = 6 then (if 64 <= s.sent.length then ⟨0,0,O8 s (nval (-1))⟩ else ⟨0,0,O8 { s with sent:=s.sent ++ [(s.reg 1).x] } (nval 0)⟩)
 else if i.Aa = 7 then
  (if (s.reg 1).x < 0\/(fx.tabs.length:Int) <= (s.reg 1).x then Jq s 87
   else ⟨0,0,O8 s (if 0 <= (s.reg 2).x/\(s.reg 2).x < (fx.tabs.getD (s.reg 1).x.toNat (0,0)).1 then ⟨5,(s.reg 1).x,(s.reg 2).x,0⟩ else nval 0)⟩)
 else ⟨0,0,O8 s (nval (wrap64 ((Avx (un (s.reg 1).x) (un (s.reg 2).x):Nat):Int)))⟩
def Ij (fx:Ak) (s:Mst) (i:Ins):Did:=
 if i.op <= 15 then mg s i else if i.op <= 19 then Px s i else if i.op <= 21 then Ti s i else if i.op <= 23 then Jz fx s i else if i.op = 24 then Iy fx s i
 else if i.op = 25 then Mc fx s i else if i.op = 26 then Aex s i else if i.op <= 37 then Ux s i else if i.op = 38 then J3 fx s i else leaveD s
def Tj (code:List Ins) (u:Int):Option Nat:=(List.range code.length).find? fun j=>(Bl code j:Int) == u
def Fq (fx:Ak) (s:Mst):Int × Mst:=
 if s.done then (4,s) else
 let i:=fx.code.getD s.at' ⟨0,false,false,0,0,0,0,0⟩
 let r:=Ij fx s i
 if r.er ≠ 0 then (r.er,s)
 else if i.op = 39 then (0,{ r.s with steps:=r.s.steps + 1 })
 else match Tj fx.code ((Bl fx.code (s.at' + 1):Int) + r.by') with
  | some j=>(0,{ r.s with at':=j,steps:=r.s.steps + 1 })
  | none=>(89,s)
end Go.Proofs.YtjacnhnaoenelaaGreat

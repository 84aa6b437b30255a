import Derived.Test.YtjacnhnaoenelaaGreatQJ3a
import Derived.ScopeJumps
import Derived.WalkMore
set_option maxRecDepth 100000
set_option maxHeartbeats 4000000
namespace Go.Proofs.YtjacnhnaoenelaaGreat
open Lib (hid)
open Go.Proofs.Tryz
open Go.RowKit
set_option linter.unusedVariables false
set_option linter.unusedSimpArgs false
def D8 (op:Int):FuncId:=
 if op <= 15 then 52 else if op <= 19 then 53 else if op <= 21 then 54 else if op <= 23 then 55 else if op = 24 then 56
 else if op = 25 then 57 else if op = 26 then 58 else if op <= 37 then 59 else if op = 38 then 60 else 61
def l9 (bx:Nat) (w:World) (F:FuncId):Ending->World->Prop:=fun e w'=>e = .returned (.func (Fn.func F) #[.pointer (some ⟨bx,0,none⟩)] #[])/\w' = w
theorem Aku (op:Int) (bx:Nat) (w:World):Calls prog 42 #[.pointer (some ⟨bx,0,none⟩),.int .i64 op] w (l9 bx w (D8 op)):=by
 unfold D8
 split
 ·rename_i h1;have h1:=decide_eq_true h1;go_enter func42,ntmps42;go_wp2;exact bodyPost_ret (v:=.func (Fn.func 52) #[.pointer (some ⟨bx,0,none⟩)] #[]) (by simp [results,results42,go_sem]) rfl ⟨rfl,rfl⟩
 rename_i h1;have h1:=decide_eq_false h1
 split
 ·rename_i h2;have h2:=decide_eq_true h2;go_enter func42,ntmps42;go_wp2;exact bodyPost_ret (v:=.func (Fn.func 53) #[.pointer (some ⟨bx,0,none⟩)] #[]) (by simp [results,results42,go_sem]) rfl ⟨rfl,rfl⟩
 rename_i h2;have h2:=decide_eq_false h2
 split
 ·rename_i h3;have h3:=decide_eq_true h3;go_enter func42,ntmps42;go_wp2;exact bodyPost_ret (v:=.func (Fn.func 54) #[.pointer (some ⟨bx,0,none⟩)] #[]) (by simp [results,results42,go_sem]) rfl ⟨rfl,rfl⟩
 rename_i h3;have h3:=decide_eq_false h3
 split
 ·rename_i h4;have h4:=decide_eq_true h4;go_enter func42,ntmps42;go_wp2;exact bodyPost_ret (v:=.func (Fn.func 55) #[.pointer (some ⟨bx,0,none⟩)] #[]) (by simp [results,results42,go_sem]) rfl ⟨rfl,rfl⟩
 rename_i h4;have h4:=decide_eq_false h4
 split
 ·rename_i h5;subst h5;go_enter func42,ntmps42;go_wp2;exact bodyPost_ret (v:=.func (Fn.func 56) #[.pointer (some ⟨bx,0,none⟩)] #[]) (by simp [results,results42,go_sem]) rfl ⟨rfl,rfl⟩
 rename_i h5;have h5:(op == 24) = false:=by simpa using h5
 split
 ·rename_i h6;subst h6;go_enter func42,ntmps42;go_wp2;exact bodyPost_ret (v:=.func (Fn.func 57) #[.pointer (some ⟨bx,0,none⟩)] #[]) (by simp [results,results42,go_sem]) rfl ⟨rfl,rfl⟩
 rename_i h6;have h6:(op == 25) = false:=by simpa using h6
 split
 ·rename_i h7;subst h7;go_enter func42,ntmps42;go_wp2;exact bodyPost_ret (v:=.func (Fn.func 58) #[.pointer (some ⟨bx,0,none⟩)] #[]) (by simp [results,results42,go_sem]) rfl ⟨rfl,rfl⟩
 rename_i h7;have h7:(op == 26) = false:=by simpa using h7
 split
 ·rename_i h8;have h8:=decide_eq_true h8;go_enter func42,ntmps42;go_wp2;exact bodyPost_ret (v:=.func (Fn.func 59) #[.pointer (some ⟨bx,0,none⟩)] #[]) (by simp [results,results42,go_sem]) rfl ⟨rfl,rfl⟩
 rename_i h8;have h8:=decide_eq_false h8
 split
 ·rename_i h9;subst h9;go_enter func42,ntmps42;go_wp2;exact bodyPost_ret (v:=.func (Fn.func 60) #[.pointer (some ⟨bx,0,none⟩)] #[]) (by simp [results,results42,go_sem]) rfl ⟨rfl,rfl⟩
 ·rename_i h9;have h9:(op == 38) = false:=by simpa using h9
  go_enter func42,ntmps42;go_wp2;exact bodyPost_ret (v:=.func (Fn.func 61) #[.pointer (some ⟨bx,0,none⟩)] #[]) (by simp [results,results42,go_sem]) rfl ⟨rfl,rfl⟩
theorem Akv (u:Int):∀ (l:List MapEntry) (i j:Nat) (e:MapEntry),l[j]? = some e->e.key = .int .i64 u->(∀ k < j,∀ e',l[k]? = some e'->∃ x:Int,e'.key = .int .i64 x/\x ≠ u)->Instr.findNow (.int .i64) (.int .i64 u) l i = some (some (i + j,e.val))
 | [],_,_,_,h,_,_=>by simp at h
 | e0 :: l, i, 0, e, h, hk, _ => by
   simp at h;subst h
   have hq:Instr.sameNow (.int .i64) (.int .i64 u) e0.key = some true:=by
    rw [hk];show (if IntKind.i64 = IntKind.i64 then some (u == u) else none) = _;simp
   show (match Instr.sameNow (.int .i64) (.int .i64 u) e0.key with
    | some true=>some (some (i,e0.val))
    | some false=>Instr.findNow (.int .i64) (.int .i64 u) l (i + 1)
    | none=>none) = _
   rw [hq];rfl
 | e0 :: l, i, j + 1, e, h, hk, hn => by
   obtain ⟨x,hx,hne⟩:=hn 0 (by omega) e0 rfl
   have hq:Instr.sameNow (.int .i64) (.int .i64 u) e0.key = some false:=by
    rw [hx];show (if IntKind.i64 = IntKind.i64 then some (u == x) else none) = _;rw [if_pos rfl];have:(u == x) = false:=by simp;exact fun hc=>hne hc.symm
    rw [this]
   show (match Instr.sameNow (.int .i64) (.int .i64 u) e0.key with
    | some true=>some (some (i,e0.val))
    | some false=>Instr.findNow (.int .i64) (.int .i64 u) l (i + 1)
    | none=>none) = _
   rw [hq];have:=Akv u l (i + 1) j e (by simpa using h) hk (fun k hk' e' he'=>hn (k + 1) (by omega) e' (by simpa using he'));rw [this,show i + 1 + j = i + (j + 1) by omega]
theorem Aaz (code:List Ins) (n k:Nat) (h:k < n):(Le code n).toList[k]? = some { key:=.int .i64 (Bl code k:Nat),val:=.int .i64 (k:Nat),born:=k }:=by
 simp [Le,h]
theorem Aie (code:List Ins) (n k:Nat) (h:k < n):Instr.findNow (.int .i64) (.int .i64 (Bl code k:Nat)) (Le code n).toList 0 = some (some (k,.int .i64 (k:Nat))):=by
 have:=Akv (Bl code k:Nat) (Le code n).toList 0 k _ (Aaz code n k h) rfl (fun j hj e' he'=>by
  rw [Aaz code n j (by omega)] at he'
  cases he'
  exact ⟨_,rfl,by have:=Uw code j k hj;omega⟩)
 rw [Nat.zero_add] at this;exact this
theorem Acg (code:List Ins) (n:Nat) (u:Int) (h:∀ k < n,(Bl code k:Int) ≠ u):Instr.findNow (.int .i64) (.int .i64 u) (Le code n).toList 0 = some none:=by
 apply Yk
 intro e he;simp only [Le,List.mem_map,List.mem_range] at he;obtain ⟨k,hk,rfl⟩:=he;exact ⟨_,rfl,h k hk⟩
def Wx (fx:Ak) (s:Mst) (er:Int) (s1:Mst):Prop:=
 ∀ (base : Nat) (w0 : World) (bx : Nat) (v : Bc) (w : World), MS base w0 fx s bx v w → Calls prog 16 #[.pointer (some ⟨bx, 0, none⟩)] w fun e w' =>
   e = .returned (.int .i64 er)/\∃ v',MS base w0 fx s1 bx v' w'/\Jd v.ρ w w'/\∀ k,k < w.heap.size->v'.ρ k = v.ρ k
structure SU (base:Nat) (w0:World) (fx:Ak) (s:Mst) (bx:Nat) (v:Bc) (ib:Nat) (i:Ins) (w:World) (w1:World):Prop where
 ms:MS base w0 fx s bx v w1
 ins:Row w1 ib 70 i.cs
 role:v.ρ ib = 9
 size:w.heap.size <= w1.heap.size
 old:∀ k,k < w.heap.size->w1.heap[k]? = w.heap[k]?
theorem SU.next {base:Nat} {w0:World} {fx:Ak} {s:Mst} {bx:Nat} {v:Bc} {ib:Nat} {i:Ins} {w w1 w2:World} (h:SU base w0 fx s bx v ib i w w1) (hb:Below w1.heap.size w1 w2):SU base w0 fx s bx v ib i w w2:=
 ⟨h.ms.next hb,h.ins.below hb h.ins.lt,h.role,Nat.le_trans h.size hb.size,fun k hk=>(hb.block k (Nat.lt_of_lt_of_le hk h.size)).trans (h.old k hk)⟩
theorem SU.cells {base:Nat} {w0:World} {fx:Ak} {s:Mst} {bx:Nat} {v:Bc} {ib:Nat} {i:Ins} {w w1:World} (h:SU base w0 fx s bx v ib i w w1):w1.cell? ⟨ib,0,none⟩ = some (.int .i64 i.op)/\w1.cell? ⟨ib,1,none⟩ = some (.bool i.Ad)/\w1.cell? ⟨ib,2,none⟩ = some (.bool i.reg)/\w1.cell? ⟨ib,3,none⟩ = some (.int .i64 i.size) /\
 w1.cell? ⟨ib,4,none⟩ = some (.int .i64 i.dst)/\w1.cell? ⟨ib,5,none⟩ = some (.int .i64 i.src)/\w1.cell? ⟨ib,6,none⟩ = some (.int .i64 i.off)/\w1.cell? ⟨ib,7,none⟩ = some (.int .i64 i.Aa):=
 ⟨by rw [h.ins.cell];rfl,by rw [h.ins.cell];rfl,by rw [h.ins.cell];rfl,by rw [h.ins.cell];rfl,by rw [h.ins.cell];rfl,by rw [h.ins.cell];rfl,by rw [h.ins.cell];rfl,by rw [h.ins.cell];rfl⟩
theorem s9 {w1:World} {ib:Nat} {op:Int} {Ad reg:Bool} {size dst src off Aa:Int} (h:Row w1 ib 70 (Ed op Ad reg size dst src off Aa)):w1.cell? ⟨ib,0,none⟩ = some (.int .i64 op)/\w1.cell? ⟨ib,1,none⟩ = some (.bool Ad)/\w1.cell? ⟨ib,2,none⟩ = some (.bool reg)/\w1.cell? ⟨ib,3,none⟩ = some (.int .i64 size)/\w1.cell? ⟨ib,4,none⟩ = some (.int .i64 dst)/\w1.cell? ⟨ib,5,none⟩ = some (.int .i64 src)/\w1.cell? ⟨ib,6,none⟩ = some (.int .i64 off)/\w1.cell? ⟨ib,7,none⟩ = some (.int .i64 Aa)/\Row w1 ib 70 (Ed op Ad reg size dst src off Aa):=
 ⟨by rw [h.cell];rfl,by rw [h.cell];rfl,by rw [h.cell];rfl,by rw [h.cell];rfl,by rw [h.cell];rfl,by rw [h.cell];rfl,by rw [h.cell];rfl,by rw [h.cell];rfl,h⟩
theorem SU.fr {base:Nat} {w0:World} {fx:Ak} {s:Mst} {bx:Nat} {v:Bc} {ib:Nat} {i:Ins} {w w1 w2:World} (h:SU base w0 fx s bx v ib i w w1) (hf:Jd v.ρ w1 w2):Row w2 ib 70 i.cs:=
 (hf ib h.ins.lt (Ny h.role)).trans h.ins
theorem Aer (op:Int):D8 op = 52\/D8 op = 53\/D8 op = 54\/D8 op = 55\/D8 op = 56\/D8 op = 57\/D8 op = 58\/D8 op = 59\/D8 op = 60\/D8 op = 61:=by
 unfold D8
 repeat' split
 all_goals simp
theorem SU.fr9 {base:Nat} {w0:World} {fx:Ak} {s:Mst} {bx:Nat} {v:Bc} {i:Ins} {w w1 w2:World} (h:SU base w0 fx s bx { v with ρ:=Aj v.ρ w.heap.size 9 } w.heap.size i w w1)
 (hf:Jd (Aj v.ρ w.heap.size 9) w1 w2):Jd v.ρ w w2:=fun k hk hr=>(hf k (Nat.lt_of_lt_of_le hk h.size) (by rw [Bo k hk];exact hr)).trans (h.old k hk)
theorem SU.ro9 {base:Nat} {w0:World} {fx:Ak} {s:Mst} {bx:Nat} {v:Bc} {i:Ins} {w w1:World} {ρ':Nat->Nat} (h:SU base w0 fx s bx { v with ρ:=Aj v.ρ w.heap.size 9 } w.heap.size i w w1)
 (hro:∀ k,k < w1.heap.size->ρ' k = Aj v.ρ w.heap.size 9 k):∀ k,k < w.heap.size->ρ' k = v.ρ k:=fun k hk=>(hro k (Nat.lt_of_lt_of_le hk h.size)).trans (Bo k hk)
def Ap8 (fx:Ak) (k:Nat) (by' er:Int) (s1:Mst) (ef:Int) (s2:Mst):Prop:=
 (er ≠ 0/\s2 = s1/\ef = er)\/(er = 0/\s1.done = true/\s2 = { s1 with steps:=s1.steps + 1 }/\ef = 0) \/
 (er = 0/\s1.done = false/\∃ j,j < fx.code.length/\(Bl fx.code j:Int) = (Bl fx.code (k + 1):Int) + by'/\s2 = { s1 with at':=j,steps:=s1.steps + 1 }/\ef = 0) \/
 (er = 0/\s1.done = false/\(∀ j < fx.code.length,(Bl fx.code j:Int) ≠ (Bl fx.code (k + 1):Int) + by')/\s2 = s1/\ef = 89)
theorem Atz {ρ ρ':Nat->Nat} {w wx:World} {bx i j:Nat} {x y:Value} (h0:ρ' bx = 0) (h:Jd ρ w wx/\∀ k,k < w.heap.size->ρ' k = ρ k):Jd ρ w ((wx.drew.setCell ⟨bx,i,none⟩ x).setCell ⟨bx,j,none⟩ y):=fun q hq hr=>by
 have hne:q ≠ bx:=fun hc=>by have h2:=h.2 q hq;rw [<- h2,hc,h0] at hr;unfold Qs at hr;omega
 rw [Below.heap_setCell _ _ _ _ hne,Below.heap_setCell _ _ _ _ hne];exact h.1 q hq hr
theorem Ap9 (w:World):(zeroValue 3).run prog w = .ok (.int .i64 0) w:=by kernel_rfl
theorem wrapEq (x:Int):IntKind.i64.wrap x = wrap64 x:=by rw [IntKind.wrap_i64];unfold wrap64;omega
structure SF (fx:Ak) (s1:Mst) (bx:Nat) (v:Bc) (k n:Nat) (by':Int) (wc:World) (K1 gu cu:Nat) (U T:Int):Prop where
 q1:wc.cell? ⟨bx,468,none⟩ = some (.int .i64 k)
 q2:wc.cell? ⟨bx,469,none⟩ = some (.int .i64 s1.steps)
 q3:wc.cell? ⟨bx,470,none⟩ = some (.bool false)
 u5:wc.cell? ⟨bx,421,none⟩ = some (.slice (some ⟨gu,0,none⟩) (n + 1) cu)
 u6:wc.cell? ⟨bx,422,none⟩ = some (.map (some v.mb))
 hcu:wc.cell? ⟨gu,K1,none⟩ = some (.int .i64 U)
 hwk:wrap64 ((k:Int) + 1) = (K1:Int)
 hwu:wrap64 (U + by') = T
 hj3:(0:Int) <= (K1:Int)
 hj4:(K1:Int) < (n:Int) + 1
 hwr:wrap64 (s1.steps + 1) = s1.steps + 1
 f1:wc.frozen? ⟨bx,469,none⟩ = false
 f0:wc.frozen? ⟨bx,468,none⟩ = false
 hlb:bx < wc.heap.size
 hT:T = (Bl fx.code (k + 1):Int) + by'
 Ax4:IntKind.i64.wrap ((k:Int) + 1) = (K1:Int)
 Ax5:IntKind.i64.wrap (U + by') = T
theorem Aes {base:Nat} {w0:World} {fx:Ak} {s1:Mst} {bx:Nat} {v:Bc} {wc:World} (h:MS base w0 fx s1 bx v wc) {k n:Nat} {by':Int} (hn:n = fx.code.length) (hk:k < fx.code.length) (hlen:fx.code.length <= 4096) (Anh:s1.at' = k) (hdn:s1.done = false)
 (hst:0 <= s1.steps/\s1.steps < 4611686018427387904) (hby : -4611686018427387904 <= by'/\by' <= 4611686018427387904):∃ K1 gu cu U T,SF fx s1 bx v k n by' wc K1 gu cu U T:=by
 obtain ⟨_,q1,q2,q3⟩:=h.tail;rw [hdn] at q3;rw [Anh] at q1;obtain ⟨_,_,_,_,_,u5,u6⟩:=h.heads;obtain ⟨gu,cu,huv,hcu⟩:=h.Aty (k + 1) (by omega);rw [huv,<- hn] at u5;have hu:=Yg fx.code (k + 1);refine ⟨k + 1,gu,cu,(Bl fx.code (k + 1):Nat),(Bl fx.code (k + 1):Nat) + by',q1,q2,q3,u5,u6,hcu,?_,?_,?_,?_,?_,h.box.free 469,h.box.free 468,h.box.lt,rfl,?_,?_⟩
 ·unfold wrap64;omega
 ·generalize Bl fx.code (k + 1) = U at hu ⊢;unfold wrap64;omega
 ·omega
 ·omega
 ·unfold wrap64;omega
 ·rw [wrapEq];unfold wrap64;omega
 ·rw [wrapEq];generalize Bl fx.code (k + 1) = U at hu ⊢;unfold wrap64;omega
theorem Aif {base:Nat} {w0:World} {fx:Ak} {s1:Mst} {bx:Nat} {v:Bc} {wc:World} (h:MS base w0 fx s1 bx v wc) (j:Nat) (hj:j < fx.code.length) (T:Int) (hT:(Bl fx.code j:Int) = T) :
 (Instr.lookup 83 (.map (some v.mb)) (.int .i64 T) true).run prog wc.drew = .ok (.tuple #[.int .i64 j,.bool true]) wc.drew:=by
 have hm:wc.drew.heap[v.mb]? = some (.map (Le fx.code fx.code.length) fx.code.length):=h.begin'.at';rw [<- hT];exact Cj (P:=prog) underlying83 underlying3 wc.drew v.mb _ _ hm _ j (.int .i64 j) (Aie fx.code fx.code.length j hj) true
theorem Ach {base:Nat} {w0:World} {fx:Ak} {s1:Mst} {bx:Nat} {v:Bc} {wc:World} (h:MS base w0 fx s1 bx v wc) (T:Int) (hT:∀ j < fx.code.length,(Bl fx.code j:Int) ≠ T) :
 (Instr.lookup 83 (.map (some v.mb)) (.int .i64 T) true).run prog wc.drew = .ok (.tuple #[.int .i64 0,.bool false]) wc.drew:=by
 have hm:wc.drew.heap[v.mb]? = some (.map (Le fx.code fx.code.length) fx.code.length):=h.begin'.at';exact Ej (P:=prog) underlying83 underlying3 wc.drew v.mb _ _ hm T (.int .i64 0) (Acg fx.code fx.code.length T hT) (Ap9 _) true
theorem At1 (fx:Ak) (s:Mst) (k:Nat) (hk:k < fx.code.length) (hat:s.at' = k) (hd:s.done = false) (op:Int) (Ad reg:Bool) (size dst src off Aa:Int) (hi:fx.code[k] = ⟨op,Ad,reg,size,dst,src,off,Aa⟩)
 (hlen:fx.code.length <= 4096) (by' er:Int) (s1:Mst) (hdo:DoR (D8 op) fx s ⟨op,Ad,reg,size,dst,src,off,Aa⟩ by' er s1)
 (hgo:(26 <= op/\op <= 37)\/op = 39\/k + 1 ≠ fx.code.length) (Anh:s1.at' = k) (hst:0 <= s1.steps/\s1.steps < 4611686018427387904) (hby : -4611686018427387904 <= by'/\by' <= 4611686018427387904) (ef:Int) (s2:Mst)
 (hres:Ap8 fx k by' er s1 ef s2):Wx fx s ef s2:=by
 intro base w0 bx v w hM;obtain ⟨h0,h1,h2,h3,h4,h5,h6⟩:=hM.heads;obtain ⟨t0,t1,t2,t3⟩:=hM.tail;obtain ⟨g,c,hcv,hcode⟩:=hM.Ap7 k hk;rw [hat] at t1;rw [hd] at t3;rw [hcv] at h4;have e0:=hcode 0 (by decide);have e1:=hcode 1 (by decide);have e2:=hcode 2 (by decide);have e3:=hcode 3 (by decide);have e4:=hcode 4 (by decide);have e5:=hcode 5 (by decide);have e6:=hcode 6 (by decide);have e7:=hcode 7 (by decide);simp only [hi,Ins.cs,Ed,List.getElem?_cons_zero,List.getElem?_cons_succ,Nat.add_zero] at e0 e1 e2 e3 e4 e5 e6 e7;obtain ⟨n,hn⟩:∃ n,n = fx.code.length:=⟨_,rfl⟩;rw [<- hn] at h4;have hj1:(0:Int) <= (k:Int):=by omega
 have hj2:(k:Int) < (n:Int):=by omega
 have hlt:=hM.box.lt;have hlg:=World.block_lt_of_cell? w _ e0;simp only at hlg;have HM:=hid hM;have HDO:=hid hdo;have HGO:=hid hgo;have HI:=hid hi;have HN:=hid hn;have Az2:=hid hres;clear hM hdo hgo hcode hi hn hres;go_enter func16,ntmps16;go_upto_region 3 with fail
 go_region
 go_upto_region 4 with fail;have HU:=hid (show SU base w0 fx s bx { v with ρ:=Aj v.ρ w.heap.size 9 } w.heap.size ⟨op,Ad,reg,size,dst,src,off,Aa⟩ w ((w.alloc (.cells #[.int .i64 op,.bool Ad,.bool reg,.int .i64 size,.int .i64 dst,.int .i64 src,.int .i64 off,.int .i64 Aa] 70)).drew) from SU.next ⟨HM.out.Awn _,Row.made w (Ins.cs ⟨op,Ad,reg,size,dst,src,off,Aa⟩) _,by unfold Aj;simp,by simp,fun k hk=>((Below.refl w.heap.size w).alloc nl _).block k hk⟩ (Below.refl _ _).drew);clear h0 h1 h2 h3 h4 h5 h6 t0 t1 t2 t3 e0 e1 e2 e3 e4 e5 e6 e7 hlg hlt;generalize World.drew _ = wA at HU ⊢
 go_cut [4] from 9 (fun s4 wx=>s4 = .bool (decide (26 <= op) && decide (op <= 37))/\SU base w0 fx s bx { v with ρ:=Aj v.ρ w.heap.size 9 } w.heap.size ⟨op,Ad,reg,size,dst,src,off,Aa⟩ w wx)
 case first=>
  obtain ⟨c0,_⟩:=HU.out.cells;simp only at c0
  by_cases ha:26 <= op
  ·have ha':=decide_eq_true ha
   by_cases hb:op <= 37
   ·have hb':=decide_eq_true hb;go_wp2_with fail;go_meet
    case rel=>exact ⟨by rw [ha',hb'];rfl,HU.out⟩
   ·have hb':=decide_eq_false hb;go_wp2_with fail;go_meet
    case rel=>exact ⟨by rw [ha',hb'];rfl,HU.out⟩
  ·have ha':=decide_eq_false ha;go_wp2_with fail;go_meet
   case rel=>exact ⟨by rw [ha'];rfl,HU.out⟩
 case rest=>
  obtain ⟨rfl,hU⟩:=hcut;obtain ⟨J,hJ⟩:∃ J:Bool,(decide (26 <= op) && decide (op <= 37)) = J:=⟨_,rfl⟩;rw [hJ];have Ze:=hid hU;have HJ:=hid hJ;clear hU HU hJ;go_upto_region 5 with fail
  go_cut [50] from 9 (fun s50 wx=>s50 = .bool false/\SU base w0 fx s bx { v with ρ:=Aj v.ρ w.heap.size 9 } w.heap.size ⟨op,Ad,reg,size,dst,src,off,Aa⟩ w wx)
  case first=>
   obtain ⟨c0,_⟩:=Ze.out.cells;obtain ⟨_,_,_,_,h4,_,_⟩:=Ze.out.ms.heads;obtain ⟨_,t1,_,_⟩:=Ze.out.ms.tail;simp only [hcv,<- HN.out] at h4;rw [hat] at t1;simp only at c0
   cases J with
   | true =>
     go_quiet (fail)
     go_wp2_with fail;go_meet
     case rel=>exact ⟨rfl,Ze.out.next (below_drewN (Below.refl _ _) _)⟩
   | false =>
     by_cases h39:op = 39
     ·have Ax6:(op != 39) = false:=by simp [h39]
      go_quiet (fail)
      go_wp2_with fail;go_meet
      case rel=>exact ⟨rfl,Ze.out.next (below_drewN (Below.refl _ _) _)⟩
     ·have Ax6:(op != 39) = true:=by simp [h39]
      have hne:k + 1 ≠ n:=by
       rcases HGO.out with ⟨ha,hb⟩ | h | h
       ·have:=HJ.out;simp [ha,hb] at this
       ·exact absurd h h39
       ·rw [HN.out];exact h
      have hw:wrap64 ((k:Int) + 1) = (k:Int) + 1:=by have:=HN.out;unfold wrap64;omega
      have hne':((k:Int) + 1 == (n:Int)) = false:=by simp;omega
      go_quiet (fail)
      go_wp2_with fail;go_meet
      case rel=>exact ⟨rfl,Ze.out.next (below_drewN (Below.refl _ _) _)⟩
  case rest=>
   obtain ⟨rfl,hU⟩:=hcut;have HU3:=hid hU;clear hU Ze;go_upto_region 7 with fail
   go_cut [5,6] from 9 (fun s5 s6 wx=>s5 = .int .i64 by'/\s6 = .int .i64 er/\∃ v',MS base w0 fx s1 bx v' wx/\Jd v.ρ w wx/\∀ k,k < w.heap.size->v'.ρ k = v.ρ k)
   case first=>
    have HU4:=hid (HU3.out.next (Below.refl _ _).drew);have hks:=s9 HU4.out.ins;obtain ⟨F,hF⟩:∃ F,D8 op = F:=⟨_,rfl⟩;have Aqa:=Aer op;rw [hF] at Aqa;have hdr:=fun w'=>Aku op bx w';have hdo:=HDO.out;rw [hF] at hdr hdo;have HDR:=hid hdr;have Aqb:=hid hdo;clear hdr hdo;unfold l9 at HDR
    rcases Aqa with rfl | rfl | rfl | rfl | rfl | rfl | rfl | rfl | rfl | rfl
    all_goals
     go_region_held3 (fun w'=>w'.cell? ⟨w.heap.size,0,none⟩ = some (.int .i64 op)/\w'.cell? ⟨w.heap.size,1,none⟩ = some (.bool Ad)/\w'.cell? ⟨w.heap.size,2,none⟩ = some (.bool reg)/\w'.cell? ⟨w.heap.size,3,none⟩ = some (.int .i64 size)/\w'.cell? ⟨w.heap.size,4,none⟩ = some (.int .i64 dst)/\w'.cell? ⟨w.heap.size,5,none⟩ = some (.int .i64 src)/\w'.cell? ⟨w.heap.size,6,none⟩ = some (.int .i64 off)/\w'.cell? ⟨w.heap.size,7,none⟩ = some (.int .i64 Aa)/\Row w' w.heap.size 70 (Ed op Ad reg size dst src off Aa))
      (first
        | with_reducible assumption
        | with_reducible exact s9 hr)
      (first
        | (go_at_call 42;refine (HDR.out _).mono ?_;rintro e w' ⟨rfl,rfl⟩)
        | ((first | go_at_call 52 | go_at_call 53 | go_at_call 54 | go_at_call 55 | go_at_call 56 | go_at_call 57 | go_at_call 58 | go_at_call 59 | go_at_call 60 | go_at_call 61);refine (Aqb.out _ _ _ _ _ HU4.out.ms).mono ?_;rintro e wX ⟨rfl,v',hM',hf,hro⟩;have hr:Row wX w.heap.size 70 (Ed op Ad reg size dst src off Aa):=HU4.out.fr hf))
    all_goals
     rename_i C9;go_wp2_with fail;go_meet
     case rel=>exact ⟨rfl,rfl,v',hM',HU4.out.fr9 hf,HU4.out.ro9 hro⟩
   case rest=>
    obtain ⟨rfl,rfl,v',hM1,hf,hro⟩:=hcut;have HM1:=hid hM1;have HFR:=hid (And.intro hf hro);clear hM1 hf hro HU3 HDO HGO HI HJ
    rcases Az2.out with ⟨he,rfl,rfl⟩ | ⟨rfl,hdn,rfl,rfl⟩ | ⟨rfl,hdn,j,hjl,hju,rfl,rfl⟩ | ⟨rfl,hdn,hno,rfl,rfl⟩
    ·have het:(ef != 0) = true:=by simpa using he
     go_wp2;exact bodyPost_ret (v:=.int .i64 ef) (by simp [results,results16,go_sem]) rfl ⟨rfl,v',HM1.out,HFR.out⟩
    ·obtain ⟨_,q1,q2,q3⟩:=HM1.out.tail;rw [hdn] at q3;have hwr:wrap64 (s1.steps + 1) = s1.steps + 1:=by unfold wrap64;omega
     have f1:=HM1.out.box.free 469;go_wp2;have hM2:=HM1.out.Aeq (s1.steps + 1);exact bodyPost_ret (v:=.int .i64 0) (by simp [results,results16,go_sem]) rfl ⟨rfl,v',hM2,fun q hq hr=>(Below.heap_setCell _ _ _ _ (fun hc=>by have h0:=HM1.out.rb;have h1:=HFR.out.2 q hq;rw [show bx = q from hc.symm] at h0;rw [h1] at h0;rw [h0] at hr;unfold Qs at hr;omega)).trans (HFR.out.1 q hq hr),HFR.out.2⟩
    ·obtain ⟨K1,gu,cu,U,T,hSF⟩:=Aes HM1.out HN.out hk hlen Anh hdn hst hby;have hlook:=Aif HM1.out j hjl T (by rw [hSF.hT];exact hju);obtain ⟨q1,q2,q3,u5,u6,hcu,hwk,hwu,hj3,hj4,hwr,f1,f0,hlb,hTT,Ax4,Ax5⟩:=hSF;clear hTT;have HK:=hid hk;clear hk hlen Anh hst hby;clear hju;go_upto_region 13 with fail;have hks:wc.drew.cell? ⟨bx,468,none⟩ = some (.int .i64 k)/\wc.drew.cell? ⟨bx,421,none⟩ = some (.slice (some ⟨gu,0,none⟩) (n + 1) cu)/\wc.drew.cell? ⟨bx,422,none⟩ = some (.map (some v'.mb))/\wc.drew.cell? ⟨gu,K1,none⟩ = some (.int .i64 U):=⟨q1,u5,u6,hcu⟩
     go_region_held3 (fun w'=>w'.cell? ⟨bx,468,none⟩ = some (.int .i64 k)/\w'.cell? ⟨bx,421,none⟩ = some (.slice (some ⟨gu,0,none⟩) (n + 1) cu)/\w'.cell? ⟨bx,422,none⟩ = some (.map (some v'.mb))/\w'.cell? ⟨gu,K1,none⟩ = some (.int .i64 U))
      (assumption) (fail)
     rename_i C9;clear C9 hks;go_wp2;have hM2:=((HM1.out.next (Below.refl _ _).drew).setAt j).Aeq (s1.steps + 1);exact bodyPost_ret (v:=.int .i64 0) (by simp [results,results16,go_sem]) rfl ⟨rfl,v',hM2,Atz HM1.out.rb HFR.out,HFR.out.2⟩
    ·obtain ⟨K1,gu,cu,U,T,hSF⟩:=Aes HM1.out HN.out hk hlen Anh hdn hst hby;have hlook:=Ach HM1.out T (by rw [hSF.hT];exact hno);obtain ⟨q1,q2,q3,u5,u6,hcu,hwk,hwu,hj3,hj4,hwr,f1,f0,hlb,hTT,Ax4,Ax5⟩:=hSF;clear hTT;have HK:=hid hk;clear hk hlen Anh hst hby;clear hno;go_upto_region 13 with fail;have hks:wc.drew.cell? ⟨bx,468,none⟩ = some (.int .i64 k)/\wc.drew.cell? ⟨bx,421,none⟩ = some (.slice (some ⟨gu,0,none⟩) (n + 1) cu)/\wc.drew.cell? ⟨bx,422,none⟩ = some (.map (some v'.mb))/\wc.drew.cell? ⟨gu,K1,none⟩ = some (.int .i64 U):=⟨q1,u5,u6,hcu⟩
     go_region_held3 (fun w'=>w'.cell? ⟨bx,468,none⟩ = some (.int .i64 k)/\w'.cell? ⟨bx,421,none⟩ = some (.slice (some ⟨gu,0,none⟩) (n + 1) cu)/\w'.cell? ⟨bx,422,none⟩ = some (.map (some v'.mb))/\w'.cell? ⟨gu,K1,none⟩ = some (.int .i64 U))
      (assumption) (fail)
     rename_i C9;clear C9 hks;go_wp2;exact bodyPost_ret (v:=.int .i64 89) (by simp [results,results16,go_sem]) rfl ⟨rfl,v',HM1.out.next (Below.refl _ _).drew,HFR.out.1,HFR.out.2⟩
inductive Runs (fx:Ak):Mst->Nat->Int->Mst->Prop
 | done (s:Mst) (n:Nat):s.done = true->Runs fx s n 0 s
 | fuel (s:Mst):s.done = false->Runs fx s 0 88 s
 | trap (s s1:Mst) (n:Nat) (er:Int):s.done = false->Wx fx s er s1->er ≠ 0->Runs fx s (n + 1) er s1
 | step (s s1 s2:Mst) (n:Nat) (er:Int):s.done = false->Wx fx s 0 s1->Runs fx s1 n er s2->Runs fx s (n + 1) er s2
structure zq (base:Nat) (er:Int) (s:Mst) (r0:Int) (xv tv sv:Value) (w:World):Prop where
 shx:∃ a n c,xv = .slice a n c
 sht:∃ a n c,tv = .slice a n c
 shs:∃ a n c,sv = .slice a n c
 fail:er ≠ 0->r0 = 0/\xv = .slice none 0 0/\tv = .slice none 0 0/\sv = .slice none 0 0
 r0:er = 0->∀ u,s.rg[0]? = some u->r0 = u.x
 ctx:er = 0->w.ownsRow base 5 1 xv s.ctx.length (Gp s.ctx)
 sent:er = 0->w.ownsRow base 3 1 sv s.sent.length (Jb s.sent)
 tabs:er = 0->∃ ρ vals,F9 w base ρ tv vals s.rows
theorem Wy (xs:List Int):∀ u ∈ Jb xs,u.oneCell' = true:=by
 intro u hu;obtain ⟨x,_,rfl⟩:=List.mem_map.1 hu;rfl
theorem zu {P:Program} {a:Act} {w:World} {Q:Exit->Act->World->Prop} {c X:Code} (l:Nat) (J:Act->World->Prop) (μ:Act->World->Nat) (hf:findLabel c l = some (Code.skip.seq X))
 (first:(∀ a w,J a w->X.wp P (Exit.jump l J Q) a w)->c.wp P (Exit.jump l J Q) a w)
 (pass:∀ a w,J a w->X.wp P (Exit.jump l (fun a' w'=>J a' w'/\μ a' w' < μ a w) Q) a w):(Code.scope c).wp P Q a w:=
 wp_scope_jumps l J μ hf (first fun a w hJ=>wp_mono (pass a w hJ) fun e a' w' h=>by
  cases e with
  | goto l'=>exact ⟨h.1,h.2.1⟩
  | normal=>exact h
  | exit id=>exact h
  | ret=>exact h
  | panic ch=>exact h
  | outgrown=>exact h) fun a w hJ=>wp_seq (wp_skip (pass a w hJ))
theorem MS.Az3 {base:Nat} {w0:World} {fx:Ak} {s:Mst} {bx:Nat} {v:Bc} {w:World} (h:MS base w0 fx s bx v w) {q:Nat} (hq:v.ρ q = 9) (hb:base <= q) (i:Nat) (x:Value):MS base w0 fx s bx v (w.setCell ⟨q,i,none⟩ x):=by
 have hne:bx ≠ q:=fun hc=>by have:=h.rb;rw [hc,hq] at this;cases this
 have hr:∀ r,r ≠ 9->v.ρ (Addr.block ⟨q,i,none⟩) ≠ r:=fun r hr hc=>hr (by rw [<- hc];exact hq);exact ⟨h.bel.setCell hb _,h.box.other _ _ hne,h.le,h.rb,h.Io.set _ _ (hr _ (by decide)),h.Gq.set _ _ (hr _ (by decide)),h.begin'.set _ _ (hr _ (by decide)),h.Qr.set _ _ (hr _ (by decide)),h.Oo.set _ _ (by show v.ρ q < 10;omega),h.L8.set _ _ (hr _ (by decide)),h.L9.set _ _ (hr _ (by decide)),h.Jo.set _ _ (hr _ (by decide)),h.Xx,h.Oj⟩
structure RU (base:Nat) (w0:World) (fx:Ak) (s:Mst) (bx:Nat) (v:Bc) (w:World) (yu:Nat->Nat) (o:List Value) (w1:World):Prop where
 ms:MS base w0 fx s bx v w1
 box:Row w1 w.heap.size 73 o
 role:v.ρ w.heap.size = 9
 lb:base <= w.heap.size
 fr:Jd yu w w1
 ro:∀ k,k < w.heap.size->v.ρ k = yu k
section
variable {base:Nat} {w0:World} {fx:Ak} {s s':Mst} {bx:Nat} {v v':Bc} {w w1 w2:World} {yu:Nat->Nat} {o:List Value}
theorem RU.next (h:RU base w0 fx s bx v w yu o w1) (hb:Below w1.heap.size w1 w2):RU base w0 fx s bx v w yu o w2:=
 ⟨h.ms.next hb,h.box.below hb h.box.lt,h.role,h.lb,fun k hk hr=>(hb.block k (Nat.lt_trans hk h.box.lt)).trans (h.fr k hk hr),h.ro⟩
theorem RU.step (h:RU base w0 fx s bx v w yu o w1) (hm:MS base w0 fx s' bx v' w2) (hf:Jd v.ρ w1 w2) (hr:∀ k,k < w1.heap.size->v'.ρ k = v.ρ k):RU base w0 fx s' bx v' w yu o w2:=
 ⟨hm,(hf _ h.box.lt (Ny h.role)).trans h.box,(hr _ h.box.lt).trans h.role,h.lb,fun k hk h9=>(hf k (Nat.lt_trans hk h.box.lt) (by rw [h.ro k hk];exact h9)).trans (h.fr k hk h9),fun k hk=>(hr k (Nat.lt_trans hk h.box.lt)).trans (h.ro k hk)⟩
theorem RU.Aet (h:RU base w0 fx s bx v w yu o w1) (i:Nat) (x:Value):RU base w0 fx s bx v w yu (o.set i x) (w1.setCell ⟨w.heap.size,i,none⟩ x):=
 ⟨h.ms.Az3 h.role h.lb i x,h.box.put i x,h.role,h.lb,fun k hk h9=>(Below.heap_setCell _ _ _ _ (Nat.ne_of_lt hk)).trans (h.fr k hk h9),h.ro⟩
theorem RU.Wi {a b c d:Value} (h:RU base w0 fx s bx v w yu [a,b,c,d] w1) (x0 x1 x2 x3:Value):RU base w0 fx s bx v w yu [x0,x1,x2,x3] ((((w1.setCell ⟨w.heap.size,0,none⟩ x0).setCell ⟨w.heap.size,1,none⟩ x1).setCell ⟨w.heap.size,2,none⟩ x2).setCell ⟨w.heap.size,3,none⟩ x3):=
 (((h.Aet 0 x0).Aet 1 x1).Aet 2 x2).Aet 3 x3
theorem RU.begin (h:MS base w0 fx s bx v w):RU base w0 fx s bx { v with ρ:=Aj v.ρ w.heap.size 9 } w v.ρ [.int .i64 0,.slice none 0 0,.slice none 0 0,.slice none 0 0] (w.alloc (.cells #[.int .i64 0,.slice none 0 0,.slice none 0 0,.slice none 0 0] 73)):=
 ⟨h.Awn _,Row.made w [.int .i64 0,.slice none 0 0,.slice none 0 0,.slice none 0 0] _,by unfold Aj;simp,by have:=h.le;have:=h.box.lt;omega,fun k hk _=>((Below.refl w.heap.size w).alloc nl _).block k hk,Bo⟩
end
section
variable {base:Nat} {w0:World} {fx:Ak} {s':Mst} {bx:Nat} {v':Bc} {w w1 w2:World} {yu:Nat->Nat} {r0:Int}
theorem RU.k (hx:∀ u,s'.rg[0]? = some u->u.x = r0) (h:∃ o,RU base w0 fx s' bx v' w yu o w1):w1.cell? ⟨bx,426,none⟩ = some (.int .i64 r0)/\w1.cell? ⟨bx,416,none⟩ = some v'.xv/\w1.cell? ⟨bx,417,none⟩ = some v'.tv/\w1.cell? ⟨bx,467,none⟩ = some v'.sv/\∃ o,RU base w0 fx s' bx v' w yu o w1:=by
 obtain ⟨o,h⟩:=h;have hr:=(h.ms.reg 0 (by decide)).2.2.2;rw [hx _ (List.getElem?_eq_getElem _)] at hr;exact ⟨hr,h.ms.heads.1,h.ms.heads.2.1,h.ms.tail.1,o,h⟩
theorem RU.n (hx:∀ u,s'.rg[0]? = some u->u.x = r0) (h:w1.cell? ⟨bx,426,none⟩ = some (.int .i64 r0)/\w1.cell? ⟨bx,416,none⟩ = some v'.xv/\w1.cell? ⟨bx,417,none⟩ = some v'.tv/\w1.cell? ⟨bx,467,none⟩ = some v'.sv/\∃ o,RU base w0 fx s' bx v' w yu o w1) (hb:Below w1.heap.size w1 w2):w2.cell? ⟨bx,426,none⟩ = some (.int .i64 r0)/\w2.cell? ⟨bx,416,none⟩ = some v'.xv/\w2.cell? ⟨bx,417,none⟩ = some v'.tv/\w2.cell? ⟨bx,467,none⟩ = some v'.sv/\∃ o,RU base w0 fx s' bx v' w yu o w2:=RU.k hx (let ⟨o,h⟩:=h.2.2.2.2;⟨o,h.next hb⟩)
theorem RU.p (hx:∀ u,s'.rg[0]? = some u->u.x = r0) (h:w1.cell? ⟨bx,426,none⟩ = some (.int .i64 r0)/\w1.cell? ⟨bx,416,none⟩ = some v'.xv/\w1.cell? ⟨bx,417,none⟩ = some v'.tv/\w1.cell? ⟨bx,467,none⟩ = some v'.sv/\∃ o,RU base w0 fx s' bx v' w yu o w1) (x0 x1 x2 x3:Value):((((w1.setCell ⟨w.heap.size,0,none⟩ x0).setCell ⟨w.heap.size,1,none⟩ x1).setCell ⟨w.heap.size,2,none⟩ x2).setCell ⟨w.heap.size,3,none⟩ x3).cell? ⟨bx,426,none⟩ = some (.int .i64 r0)/\((((w1.setCell ⟨w.heap.size,0,none⟩ x0).setCell ⟨w.heap.size,1,none⟩ x1).setCell ⟨w.heap.size,2,none⟩ x2).setCell ⟨w.heap.size,3,none⟩ x3).cell? ⟨bx,416,none⟩ = some v'.xv/\((((w1.setCell ⟨w.heap.size,0,none⟩ x0).setCell ⟨w.heap.size,1,none⟩ x1).setCell ⟨w.heap.size,2,none⟩ x2).setCell ⟨w.heap.size,3,none⟩ x3).cell? ⟨bx,417,none⟩ = some v'.tv/\((((w1.setCell ⟨w.heap.size,0,none⟩ x0).setCell ⟨w.heap.size,1,none⟩ x1).setCell ⟨w.heap.size,2,none⟩ x2).setCell ⟨w.heap.size,3,none⟩ x3).cell? ⟨bx,467,none⟩ = some v'.sv/\∃ o,RU base w0 fx s' bx v' w yu o ((((w1.setCell ⟨w.heap.size,0,none⟩ x0).setCell ⟨w.heap.size,1,none⟩ x1).setCell ⟨w.heap.size,2,none⟩ x2).setCell ⟨w.heap.size,3,none⟩ x3):=
 RU.k hx (let ⟨o,h⟩:=h.2.2.2.2;⟨_,(((h.Aet 0 x0).Aet 1 x1).Aet 2 x2).Aet 3 x3⟩)
end
theorem Zy {w:World} {base size n:Nat} {e:TypeId} {v:Value} {xs:List Value} (h:w.ownsRow base e size v n xs) {q:Nat} (hq:q < base) (i:Nat) (x:Value):(w.setCell ⟨q,i,none⟩ x).ownsRow base e size v n xs:=
 Em h fun b hb=>Below.heap_setCell _ _ _ _ (fun hc=>by have:=(h.lt b hb).1;have hc':b = q:=hc;omega)
theorem W9 {w:World} {base size n:Nat} {e:TypeId} {v:Value} {xs:List Value} (h:w.ownsRow base e size v n xs) {q:Nat} (hq:q < base) (x0 x1 x2 x3:Value):((((w.setCell ⟨q,0,none⟩ x0).setCell ⟨q,1,none⟩ x1).setCell ⟨q,2,none⟩ x2).setCell ⟨q,3,none⟩ x3).ownsRow base e size v n xs:=
 Zy (Zy (Zy (Zy h hq 0 x0) hq 1 x1) hq 2 x2) hq 3 x3
theorem Gz {w:World} {base base' size n:Nat} {e:TypeId} {v:Value} {xs:List Value} (h:w.ownsRow base e size v n xs) (hb:base' <= base):w.ownsRow base' e size v n xs:=by
 obtain ⟨hl,hz | ⟨g,cap,cur,hv,hb',rest⟩⟩:=h
 ·exact ⟨hl,Or.inl hz⟩
 ·exact ⟨hl,Or.inr ⟨g,cap,cur,hv,Nat.le_trans hb hb',rest⟩⟩
theorem Ani (r:Int) (a b c:Option Addr) (n1 c1 n2 c2 n3 c3:Nat):prog.built 73 [(0,.int .i64 r),(1,.slice a n1 c1),(2,.slice b n2 c2),(3,.slice c n3 c3)] = some #[.int .i64 r,.slice a n1 c1,.slice b n2 c2,.slice c n3 c3]:=by
 kernel_rfl
theorem At3 (r:Int) (a b c:Option Addr) (n1 c1 n2 c2 n3 c3:Nat) (w:World):(Instr.build 73 #[(0,.int .i64 r),(1,.slice a n1 c1),(2,.slice b n2 c2),(3,.slice c n3 c3)]).run prog w = .ok (.agg #[.int .i64 r,.slice a n1 c1,.slice b n2 c2,.slice c n3 c3]) w:=
 run_build w _ _ _ (Ani r a b c n1 c1 n2 c2 n3 c3)
theorem Aig:prog.built 73 [] = some #[.int .i64 0,.slice none 0 0,.slice none 0 0,.slice none 0 0]:=by kernel_rfl
theorem Aqc (w:World):(Instr.build 73 #[]).run prog w = .ok (.agg #[.int .i64 0,.slice none 0 0,.slice none 0 0,.slice none 0 0]) w:=run_build w _ _ _ Aig
theorem Ho {w:World} {base:Nat} {ρ:Nat->Nat} {tv:Value} {vals:List Value} {rows:List (List Int)} (h:F9 w base ρ tv vals rows) (hb:∀ k (h:k < rows.length),Ah rows[k]):Es w tv vals rows:=by
 have hl:vals.length = rows.length:=by have:=h.list.1.1;omega
 refine ⟨Gl h.list.1 (fun u hu=>?_) (by decide),fun i hi=>?_⟩
 ·obtain ⟨k,hk,rfl⟩:=List.getElem_of_mem hu;obtain ⟨u,hu2,ho⟩:=h.item k (by omega);rw [List.getElem?_eq_getElem hk] at hu2;obtain rfl:=Option.some.inj hu2;obtain ⟨a,c,hv⟩:=Ai ho.1;rw [hv];rfl
 ·obtain ⟨u,hu2,ho⟩:=h.item i hi;exact ⟨u,hu2,Dq ho.1 (hb i hi) rfl⟩
theorem At4 {w1 wT wN:World} {yu Xa:Nat->Nat} {tv:Value} {vals:List Value} {rows:List (List Int)} (hT:O4 w1 wT yu Xa 10 rows.length tv vals rows) (hbN:Below wT.heap.size wT wN) {q:Nat} (hq:q < w1.heap.size) {b':Nat} (hb:b' <= w1.heap.size) (x0 x1 x2 x3:Value) :
 F9 ((((wN.setCell ⟨q,0,none⟩ x0).setCell ⟨q,1,none⟩ x1).setCell ⟨q,2,none⟩ x2).setCell ⟨q,3,none⟩ x3) b' Xa tv vals rows:=
 ⟨⟨Gz (W9 (Dn hT.list.1 hbN nl) hq x0 x1 x2 x3) hb,hT.list.2⟩,fun k hk=>let ⟨u,hu,ho⟩:=hT.item k hk hk;⟨u,hu,Gz (W9 (Dn ho.1 hbN nl) hq x0 x1 x2 x3) hb,ho.2⟩⟩
theorem At5 (fx:Ak) (s:Mst) (fuel:Nat) (hf:fuel < 4611686018427387904) (er:Int) (s2:Mst) (hr:Runs fx s fuel er s2) (hrl:s2.rows.length <= 1000000) (hrb:∀ k (h:k < s2.rows.length),Ah s2.rows[k]/\s2.rows[k].length <= 140737488355328) (hcl:s2.ctx.length <= 65535) (hsl:s2.sent.length <= 100000)
 (base:Nat) (w0:World) (bx:Nat) (v:Bc) (w:World) (hM:MS base w0 fx s bx v w) :
 Calls prog 24 #[.pointer (some ⟨bx,0,none⟩),.int .i64 fuel] w fun e w'=>
  ∃ r0 xv tv sv,e = .returned (.tuple #[.agg #[.int .i64 r0,xv,tv,sv],.int .i64 er])/\zq w.heap.size er s2 r0 xv tv sv w'/\∃ v',MS base w0 fx s2 bx v' w'/\Jd v.ρ w w'/\∀ k,k < w.heap.size->v'.ρ k = v.ρ k:=by
 have hb0:=Aqc;have hbo:=At3;have HF:=hid hf;have HR:=hid hr;have HU:=hid (RU.begin hM);clear hf hr hM;go_enter func24,ntmps24;go_wp2_with fail;generalize World.alloc _ _ = wA at HU ⊢;refine zu 0 (fun a' w'=>∃ (i:Nat) (s':Mst) (v':Bc) (u7 u8 u9 u10 u11 u12 u13 u14 u15 u16 u17 u18 u19 u20 u21 u22 u23 u24 u25 u26 u27 u28 u29 u30 u31 u32 u33 u34 u35 u36 u37 u38 u39 u40 u41 u42 u43 u44 u45 u46 u47:Value),i <= fuel/\Runs fx s' (fuel - i) er s2/\RU base w0 fx s' bx v' w v.ρ [.int .i64 0,.slice none 0 0,.slice none 0 0,.slice none 0 0] w'/\a' = { tmps:=#[.pointer (some ⟨bx,0,none⟩),.int .i64 fuel,undef,undef,.pointer (some ⟨w.heap.size,0,none⟩),.int .i64 0,.int .i64 i,u7,u8,u9,u10,u11,u12,u13,u14,u15,u16,u17,u18,u19,u20,u21,u22,u23,u24,u25,u26,u27,u28,u29,u30,u31,u32,u33,u34,u35,u36,u37,u38,u39,u40,u41,u42,u43,u44,u45,u46,u47],defers:=[] }) (fun a' _=>fuel - (intOf (a'.tmps.getD 6 undef)).toNat) rfl ?_ ?_
 ·intro Ax7;go_wp2
  go_step3
  rename_i hK;refine hK _ _ (Ax7 _ _ ⟨0,s,_,_,_,_,_,_,_,_,_,_,_,_,_,_,_,_,_,_,_,_,_,_,_,_,_,_,_,_,_,_,_,_,_,_,_,_,_,_,_,_,_,_,Nat.zero_le _,HR.out,HU.out,rfl⟩)
 ·rintro a' w' ⟨i,s',v',u7,u8,u9,u10,u11,u12,u13,u14,u15,u16,u17,u18,u19,u20,u21,u22,u23,u24,u25,u26,u27,u28,u29,u30,u31,u32,u33,u34,u35,u36,u37,u38,u39,u40,u41,u42,u43,u44,u45,u46,u47,hi,Ave,hU,rfl⟩;dsimp only;generalize hQ:Exit.jump _ _ _ = Q;obtain ⟨m,hm⟩:∃ m,m = fuel - i:=⟨_,rfl⟩;rw [<- hm] at Ave;obtain ⟨q0,q1,q2,q3⟩:=hU.ms.tail;obtain ⟨⟨b0,b1,b2,b3⟩,f0,f1,f2,f3⟩:=hU.box.four;have Ze:=hid hU;clear hU
  cases Ave with
  | done _ _ hdn =>
    rw [hdn] at q3;clear q0 q1 q2;have hx0:∀ u,s2.rg[0]? = some u->u.x = ((s2.rg[0]?).getD I4).x:=fun u hu=>by rw [hu];rfl
    obtain ⟨r0,hr0⟩:∃ r0,r0 = ((s2.rg[0]?).getD I4).x:=⟨_,rfl⟩;rw [<- hr0] at hx0;have HX0:=hid hx0;have HR0:=hid hr0;clear hx0 hr0;have hks:=RU.k HX0.out ⟨_,Ze.out.next (Below.refl _ _).drew⟩;have hRX:∀ w' (hw:w'.cell? ⟨bx,426,none⟩ = some (.int .i64 r0)/\w'.cell? ⟨bx,416,none⟩ = some v'.xv/\w'.cell? ⟨bx,417,none⟩ = some v'.tv/\w'.cell? ⟨bx,467,none⟩ = some v'.sv/\∃ o,RU base w0 fx s2 bx v' w v.ρ o w'),Reads w' 1 v'.xv s2.ctx.length (Gp s2.ctx):=fun w' hw=>let ⟨o,h⟩:=hw.2.2.2.2;Gl h.ms.Qr.1 (Ot _) (by decide);have hRN:∀ w' (hw:w'.cell? ⟨bx,426,none⟩ = some (.int .i64 r0)/\w'.cell? ⟨bx,416,none⟩ = some v'.xv/\w'.cell? ⟨bx,417,none⟩ = some v'.tv/\w'.cell? ⟨bx,467,none⟩ = some v'.sv/\∃ o,RU base w0 fx s2 bx v' w v.ρ o w'),Reads w' 1 v'.sv s2.sent.length (Jb s2.sent):=fun w' hw=>let ⟨o,h⟩:=hw.2.2.2.2;Gl h.ms.Jo.1 (Wy _) (by decide);have hRT:∀ w' (hw:w'.cell? ⟨bx,426,none⟩ = some (.int .i64 r0)/\w'.cell? ⟨bx,416,none⟩ = some v'.xv/\w'.cell? ⟨bx,417,none⟩ = some v'.tv/\w'.cell? ⟨bx,467,none⟩ = some v'.sv/\∃ o,RU base w0 fx s2 bx v' w v.ρ o w'),Es w' v'.tv v'.vals s2.rows:=fun w' hw=>let ⟨o,h⟩:=hw.2.2.2.2;Ho h.ms.Oo (fun k hk=>(hrb k hk).1);have HCB:=hid (fun w' hw=>Iw v'.xv s2.ctx.length (Gp s2.ctx) w' (hRX w' hw) (by omega));have HCN:=hid (fun w' hw=>Yh v'.sv s2.sent.length (Jb s2.sent) w' (hRN w' hw) (by omega));have HCT:=hid (fun w' hw=>Uu v'.tv v'.vals s2.rows hrl (fun k hk=>(hrb k hk).2) w' (hRT w' hw) (fun _=>0) 10);clear hRX hRN hRT;go_upto_region 3 with fail
    go_region_held3 (fun w'=>w'.cell? ⟨bx,426,none⟩ = some (.int .i64 r0)/\w'.cell? ⟨bx,416,none⟩ = some v'.xv/\w'.cell? ⟨bx,417,none⟩ = some v'.tv/\w'.cell? ⟨bx,467,none⟩ = some v'.sv/\∃ o,RU base w0 fx s2 bx v' w v.ρ o w')
     (first
       | with_reducible assumption
       | exact RU.n HX0.out (by with_reducible assumption) hbC
       | exact RU.n HX0.out (by with_reducible assumption) hT.bel
       | exact RU.n HX0.out (by with_reducible assumption) hbN
       | exact RU.p HX0.out (by with_reducible assumption) _ _ _ _)
     (first
       | (go_at_call 32;refine (HCB.out _ (by with_reducible assumption)).mono ?_;rintro e wC ⟨vC,rfl,Ou,hbC⟩;obtain ⟨aC,kC,rfl⟩:=Ai Ou)
       | (go_at_call 33;refine (HCT.out _ (by with_reducible assumption)).mono ?_;rintro e wT ⟨vT,Zf,Xa,rfl,hT⟩;obtain ⟨aT,kT,rfl⟩:=Ai hT.list.1)
       | (go_at_call 43;refine (HCN.out _ (by with_reducible assumption)).mono ?_;rintro e wN ⟨vN,rfl,Xb,hbN⟩;obtain ⟨aN,kN,rfl⟩:=Ai Xb;have hUN:=(((Ze.out.next (Below.refl _ _).drew).next hbC).next hT.bel).next hbN;obtain ⟨⟨_,_,_,_⟩,_,_,_,_⟩:=hUN.box.four))
    rename_i C9;clear C9 hks;have hob:=Ze.out.box.lt;have hUF:=hUN.Wi (.int .i64 r0) (.slice aC s2.ctx.length kC) (.slice aT s2.rows.length kT) (.slice aN s2.sent.length kN);have hsC:=hbC.size;have hsT:=hT.bel.size;have hC:=Gz (W9 (q:=w.heap.size) (Dn (Dn Ou hT.bel nl) hbN nl) (by show _ < w'.heap.size;exact hob) (.int .i64 r0) (.slice aC s2.ctx.length kC) (.slice aT s2.rows.length kT) (.slice aN s2.sent.length kN)) (Nat.le_of_lt hob);have hS:=Gz (W9 (q:=w.heap.size) Xb (by have:w'.heap.size <= wC.heap.size:=hsC;omega) (.int .i64 r0) (.slice aC s2.ctx.length kC) (.slice aT s2.rows.length kT) (.slice aN s2.sent.length kN)) (show w.heap.size <= wT.heap.size by have:w'.heap.size <= wC.heap.size:=hsC;omega);have hTT:=At4 hT hbN (q:=w.heap.size) (by have:w'.heap.size <= wC.heap.size:=hsC;omega) (b':=w.heap.size) (by have:w'.heap.size <= wC.heap.size:=hsC;omega) (.int .i64 r0) (.slice aC s2.ctx.length kC) (.slice aT s2.rows.length kT) (.slice aN s2.sent.length kN);obtain ⟨⟨d0,d1,d2,d3⟩,_⟩:=hUF.box.four;generalize World.setCell _ _ _ = wF at hUF hC hS hTT d0 d1 d2 d3 ⊢;go_wp2;subst hQ
    try simp only [Exit.jump]
    exact bodyPost_ret (v:=.tuple #[.agg #[.int .i64 r0,.slice aC s2.ctx.length kC,.slice aT s2.rows.length kT,.slice aN s2.sent.length kN],.int .i64 0]) (by simp [results,results24,go_sem,d0,d1,d2,d3]) rfl
     ⟨r0,_,_,_,rfl,⟨⟨_,_,_,rfl⟩,⟨_,_,_,rfl⟩,⟨_,_,_,rfl⟩,fun h=>absurd rfl h,fun _ u hu=>(HX0.out u hu).symm,fun _=>hC,fun _=>hS,fun _=>⟨_,_,hTT⟩⟩,v',hUF.ms,hUF.fr,hUF.ro⟩
  | fuel _ hdn =>
    rw [hdn] at q3;have hfi:i = fuel:=by omega
    clear hm hi;subst hfi;have hge:decide ((i:Int) <= (i:Int)) = true:=by simp
    have hUF:=Ze.out.Wi (.int .i64 0) (.slice none 0 0) (.slice none 0 0) (.slice none 0 0);go_wp2;obtain ⟨⟨d0,d1,d2,d3⟩,_⟩:=hUF.box.four;generalize World.setCell _ _ _ = wF at hUF d0 d1 d2 d3 ⊢;subst hQ
    try simp only [Exit.jump]
    exact bodyPost_ret (v:=.tuple #[.agg #[.int .i64 0,.slice none 0 0,.slice none 0 0,.slice none 0 0],.int .i64 88]) (by simp [results,results24,go_sem,d0,d1,d2,d3]) rfl
     ⟨0,_,_,_,rfl,⟨⟨_,_,_,rfl⟩,⟨_,_,_,rfl⟩,⟨_,_,_,rfl⟩,fun _=>⟨rfl,rfl,rfl,rfl⟩,fun h=>absurd h (by decide),fun h=>absurd h (by decide),fun h=>absurd h (by decide),fun h=>absurd h (by decide)⟩,v',hUF.ms,hUF.fr,hUF.ro⟩
  | trap _ s1 n _ hdn hst hne =>
    rw [hdn] at q3;have hge:decide ((fuel:Int) <= (i:Int)) = false:=by simp;omega
    have A17:(er != 0) = true:=by simpa using hne
    have HST:=hid hst;clear hst;go_wp2_with (go_at_call 16;refine (HST.out _ _ _ _ _ Ze.out.ms).mono ?_;rintro e wX ⟨rfl,v2,hM2,hf2,Awo⟩;have hUX:=Ze.out.step hM2 hf2 Awo;obtain ⟨⟨_,_,_,_⟩,_,_,_,_⟩:=hUX.box.four);have hUF:=hUX.Wi (.int .i64 0) (.slice none 0 0) (.slice none 0 0) (.slice none 0 0);obtain ⟨⟨d0,d1,d2,d3⟩,_⟩:=hUF.box.four;generalize World.setCell _ _ _ = wF at hUF d0 d1 d2 d3 ⊢;subst hQ
    try simp only [Exit.jump]
    exact bodyPost_ret (v:=.tuple #[.agg #[.int .i64 0,.slice none 0 0,.slice none 0 0,.slice none 0 0],.int .i64 er]) (by simp [results,results24,go_sem,d0,d1,d2,d3]) rfl
     ⟨0,_,_,_,rfl,⟨⟨_,_,_,rfl⟩,⟨_,_,_,rfl⟩,⟨_,_,_,rfl⟩,fun _=>⟨rfl,rfl,rfl,rfl⟩,fun h=>absurd h hne,fun h=>absurd h hne,fun h=>absurd h hne,fun h=>absurd h hne⟩,v2,hUF.ms,hUF.fr,hUF.ro⟩
  | step _ s1 _ n _ hdn hst hrest =>
    rw [hdn] at q3;have hge:decide ((fuel:Int) <= (i:Int)) = false:=by simp;omega
    have hwi:wrap64 ((i:Int) + 1) = ((i + 1:Nat):Int):=by have:=HF.out;unfold wrap64;omega
    have HST:=hid hst;clear hst;go_wp2_with (go_at_call 16;refine (HST.out _ _ _ _ _ Ze.out.ms).mono ?_;rintro e wX ⟨rfl,v2,hM2,hf2,Awo⟩;have hUX:=Ze.out.step hM2 hf2 Awo)
    go_step3
    subst hQ;rw [hwi];refine ⟨rfl,⟨i + 1,s1,v2,_,_,_,_,_,_,_,_,_,_,_,_,_,_,_,_,_,_,_,_,_,_,_,_,_,_,_,_,_,_,_,_,_,_,_,_,_,_,_,_,_,by omega,by rw [show fuel - (i + 1) = n by omega];exact hrest,hUX,rfl⟩,?_⟩;simp [intOf];omega
theorem Awp (fx:Ak) (s:Mst) (fuel:Nat) (hf:fuel < 4611686018427387904) (er:Int) (s2:Mst) (hr:Runs fx s fuel er s2) (hrows:s2.rows = []) (hcl:s2.ctx.length <= 65535) (hsl:s2.sent.length <= 100000)
 (base:Nat) (w0:World) (bx:Nat) (v:Bc) (w:World) (hM:MS base w0 fx s bx v w) :
 Calls prog 24 #[.pointer (some ⟨bx,0,none⟩),.int .i64 fuel] w fun e w'=>
  ∃ r0 xv tv sv,e = .returned (.tuple #[.agg #[.int .i64 r0,xv,tv,sv],.int .i64 er])/\zq w.heap.size er s2 r0 xv tv sv w'/\∃ v',MS base w0 fx s2 bx v' w'/\Jd v.ρ w w'/\∀ k,k < w.heap.size->v'.ρ k = v.ρ k:=
 At5 fx s fuel hf er s2 hr (by rw [hrows];decide) (fun k hk=>absurd hk (by rw [hrows];simp)) hcl hsl base w0 bx v w hM
end Go.Proofs.YtjacnhnaoenelaaGreat

import Derived.Test.YtjacnhnaoenelaaGreatQCodeLendC
import Derived.Test.YtjacnhnaoenelaaGreatQLendX
namespace Go.Proofs.YtjacnhnaoenelaaGreat
open Go.Proofs.Tryz
open Go.RowKit
set_option linter.unusedVariables false
set_option linter.unusedSimpArgs false
structure Kept (X:List Nat) (w w':World):Prop where
 os:w'.os = w.os
 tape:w'.tape = w.tape
 output:w'.output = w.output
 size:w.heap.size <= w'.heap.size
 block:∀ k,k < w.heap.size->k ∉ X->w'.heap[k]? = w.heap[k]?
theorem Kept.refl (X:List Nat) (w:World):Kept X w w:=⟨rfl,rfl,rfl,Nat.le_refl _,fun _ _ _=>rfl⟩
theorem Kept.trans {X:List Nat} {a b c:World} (h:Kept X a b) (k:Kept X b c):Kept X a c:=
 ⟨k.os.trans h.os,k.tape.trans h.tape,k.output.trans h.output,Nat.le_trans h.size k.size,fun i hi hx=>(k.block i (Nat.lt_of_lt_of_le hi h.size) hx).trans (h.block i hi hx)⟩
theorem Kept.mono {X Y:List Nat} {a b:World} (h:Kept X a b) (hXY:∀ q,q ∈ X->q ∈ Y):Kept Y a b:=⟨h.os,h.tape,h.output,h.size,fun i hi hx=>h.block i hi fun hm=>hx (hXY i hm)⟩
theorem Kept.of {X:List Nat} {a b:World} (h:Below a.heap.size a b):Kept X a b:=⟨h.os,h.tape,h.output,h.size,fun i hi _=>h.block i hi⟩
theorem Kept.below {X:List Nat} {a b:World} {B:Nat} (h:Kept X a b) (hB:B <= a.heap.size) (hX:∀ q,q ∈ X->B <= q):Below B a b:=
 ⟨h.os,h.tape,h.output,h.size,fun i hi=>h.block i (by omega) fun hm=>by have:=hX i hm;omega⟩
theorem Kept.row {X:List Nat} {a b:World} (h:Kept X a b) {q:Nat} {e:TypeId} {cs:List Value} (hR:Row a q e cs) (hx:q ∉ X):Row b q e cs:=(h.block q hR.lt hx).trans hR
theorem Kept.cell {X:List Nat} {a b:World} (h:Kept X a b) {q i:Nat} {f:Option Nat} (hq:q < a.heap.size) (hx:q ∉ X):b.cell? ⟨q,i,f⟩ = a.cell? ⟨q,i,f⟩:=World.cell?_of_block (a:=⟨q,i,f⟩) (h.block q hq hx)
theorem Kept.held {X:List Nat} {a b:World} (h:Kept X a b) {v:Value} {xs:List Int} (hH:Held a v xs) (hx:∀ q,v.ownBlock = some q->q < a.heap.size/\q ∉ X):Held b v xs:=
 hH.kept h.size fun q hq=>h.block q (hx q hq).1 (hx q hq).2
theorem Kept.owns {X:List Nat} {a b:World} (h:Kept X a b) {base size n:Nat} {e:TypeId} {v:Value} {xs:List Value} (ho:a.ownsRow base e size v n xs) (hx:∀ q,q ∈ X->q < base):b.ownsRow base e size v n xs:=by
 refine ⟨ho.1,?_⟩
 rcases ho.2 with hn | ⟨g,cap,cur,rfl,hb,hg,rest⟩
 ·exact .inl hn
 ·exact .inr ⟨g,cap,cur,rfl,hb,(h.block g (lt_of_block hg) fun hm=>by have:=hx g hm;omega).trans hg,rest⟩
theorem tu {w:World} {base B size n:Nat} {e:TypeId} {v:Value} {xs:List Value} (h:w.ownsRow base e size v n xs) (hB:B <= base):w.ownsRow B e size v n xs:=by
 refine ⟨h.1,?_⟩
 rcases h.2 with hn | ⟨g,cap,cur,rfl,hb,rest⟩
 ·exact .inl hn
 ·exact .inr ⟨g,cap,cur,rfl,Nat.le_trans hB hb,rest⟩
theorem Row.ne {w:World} {a b:Nat} {e e':TypeId} {cs cs':List Value} (h:Row w a e cs) (h':Row w b e' cs') (hne:e ≠ e'):a ≠ b:=by
 rintro rfl;unfold Row at h h';rw [h] at h';injection h' with h2;injection h2 with _ h3;exact hne h3
theorem Kept.fresh {X:List Nat} {a b c:World} {C:Nat} (h:Kept X a b) (k:Kept [C] b c) (hC:a.heap.size <= C):Kept X a c:=
 ⟨k.os.trans h.os,k.tape.trans h.tape,k.output.trans h.output,Nat.le_trans h.size k.size,fun i hi hx=>(k.block i (Nat.lt_of_lt_of_le hi h.size) (by simp;omega)).trans (h.block i hi hx)⟩
theorem Kept.uf {a b:World} {C:Nat} (h:Kept [C] a b) {base size n:Nat} {e e':TypeId} {v:Value} {xs cs:List Value} (ho:a.ownsRow base e size v n xs) (hC:Row a C e' cs) (hne:e ≠ e'):b.ownsRow base e size v n xs:=by
 refine ⟨ho.1,?_⟩
 rcases ho.2 with hn | ⟨g,cap,cur,rfl,hb,hg,rest⟩
 ·exact .inl hn
 ·have hg2:Row a g e cur.toList:=by simpa [Row] using hg
  have:=hg2.ne hC hne;exact .inr ⟨g,cap,cur,rfl,hb,(h.block g (lt_of_block hg) (by simpa using this)).trans hg,rest⟩
def Ay5 (w:World) (C:Nat) (a b c d e:Value):World:=((((w.setCell ⟨C,0,none⟩ a).setCell ⟨C,1,none⟩ b).setCell ⟨C,2,none⟩ c).setCell ⟨C,3,none⟩ d).setCell ⟨C,4,none⟩ e
theorem Xm {w:World} {C:Nat} {t:TypeId} {a' b' c' d' e':Value} (h:Row w C t [a',b',c',d',e']) (a b c d e:Value):Row (Ay5 w C a b c d e) C t [a,b,c,d,e]:=((((h.put 0 a).put 1 b).put 2 c).put 3 d).put 4 e
theorem Gw (w:World) (C i:Nat) (v:Value):Kept [C] w (w.setCell ⟨C,i,none⟩ v):=⟨rfl,rfl,rfl,by simp,fun k _ hx=>Below.heap_setCell _ _ _ _ (by simpa using hx)⟩
theorem U2 (w:World) (C:Nat) (a b c d e:Value):Kept [C] w (Ay5 w C a b c d e):=
 ((((Gw w C 0 a).trans (Gw _ C 1 b)).trans (Gw _ C 2 c)).trans (Gw _ C 3 d)).trans (Gw _ C 4 e)
theorem Iz {w:World} {C:Nat} {t:TypeId} {a b c d e:Value} (h:Row w C t [a,b,c,d,e]):(w.cell? ⟨C,0,none⟩ = some a/\w.frozen? ⟨C,0,none⟩ = false)/\(w.cell? ⟨C,1,none⟩ = some b/\w.frozen? ⟨C,1,none⟩ = false) /\
 (w.cell? ⟨C,2,none⟩ = some c/\w.frozen? ⟨C,2,none⟩ = false)/\(w.cell? ⟨C,3,none⟩ = some d/\w.frozen? ⟨C,3,none⟩ = false)/\(w.cell? ⟨C,4,none⟩ = some e/\w.frozen? ⟨C,4,none⟩ = false):=
 ⟨⟨(h.cell 0).trans rfl,h.free 0⟩,⟨(h.cell 1).trans rfl,h.free 1⟩,⟨(h.cell 2).trans rfl,h.free 2⟩,⟨(h.cell 3).trans rfl,h.free 3⟩,⟨(h.cell 4).trans rfl,h.free 4⟩⟩
theorem Kept.drew {X:List Nat} {a b:World} (h:Kept X a b):Kept X a b.drew:=⟨h.os,h.tape,h.output,h.size,h.block⟩
theorem Kept.alloc {X:List Nat} {a b:World} (h:Kept X a b) (o:Obj):Kept X a (b.alloc o):=h.trans (Kept.of (Ae b o))
theorem U3 (hb:Nat) (bv:Value) (xs:List Int) (hl:xs.length <= 1048576) (w:World) (hX:Held w bv xs) (hR:Row w hb 32 [.slice none 0 0]) :
 Calls prog 5 #[.pointer (some ⟨hb,0,none⟩),bv] w fun e w'=>∃ r,w.heap.size <= r/\e = .returned (.slice (some ⟨r,0,none⟩) xs.length (4 * xs.length + 200)) /\
  Row w' hb 32 [.slice (some ⟨r,0,none⟩) (4 * xs.length + 200) (4 * xs.length + 200)]/\Row w' r 5 (Dv (4 * xs.length + 200) (Om xs (xs.length + 70)))/\Kept [hb] w w':=
 (Asm hb bv xs hl w hX hR).mono fun e w' ⟨h1,h2,h3,h4,h5⟩=>⟨_,Nat.le_refl _,h1,h2,h3,h5.os,h5.tape,h5.output,h5.size,fun q hq hx=>h4 q hq (by simpa using hx)⟩
theorem Q9 (hb:Nat) (v:Value) (l:List Ins) (hl:l.length <= 1048576) (w:World) (hX:Fa w v l) (hR:Row w hb 34 [.slice none 0 0]) :
 Calls prog 7 #[.pointer (some ⟨hb,0,none⟩),v] w fun e w'=>∃ r,w.heap.size <= r/\e = .returned (.slice (some ⟨r,0,none⟩) l.length (4 * l.length + 200)) /\
  Row w' hb 34 [.slice (some ⟨r,0,none⟩) (4 * l.length + 200) (4 * l.length + 200)]/\Row w' r 70 (Dj (Hf l (l.length + 70)))/\Kept [hb] w w':=
 (Aon hb v l hl w hX hR).mono fun e w' ⟨h1,h2,h3,h4,h5⟩=>⟨_,Nat.le_refl _,h1,h2,h3,h5.os,h5.tape,h5.output,h5.size,fun q hq hx=>h4 q hq (by simpa using hx)⟩
theorem Ajl (hb rb:Nat) (v:Value) (l:List Ins) (hl:l.length <= 1048576) (hne:rb ≠ hb) (w:World) (hX:Fa w v l)
 (hR:Row w hb 34 [.slice (some ⟨rb,0,none⟩) (4 * l.length + 200) (4 * l.length + 200)]) (hU:Row w rb 70 (Dj (Hf l (l.length + 70)))) :
 Calls prog 13 #[.pointer (some ⟨hb,0,none⟩),v] w fun e w'=>e = .returned (.bool true)/\Kept [rb] w w':=
 (Ay4 hb rb v l hl hne w hX hR hU).mono fun e w' ⟨h1,_,h3,h4⟩=>⟨h1,(h4 rb nl).os,(h4 rb nl).tape,(h4 rb nl).output,(h4 rb nl).size,fun q hq hx=>h3 q hq (by simpa using hx)⟩
theorem Abh (hb rb:Nat) (bv:Value) (xs:List Int) (hl:xs.length <= 1048576) (hne:rb ≠ hb) (w:World) (hX:Held w bv xs)
 (hR:Row w hb 32 [.slice (some ⟨rb,0,none⟩) (4 * xs.length + 200) (4 * xs.length + 200)]) (hU:Row w rb 5 (Dv (4 * xs.length + 200) (Om xs (xs.length + 70)))) :
 Calls prog 12 #[.pointer (some ⟨hb,0,none⟩),bv] w fun e w'=>e = .returned (.bool true)/\Kept [rb] w w':=by
 have e:Dv (4 * xs.length + 200) (Om xs (xs.length + 70)) = Dv (4 * xs.length + 200) (Oq (fun _=>0) xs (xs.length + 70)):=Iu fun t _=>rfl;rw [e] at hU;refine (Aop hb rb (4 * xs.length + 200) (fun _=>0) (fun _=>by omega) bv xs hl (by omega) (by omega) hne w hX hR hU).mono ?_;rintro _ w' ⟨h1,_,_,h3,h4⟩;exact ⟨h1,(h4 rb nl).os,(h4 rb nl).tape,(h4 rb nl).output,(h4 rb nl).size,fun q _ hx=>h3 q (by simpa using hx)⟩
end Go.Proofs.YtjacnhnaoenelaaGreat

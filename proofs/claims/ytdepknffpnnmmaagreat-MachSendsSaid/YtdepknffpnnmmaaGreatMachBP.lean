/-
  CopyCode; code that a law owns, and instructions put over it.
-/
import Derived.Test.YtdepknffpnnmmaaGreatMachBO
namespace Go.Proofs.YtdepknffpnnmmaaGreat
open Go.RowKit
set_option linter.unusedVariables false
set_option linter.unusedSimpArgs false

theorem codec_cons (x : Ins) (l : List Ins) : codec (x :: l) = x.cs ++ codec l := rfl
theorem codec_append (a b : List Ins) : codec (a ++ b) = codec a ++ codec b := by
  unfold codec
  rw [List.flatMap_append]
set_option maxRecDepth 100000 in
set_option maxHeartbeats 3200000 in
theorem copycode_of (l : List Ins) (ca : Option Addr) (n cc : Nat) (hn : n = l.length) (hn0 : 0 < n) (hn1 : n ≤ 4096) (w : World) (hc : Coded w (.slice ca n cc) l) :
    Calls Tryz.prog 51 #[.slice ca n cc] w fun e w' => ∃ v', e = .returned v' ∧ w'.ownsRow w.heap.size 25 8 v' n (codec l) ∧ Below w.heap.size w w' := by
  obtain ⟨i0, hi0, hz0, hz1, hz2⟩ := info_split info_ins
  obtain ⟨hcl, h1, h⟩ := hc
  rw [← hn] at hcl h
  obtain ⟨ad, rfl, hnews⟩ : ∃ ad, ca = some ad ∧ ∀ j u, (codec l)[j]? = some u → w.cell? (ad.add j) = some u := by
    rcases h with ⟨h0, _⟩ | ⟨hp, b, off, cap, hv, hlt, hm, hc, hcell⟩
    · omega
    · injection hv with e1 e2 e3
      refine ⟨_, e1, fun j u hj => ?_⟩
      have hplain : (⟨b, off, none⟩ : Addr).add j = ⟨b, off + j, none⟩ := by unfold Addr.add; split <;> simp_all
      rw [hplain]
      exact hcell j u hj
  clear h
  have hm1 : 0 + n ≤ maxLen := by unfold maxLen; omega
  have hm2 : (0 + n) * 56 ≤ 140737488355328 := by omega
  generalize codec l = cs at *
  clear hn hn0
  go_enter Tryz.func51, Tryz.ntmps51
  go_wp2_with (at_builtin; refine wpList_append_own _ rfl (.const (.slice none 0 0)) (.tmp 3) 22 rfl w.heap.size 25 i0 (.agg #[.int .i64 0, .bool false, .bool false, .int .i64 0, .int .i64 0, .int .i64 0, .int .i64 0, .int .i64 0]) 8 56 Tryz.underlying22 hi0 hz0 hz1 hz2 rfl (by decide) (.slice none 0 0) 0 [] rfl (World.ownsRow_nil _ _ _ _) ad n cc cs rfl hcl hnews h1 hm1 hm2 (Nat.le_refl _) ?_; intro v1 w1 hown hgrow _)
  have hB := Below.grown (Below.refl _ _) hgrow (Nat.le_refl _) (fun k hk => by cases hk)
  have HO := Lib.hid (show w1.ownsRow w.heap.size 25 8 v1 n cs by simpa using hown)
  clear hown hgrow
  go_wp2
  go_ret
  exact ⟨_, rfl, HO.out, hB⟩
/-- What MachPointers' walk keeps: the first three instructions, the output's box, and the code that is under way. -/
structure KPt (wz : World) (sb q g : Nat) (spl : List Ins) (out : List Value) (l : List Ins) (rest : List Value) (wx : World) : Prop where
  bel : Below wz.heap.size wz wx
  sp : Row wx sb 25 (codec spl)
  box : Row wx q 30 out
  row : Row wx g 25 (codec l ++ rest)
  ls : wz.heap.size ≤ sb
  lq : wz.heap.size ≤ q
  lg : wz.heap.size ≤ g
  n1 : sb ≠ q
  n2 : sb ≠ g
  n3 : q ≠ g
theorem coded_rest {w : World} {g : Nat} {e : TypeId} {l : List Ins} {rest : List Value} (h : Row w g e (codec l ++ rest)) (n cap : Nat) (hn : n = l.length) (hc : n ≤ cap) (hm : cap ≤ maxLen) (h0 : 0 < n) : Coded w (.slice (some ⟨g, 0, none⟩) n cap) l := by
  subst hn
  refine ⟨codec_len l, codec_one l, Or.inr ⟨h0, g, 0, _, rfl, h.lt, hm, hc, fun j u hj => ?_⟩⟩
  rw [Nat.zero_add, h.cell]
  have : j < (codec l).length := by
    rcases Nat.lt_or_ge j (codec l).length with h' | h'
    · exact h'
    · rw [List.getElem?_eq_none h'] at hj; cases hj
  rw [List.getElem?_append_left this]
  exact hj
/-- Code that was appended lies in a row of its own. -/
theorem own_code {w : World} {base n : Nat} {v : Value} {cs : List Value} {l : List Ins} (h : w.ownsRow base 25 8 v n cs) (hc : cs = codec l) (hn : 0 < n) :
    ∃ g cap rest, v = .slice (some ⟨g, 0, none⟩) n cap ∧ base ≤ g ∧ Row w g 25 (codec l ++ rest) ∧ n ≤ cap ∧ cap ≤ maxLen := by
  subst hc
  obtain ⟨hl, ⟨rfl, h0⟩ | ⟨g, cap, cur, rfl, hb, hg, h1, h2, h3, h4⟩⟩ := h
  · omega
  · refine ⟨g, cap, cur.toList.drop (n * 8), rfl, hb, ?_, h1, h2⟩
    have e : codec l ++ cur.toList.drop (n * 8) = cur.toList := by
      rw [← h4]
      exact List.take_append_drop _ _
    unfold Row
    rw [e, Array.toArray_toList]
    exact hg
theorem news_new (w : World) (xs : List Value) (e : TypeId) : ∀ (j : Nat) (u : Value), xs[j]? = some u → (w.alloc (.cells xs.toArray e)).cell? ((⟨w.heap.size, 0, none⟩ : Addr).add j) = some u := by
  intro j u hu
  have hplain : (⟨w.heap.size, 0, none⟩ : Addr).add j = ⟨w.heap.size, j, none⟩ := by unfold Addr.add; split <;> simp_all
  rw [hplain, (Row.made w xs e).cell j, hu]
section
variable {wz w w' : World} {sb q g : Nat} {spl l l' : List Ins} {out rest : List Value}
theorem KPt.next (h : KPt wz sb q g spl out l rest w) (hb : Below w.heap.size w w') : KPt wz sb q g spl out l rest w' :=
  ⟨h.bel.trans (hb.mono h.bel.size), h.sp.below hb h.sp.lt, h.box.below hb h.box.lt, h.row.below hb h.row.lt, h.ls, h.lq, h.lg, h.n1, h.n2, h.n3⟩
theorem KPt.put4 {a1 a2 a3 a4 : Value} (h : KPt wz sb q g spl [a1, a2, a3, a4] l rest w) (b1 b2 b3 b4 : Value) :
    KPt wz sb q g spl [b1, b2, b3, b4] l rest ((((w.setCell ⟨q, 0, none⟩ b1).setCell ⟨q, 1, none⟩ b2).setCell ⟨q, 2, none⟩ b3).setCell ⟨q, 3, none⟩ b4) :=
  ⟨below_set8 (below_set8 (below_set8 (below_set8 h.bel h.lq 0 b1) h.lq 1 b2) h.lq 2 b3) h.lq 3 b4,
    (((h.sp.aset h.n1 0 b1).aset h.n1 1 b2).aset h.n1 2 b3).aset h.n1 3 b4, h.box.put4 b1 b2 b3 b4,
    (((h.row.aset (Ne.symm h.n3) 0 b1).aset (Ne.symm h.n3) 1 b2).aset (Ne.symm h.n3) 2 b3).aset (Ne.symm h.n3) 3 b4, h.ls, h.lq, h.lg, h.n1, h.n2, h.n3⟩
/-- An instruction put in its place. -/
def put8 (w : World) (g k : Nat) (x : Ins) : World :=
  (((((((w.setCell ⟨g, k, none⟩ (.int .i64 x.op)).setCell ⟨g, k + 1, none⟩ (.bool x.nar)).setCell ⟨g, k + 2, none⟩ (.bool x.reg)).setCell ⟨g, k + 3, none⟩ (.int .i64 x.size)).setCell ⟨g, k + 4, none⟩ (.int .i64 x.dst)).setCell ⟨g, k + 5, none⟩ (.int .i64 x.src)).setCell ⟨g, k + 6, none⟩ (.int .i64 x.off)).setCell ⟨g, k + 7, none⟩ (.int .i64 x.imm)
def over8 (cs : List Value) (k : Nat) (x : Ins) : List Value :=
  (((((((cs.set k (.int .i64 x.op)).set (k + 1) (.bool x.nar)).set (k + 2) (.bool x.reg)).set (k + 3) (.int .i64 x.size)).set (k + 4) (.int .i64 x.dst)).set (k + 5) (.int .i64 x.src)).set (k + 6) (.int .i64 x.off)).set (k + 7) (.int .i64 x.imm)
theorem Row.over8 {w : World} {b : Nat} {e : TypeId} {cs : List Value} (h : Row w b e cs) (k : Nat) (x : Ins) : Row (put8 w b k x) b e (Proofs.YtdepknffpnnmmaaGreat.over8 cs k x) :=
  (((((((h.put _ _).put _ _).put _ _).put _ _).put _ _).put _ _).put _ _).put _ _
theorem Row.aset8 {w : World} {b c : Nat} {e : TypeId} {cs : List Value} (h : Row w b e cs) (hn : b ≠ c) (k : Nat) (x : Ins) : Row (put8 w c k x) b e cs :=
  (((((((h.aset hn _ _).aset hn _ _).aset hn _ _).aset hn _ _).aset hn _ _).aset hn _ _).aset hn _ _).aset hn _ _
theorem below_put8 {B : Nat} {w0 w : World} (h : Below B w0 w) {b : Nat} (hb : B ≤ b) (k : Nat) (x : Ins) : Below B w0 (put8 w b k x) :=
  below_set8 (below_set8 (below_set8 (below_set8 (below_set8 (below_set8 (below_set8 (below_set8 h hb _ _) hb _ _) hb _ _) hb _ _) hb _ _) hb _ _) hb _ _) hb _ _
theorem KPt.put (h : KPt wz sb q g spl out l rest w) (k : Nat) (x : Ins) (he : over8 (codec l ++ rest) k x = codec l' ++ rest) : KPt wz sb q g spl out l' rest (put8 w g k x) :=
  ⟨below_put8 h.bel h.lg k x, h.sp.aset8 h.n2 k x, h.box.aset8 h.n3 k x, by rw [← he]; exact h.row.over8 k x, h.ls, h.lq, h.lg, h.n1, h.n2, h.n3⟩
/-- Another code, appended. -/
theorem KPt.code {g2 : Nat} {rest2 : List Value} (h : KPt wz sb q g spl out l rest w) (hb : Below w.heap.size w w') (hr : Row w' g2 25 (codec l' ++ rest2)) (hg : w.heap.size ≤ g2) : KPt wz sb q g2 spl out l' rest2 w' := by
  have h' := h.next hb
  have h1 := h.sp.lt
  have h2 := h.box.lt
  exact ⟨h'.bel, h'.sp, h'.box, hr, h.ls, h.lq, Nat.le_trans h.bel.size hg, h.n1, by omega, by omega⟩
end
theorem over_po3 (src o a : Int) (x y z : Ins) (rest : List Value) : over8 (codec (po src o a x y) ++ rest) 24 z = codec (po src o a z y) ++ rest := rfl
theorem over_po4 (src o a : Int) (x y z : Ins) (rest : List Value) : over8 (codec (po src o a x y) ++ rest) 32 z = codec (po src o a x z) ++ rest := rfl
theorem over_pl (o : Int) (x z : Ins) (rest : List Value) : over8 (codec (pl o x) ++ rest) 16 z = codec (pl o z) ++ rest := rfl
theorem eight0 {w : World} {g : Nat} {e : TypeId} {cs : List Value} (h : Row w g e cs) (x : Ins) (hc : ∀ j u, x.cs[j]? = some u → cs[0 + j]? = some u) :
    (w.cell? ⟨g, 0, none⟩ = some (.int .i64 x.op) ∧ w.cell? ⟨g, 1, none⟩ = some (.bool x.nar) ∧ w.cell? ⟨g, 2, none⟩ = some (.bool x.reg) ∧ w.cell? ⟨g, 3, none⟩ = some (.int .i64 x.size) ∧ w.cell? ⟨g, 4, none⟩ = some (.int .i64 x.dst) ∧ w.cell? ⟨g, 5, none⟩ = some (.int .i64 x.src) ∧ w.cell? ⟨g, 6, none⟩ = some (.int .i64 x.off) ∧ w.cell? ⟨g, 7, none⟩ = some (.int .i64 x.imm)) ∧ w.frozen? ⟨g, 0, none⟩ = false ∧ w.frozen? ⟨g, 1, none⟩ = false ∧ w.frozen? ⟨g, 2, none⟩ = false ∧ w.frozen? ⟨g, 3, none⟩ = false ∧ w.frozen? ⟨g, 4, none⟩ = false ∧ w.frozen? ⟨g, 5, none⟩ = false ∧ w.frozen? ⟨g, 6, none⟩ = false ∧ w.frozen? ⟨g, 7, none⟩ = false :=
  ⟨⟨by rw [h.cell]; exact hc 0 _ rfl, by rw [h.cell]; exact hc 1 _ rfl, by rw [h.cell]; exact hc 2 _ rfl, by rw [h.cell]; exact hc 3 _ rfl, by rw [h.cell]; exact hc 4 _ rfl, by rw [h.cell]; exact hc 5 _ rfl, by rw [h.cell]; exact hc 6 _ rfl, by rw [h.cell]; exact hc 7 _ rfl⟩, h.free _, h.free _, h.free _, h.free _, h.free _, h.free _, h.free _, h.free _⟩
theorem eight8 {w : World} {g : Nat} {e : TypeId} {cs : List Value} (h : Row w g e cs) (x : Ins) (hc : ∀ j u, x.cs[j]? = some u → cs[8 + j]? = some u) :
    (w.cell? ⟨g, 8, none⟩ = some (.int .i64 x.op) ∧ w.cell? ⟨g, 9, none⟩ = some (.bool x.nar) ∧ w.cell? ⟨g, 10, none⟩ = some (.bool x.reg) ∧ w.cell? ⟨g, 11, none⟩ = some (.int .i64 x.size) ∧ w.cell? ⟨g, 12, none⟩ = some (.int .i64 x.dst) ∧ w.cell? ⟨g, 13, none⟩ = some (.int .i64 x.src) ∧ w.cell? ⟨g, 14, none⟩ = some (.int .i64 x.off) ∧ w.cell? ⟨g, 15, none⟩ = some (.int .i64 x.imm)) ∧ w.frozen? ⟨g, 8, none⟩ = false ∧ w.frozen? ⟨g, 9, none⟩ = false ∧ w.frozen? ⟨g, 10, none⟩ = false ∧ w.frozen? ⟨g, 11, none⟩ = false ∧ w.frozen? ⟨g, 12, none⟩ = false ∧ w.frozen? ⟨g, 13, none⟩ = false ∧ w.frozen? ⟨g, 14, none⟩ = false ∧ w.frozen? ⟨g, 15, none⟩ = false :=
  ⟨⟨by rw [h.cell]; exact hc 0 _ rfl, by rw [h.cell]; exact hc 1 _ rfl, by rw [h.cell]; exact hc 2 _ rfl, by rw [h.cell]; exact hc 3 _ rfl, by rw [h.cell]; exact hc 4 _ rfl, by rw [h.cell]; exact hc 5 _ rfl, by rw [h.cell]; exact hc 6 _ rfl, by rw [h.cell]; exact hc 7 _ rfl⟩, h.free _, h.free _, h.free _, h.free _, h.free _, h.free _, h.free _, h.free _⟩
theorem eight16 {w : World} {g : Nat} {e : TypeId} {cs : List Value} (h : Row w g e cs) (x : Ins) (hc : ∀ j u, x.cs[j]? = some u → cs[16 + j]? = some u) :
    (w.cell? ⟨g, 16, none⟩ = some (.int .i64 x.op) ∧ w.cell? ⟨g, 17, none⟩ = some (.bool x.nar) ∧ w.cell? ⟨g, 18, none⟩ = some (.bool x.reg) ∧ w.cell? ⟨g, 19, none⟩ = some (.int .i64 x.size) ∧ w.cell? ⟨g, 20, none⟩ = some (.int .i64 x.dst) ∧ w.cell? ⟨g, 21, none⟩ = some (.int .i64 x.src) ∧ w.cell? ⟨g, 22, none⟩ = some (.int .i64 x.off) ∧ w.cell? ⟨g, 23, none⟩ = some (.int .i64 x.imm)) ∧ w.frozen? ⟨g, 16, none⟩ = false ∧ w.frozen? ⟨g, 17, none⟩ = false ∧ w.frozen? ⟨g, 18, none⟩ = false ∧ w.frozen? ⟨g, 19, none⟩ = false ∧ w.frozen? ⟨g, 20, none⟩ = false ∧ w.frozen? ⟨g, 21, none⟩ = false ∧ w.frozen? ⟨g, 22, none⟩ = false ∧ w.frozen? ⟨g, 23, none⟩ = false :=
  ⟨⟨by rw [h.cell]; exact hc 0 _ rfl, by rw [h.cell]; exact hc 1 _ rfl, by rw [h.cell]; exact hc 2 _ rfl, by rw [h.cell]; exact hc 3 _ rfl, by rw [h.cell]; exact hc 4 _ rfl, by rw [h.cell]; exact hc 5 _ rfl, by rw [h.cell]; exact hc 6 _ rfl, by rw [h.cell]; exact hc 7 _ rfl⟩, h.free _, h.free _, h.free _, h.free _, h.free _, h.free _, h.free _, h.free _⟩
theorem eight24 {w : World} {g : Nat} {e : TypeId} {cs : List Value} (h : Row w g e cs) (x : Ins) (hc : ∀ j u, x.cs[j]? = some u → cs[24 + j]? = some u) :
    (w.cell? ⟨g, 24, none⟩ = some (.int .i64 x.op) ∧ w.cell? ⟨g, 25, none⟩ = some (.bool x.nar) ∧ w.cell? ⟨g, 26, none⟩ = some (.bool x.reg) ∧ w.cell? ⟨g, 27, none⟩ = some (.int .i64 x.size) ∧ w.cell? ⟨g, 28, none⟩ = some (.int .i64 x.dst) ∧ w.cell? ⟨g, 29, none⟩ = some (.int .i64 x.src) ∧ w.cell? ⟨g, 30, none⟩ = some (.int .i64 x.off) ∧ w.cell? ⟨g, 31, none⟩ = some (.int .i64 x.imm)) ∧ w.frozen? ⟨g, 24, none⟩ = false ∧ w.frozen? ⟨g, 25, none⟩ = false ∧ w.frozen? ⟨g, 26, none⟩ = false ∧ w.frozen? ⟨g, 27, none⟩ = false ∧ w.frozen? ⟨g, 28, none⟩ = false ∧ w.frozen? ⟨g, 29, none⟩ = false ∧ w.frozen? ⟨g, 30, none⟩ = false ∧ w.frozen? ⟨g, 31, none⟩ = false :=
  ⟨⟨by rw [h.cell]; exact hc 0 _ rfl, by rw [h.cell]; exact hc 1 _ rfl, by rw [h.cell]; exact hc 2 _ rfl, by rw [h.cell]; exact hc 3 _ rfl, by rw [h.cell]; exact hc 4 _ rfl, by rw [h.cell]; exact hc 5 _ rfl, by rw [h.cell]; exact hc 6 _ rfl, by rw [h.cell]; exact hc 7 _ rfl⟩, h.free _, h.free _, h.free _, h.free _, h.free _, h.free _, h.free _, h.free _⟩
theorem eight32 {w : World} {g : Nat} {e : TypeId} {cs : List Value} (h : Row w g e cs) (x : Ins) (hc : ∀ j u, x.cs[j]? = some u → cs[32 + j]? = some u) :
    (w.cell? ⟨g, 32, none⟩ = some (.int .i64 x.op) ∧ w.cell? ⟨g, 33, none⟩ = some (.bool x.nar) ∧ w.cell? ⟨g, 34, none⟩ = some (.bool x.reg) ∧ w.cell? ⟨g, 35, none⟩ = some (.int .i64 x.size) ∧ w.cell? ⟨g, 36, none⟩ = some (.int .i64 x.dst) ∧ w.cell? ⟨g, 37, none⟩ = some (.int .i64 x.src) ∧ w.cell? ⟨g, 38, none⟩ = some (.int .i64 x.off) ∧ w.cell? ⟨g, 39, none⟩ = some (.int .i64 x.imm)) ∧ w.frozen? ⟨g, 32, none⟩ = false ∧ w.frozen? ⟨g, 33, none⟩ = false ∧ w.frozen? ⟨g, 34, none⟩ = false ∧ w.frozen? ⟨g, 35, none⟩ = false ∧ w.frozen? ⟨g, 36, none⟩ = false ∧ w.frozen? ⟨g, 37, none⟩ = false ∧ w.frozen? ⟨g, 38, none⟩ = false ∧ w.frozen? ⟨g, 39, none⟩ = false :=
  ⟨⟨by rw [h.cell]; exact hc 0 _ rfl, by rw [h.cell]; exact hc 1 _ rfl, by rw [h.cell]; exact hc 2 _ rfl, by rw [h.cell]; exact hc 3 _ rfl, by rw [h.cell]; exact hc 4 _ rfl, by rw [h.cell]; exact hc 5 _ rfl, by rw [h.cell]; exact hc 6 _ rfl, by rw [h.cell]; exact hc 7 _ rfl⟩, h.free _, h.free _, h.free _, h.free _, h.free _, h.free _, h.free _, h.free _⟩
theorem held1 (w : World) (e : TypeId) : Held (w.alloc (.cells #[.int .u8 1] e)) (.slice (some ⟨w.heap.size, 0, none⟩) 1 1) [1] :=
  held_row (xs := [1]) (cap := 1) (Row.made w [.int .u8 1] e) (by unfold IsBytes; decide) (by decide) (by decide) (fun i hi => by
    have : i = 0 := by simp at hi; omega
    subst this; rfl)
theorem held0 (w : World) (n : Nat) (hn : n ≤ 1000) : Held (w.alloc (.cells (utab n (fun _ => 0)).toArray 5)) (.slice (some ⟨w.heap.size, 0, none⟩) n n) (List.replicate n 0) := by
  have h := held_row (xs := List.replicate n 0) (cap := n) (Row.made w (utab n (fun _ => 0)) 5) (fun x hx => by rw [List.eq_of_mem_replicate hx]; decide) (by simp) (by unfold maxLen; omega) (fun i hi => by
    have hi' : i < n := by simpa using hi
    unfold utab
    simp [hi', List.getD])
  rwa [List.length_replicate] at h
theorem runs_nil {code : List Ins} (hp : ProgOK code) (er r0 : Int) (s2 : Mst) (hr : runF ⟨[], [], code⟩ 1048576 (st0 []) = (er, s2)) (h0 : er = 0 → (s2.reg 0).x = r0) (h1 : er ≠ 0 → r0 = 0) (n : Nat) (hn : n = code.length)
    (ca : Option Addr) (cc : Nat) (w : World) (hc : Coded w (.slice ca n cc) code) : Calls Tryz.prog 9 #[.slice ca n cc, .slice none 0 0] w (SeenR w er r0) := runs_r0 code hp er s2 hr r0 h0 h1 ca cc n hn w hc
end Go.Proofs.YtdepknffpnnmmaaGreat

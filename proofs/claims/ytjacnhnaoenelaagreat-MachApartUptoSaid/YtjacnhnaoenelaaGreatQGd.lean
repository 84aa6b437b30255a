import Derived.Test.YtjacnhnaoenelaaGreatQGb
set_option maxRecDepth 100000
set_option maxHeartbeats 6400000
namespace Go.Proofs.YtjacnhnaoenelaaGreat
open Lib (hid)
open Go.Proofs.Tryz
open Go.RowKit
set_option linter.unusedVariables false
set_option linter.unusedSimpArgs false
theorem Asn (w:World):Fa (w.alloc (.cells #[.int .i64 22,.bool false,.bool false,.int .i64 1,.int .i64 0,.int .i64 1,.int .i64 1,.int .i64 0,.int .i64 1,.bool false,.bool true,.int .i64 0,.int .i64 0,.int .i64 2,.int .i64 0,.int .i64 0,.int .i64 39,.bool false,.bool false,.int .i64 0,.int .i64 0,.int .i64 0,.int .i64 0,.int .i64 0] 70)) (.slice (some ⟨w.heap.size,0,none⟩) 3 3) Aaf:=Anj (l:=Aaf) (Row.made w (Dj Aaf) _) (by decide) (by decide)
theorem Auv (w:World):Held (w.alloc (.cells #[.int .u8 3,.int .u8 250,.int .u8 7] 5)) (.slice (some ⟨w.heap.size,0,none⟩) 3 3) [3,250,7]:=Z8 (xs:=[3,250,7]) (Row.made w [.int .u8 3,.int .u8 250,.int .u8 7] _) (fun x hx=>by simp at hx;omega) nl (by decide) (fun i hi=>by
 have hc:i = 0\/i = 1\/i = 2:=by have:i < 3:=hi;omega
 rcases hc with rfl | rfl | rfl <;> rfl)
theorem Ala (g:Int) (w:World):Calls prog 23 #[.int .i64 g] w fun e w'=>e = .returned (.int .i64 g)/\w = w':=by
 go_enter func23,ntmps23;go_wp2;go_ret
 exact ⟨rfl,rfl⟩
structure KAw (w:World) (pb cb:Nat) (w':World):Prop where
 bel:Below w.heap.size w w'
 box:Row w' pb 26 [.int .i64 0,.int .i64 9,.slice none 0 0,.slice none 0 0,.slice (some ⟨cb,0,none⟩) 3 3]
 code:Fa w' (.slice (some ⟨cb,0,none⟩) 3 3) Aaf
theorem KAw.next {w w1 w2:World} {pb cb:Nat} (h:KAw w pb cb w1) (hb:Below w1.heap.size w1 w2):KAw w pb cb w2:=⟨h.bel.trans (hb.mono h.bel.size),h.box.below hb h.box.lt,h.code.below hb nl⟩
theorem awake_of (w:World):Calls prog 4 #[] w fun e w'=>e = .returned (.bool true)/\Below w.heap.size w w':=by
 have hb1:=Ar4;have hb2:=Ar5;have hb3:=Ar6;have hbp:=Ar2;have hbi:=Ar3;have hR:=Avr Ar8 9 (stG [3,250,7] []) Ar9 (by show (0:Int) + 9 < _;decide);rw [Aur] at hR;have HR:=hid (show Runs Afp (stG [3,250,7] []) 9 0 Pz from hR);clear hR;go_enter func4,ntmps4;go_upto_region 2 with fail
 have hKA:KAw w (w.heap.size + 1) w.heap.size ((w.alloc (.cells #[.int .i64 22,.bool false,.bool false,.int .i64 1,.int .i64 0,.int .i64 1,.int .i64 1,.int .i64 0,.int .i64 1,.bool false,.bool true,.int .i64 0,.int .i64 0,.int .i64 2,.int .i64 0,.int .i64 0,.int .i64 39,.bool false,.bool false,.int .i64 0,.int .i64 0,.int .i64 0,.int .i64 0,.int .i64 0] 70)).alloc (.cells #[.int .i64 0,.int .i64 9,.slice none 0 0,.slice none 0 0,.slice (some ⟨w.heap.size,0,none⟩) 3 3] 26)):=by
  have hs:∀ o,(w.alloc o).heap.size = w.heap.size + 1:=fun o=>by simp
  have h:=Row.made (w.alloc (.cells #[.int .i64 22,.bool false,.bool false,.int .i64 1,.int .i64 0,.int .i64 1,.int .i64 1,.int .i64 0,.int .i64 1,.bool false,.bool true,.int .i64 0,.int .i64 0,.int .i64 2,.int .i64 0,.int .i64 0,.int .i64 39,.bool false,.bool false,.int .i64 0,.int .i64 0,.int .i64 0,.int .i64 0,.int .i64 0] 70)) [.int .i64 0,.int .i64 9,.slice none 0 0,.slice none 0 0,.slice (some ⟨w.heap.size,0,none⟩) 3 3] 26;rw [hs] at h;exact ⟨(Ae w _).trans ((Ae _ _).mono (by rw [hs];omega)),h,(Asn w).below (Ae _ _) nl⟩
 generalize World.alloc _ _ = wA at hKA ⊢;have HKA:=hid hKA;have c0:wA.cell? ⟨w.heap.size + 1,0,none⟩ = some (.int .i64 0):=by rw [hKA.box.cell];rfl
 have c1:wA.cell? ⟨w.heap.size + 1,1,none⟩ = some (.int .i64 9):=by rw [hKA.box.cell];rfl
 have c2:wA.cell? ⟨w.heap.size + 1,2,none⟩ = some (.slice none 0 0):=by rw [hKA.box.cell];rfl
 have c3:wA.cell? ⟨w.heap.size + 1,3,none⟩ = some (.slice none 0 0):=by rw [hKA.box.cell];rfl
 have c4:wA.cell? ⟨w.heap.size + 1,4,none⟩ = some (.slice (some ⟨w.heap.size,0,none⟩) 3 3):=by rw [hKA.box.cell];rfl
 have hft:Tc 0 9 [] ([3,250,7]:List Int).length []:=⟨⟨by decide,by decide,rfl⟩,fun i h=>absurd h (by simp)⟩;have HFT:=hid hft;have h2:∀ w':World,Tabs w' (.slice none ([]:List (Int × Int)).length 0) []:=fun w'=>⟨rfl,fun u hu=>(by cases hu),Or.inl ⟨rfl,_,_,rfl,by decide⟩⟩;have h3:∀ w':World,Es w' (.slice none ([]:List (List Int)).length 0) [] []:=fun w'=>⟨⟨rfl,fun u hu=>(by cases hu),Or.inl ⟨rfl,_,_,rfl,by decide⟩⟩,fun i h=>absurd h (by simp)⟩;have H23:=hid (And.intro h2 h3);clear hKA hft h2 h3;go_upto_region 3 with (go_at_call 9;go_loud (refine (Avs 0 9 [] [] Aaf none none (some ⟨w.heap.size,0,none⟩) (some ⟨wA.heap.size,0,none⟩) none 0 0 3 3 0 [3,250,7] [] [] Ar7 HFT.out _ (Z7 _) (H23.out.1 _) (HKA.out.code.below (Ae _ _) nl) (Auv _) (H23.out.2 _)).mono ?_;rintro e wN ⟨bx,v,rfl,hM⟩));clear c0 c1 c2 c3 c4 hb1 hb2 hb3 hbp hbi;obtain ⟨B0,W0,hM,hB0,hW0⟩:∃ B0 W0,MS B0 W0 Afp (stG [3,250,7] []) bx v wN/\w.heap.size <= B0/\Below w.heap.size w W0:=⟨_,_,hM,by have:=HKA.out.bel.size;have:=(Ae wA (.cells #[.int .u8 3,.int .u8 250,.int .u8 7] 5)).size;omega,HKA.out.bel.trans ((Ae wA _).mono HKA.out.bel.size)⟩;have HM:=hid hM;have HW0:=hid (And.intro hB0 hW0);clear hB0 hW0;have Auk:=hM.box.lt;clear hM;go_upto_region 5 with (go_at_call 23;go_loud (refine (Ala _ _).mono ?_;rintro e w' ⟨rfl,rfl⟩));have hcl:Pz.ctx.length <= 65535:=by rw [Ox.2.2.2.1];decide
 have hsl:Pz.sent.length <= 100000:=by rw [Ox.2.2.2.2.1];decide
 have HLN:=hid (And.intro hcl hsl);clear hcl hsl;go_upto_region 6 with (go_at_call 24;go_loud (refine (Awp Afp (stG [3,250,7] []) 9 (by decide) 0 Pz HR.out Ox.2.2.2.2.2 HLN.out.1 HLN.out.2 _ _ _ _ _ HM.out).mono ?_;rintro e wR ⟨r0,xv',tv',sv',rfl,hO,v',hM',hf,hro⟩;obtain ⟨a1,n1,c1,rfl⟩:=hO.shx;obtain ⟨a2,n2,c2,rfl⟩:=hO.sht;obtain ⟨a3,n3,c3,rfl⟩:=hO.shs));have Pg:(Ei Pz.rg).length = 44:=hM'.rl;have Ht:Pz.st.length = 416:=hM'.lq
 obtain ⟨u0,hu0,hx0⟩:∃ u,Pz.rg[0]? = some u/\u.x = 253:=by
  have:=Axf
  cases h:Pz.rg[0]? with
  | none=>rw [h] at this;cases this
  | some u=>rw [h] at this;exact ⟨u,rfl,by simpa using this⟩
 obtain rfl:r0 = 253:=(hO.r0 rfl u0 hu0).trans hx0;have HSA:=hid (Afg Afp Pz HLN.out.1 HLN.out.2 (by rw [Ox.2.2.2.2.2];decide) (fun k hk=>absurd hk (by rw [Ox.2.2.2.2.2];simp)) B0 W0 bx v');have hMB:=hM'.next (Ae wR (.cells #[.int .i64 253,.slice a1 n1 c1,.slice a2 n2 c2,.slice a3 n3 c3] 73));have hrow:=Row.made wR [.int .i64 253,.slice a1 n1 c1,.slice a2 n2 c2,.slice a3 n3 c3] 73;have Ay6:=hid hrow;have Auw:=hid (show Below w.heap.size w (wR.alloc (.cells #[.int .i64 253,.slice a1 n1 c1,.slice a2 n2 c2,.slice a3 n3 c3] 73)) from (HW0.out.2.trans (hM'.bel.mono HW0.out.1)).trans ((Ae wR _).mono (by have:=hM'.le;have:=hM'.box.lt;have:=HW0.out.1;omega)));have HMB:=hid hMB;have hAT:((Pz.at':Nat):Int) = 2:=by rw [Ox.1];rfl
 have hST:Pz.steps = 3:=Ox.2.1;have hDN:Pz.done = true:=Ox.2.2.1;have HAT:=hid (And.intro hAT (And.intro hST hDN));clear hMB hrow hO hM' hf hro hu0 hx0 Auk hAT hST hDN
 go_wp2_with (first
  | (go_at_call 23;refine (Ala _ _).mono ?_;rintro e w' ⟨rfl,rfl⟩)
  | (go_at_call 17;go_loud (refine (HSA.out _ HMB.out).mono ?_;rintro e wS ⟨xv,tv,sv,rfl,hA⟩;obtain ⟨b1,m1,d1,rfl⟩:=hA.shx;obtain ⟨b2,m2,d2,rfl⟩:=hA.sht;obtain ⟨b3,m3,d3,rfl⟩:=hA.shs;have hsc:=Nh Pg Ht b1 b2 b3 m1 d1 m2 d2 m3 d3 wS;obtain ⟨f1,f2,f3⟩:=Ai2 Pg Ht (.slice b1 m1 d1) (.slice b2 m2 d2) (.slice b3 m3 d3) wS 2 3 true HAT.out.1 HAT.out.2.1 HAT.out.2.2;have hbx:=(Ay6.out.below hA.bel Ay6.out.lt).alloc (.cells (Au Pz (.slice b1 m1 d1) (.slice b2 m2 d2) (.slice b3 m3 d3)).toArray 64);obtain ⟨⟨_,_,_,_⟩,_⟩:=hbx.four)))
 exact bodyPost_ret (v:=.bool true) (by simp [results,results4,go_sem]) rfl ⟨rfl,(Auw.out.trans (hA.bel.mono Auw.out.size)).alloc (by have:=(Auw.out.trans (hA.bel.mono Auw.out.size)).size;exact this) _⟩
theorem Aoq (v:Value) (n:Nat) (cs:List Value) (w:World) (h:Reads w 8 v n cs) (hl:n * 56 <= 140737488355328) :
 Calls prog 40 #[v] w fun e w'=>∃ v',e = .returned v'/\w'.ownsRow w.heap.size 70 8 v' n cs/\Below w.heap.size w w':=by
 obtain ⟨i0,hi0,hz0,hz1,hz2⟩:=Gx Aen;obtain ⟨hcl,h1,h⟩:=h;have hm1:0 + n <= maxLen:=by unfold maxLen;omega
 have hm2:(0 + n) * 56 <= 140737488355328:=by omega
 rcases h with ⟨rfl,a,cap,rfl,hcap⟩ | ⟨hp,b,off,cap,rfl,hlt,hm,hc,hcell⟩
 ·obtain rfl:cs = []:=List.length_eq_zero_iff.1 (by omega)
  cases a with
  | none =>
    go_enter func40,ntmps40;go_wp2_with (at_builtin;refine wpList_append_own_none rfl (.const (.slice none 0 0)) (.tmp 3) 24 rfl w.heap.size 70 i0 8 underlying24 hi0 (.slice none 0 0) 0 [] rfl (World.ownsRow_nil _ _ _ _) rfl ?_);go_ret
    exact ⟨_,rfl,World.ownsRow_nil _ _ _ _,Below.refl _ _⟩
  | some ad =>
    go_enter func40,ntmps40;go_wp2_with (at_builtin;refine wpList_append_own _ rfl (.const (.slice none 0 0)) (.tmp 3) 24 rfl w.heap.size 70 i0 (.agg #[.int .i64 0,.bool false,.bool false,.int .i64 0,.int .i64 0,.int .i64 0,.int .i64 0,.int .i64 0]) 8 56 underlying24 hi0 hz0 hz1 hz2 rfl (by decide) (.slice none 0 0) 0 [] rfl (World.ownsRow_nil _ _ _ _) ad 0 _ [] rfl rfl (fun j u hu=>by cases hu) (fun u hu=>by cases hu) (by decide) (by decide) nl ?_;intro v1 w1 hown hgrow _);have hB:=Below.grown (Below.refl _ _) hgrow nl (fun k hk=>by cases hk);go_wp2;go_ret
    exact ⟨_,rfl,hown,hB⟩
 ·have hnews : ∀ j u, cs[j]? = some u → w.cell? ((⟨b, off, none⟩ : Addr).add j) = some u := fun j u hj => by
   rw [show (⟨b,off,none⟩:Addr).add j = ⟨b,off + j,none⟩ by unfold Addr.add;split <;> simp_all];exact hcell j u hj
  have HN:=hid (And.intro hcl (And.intro h1 (And.intro hnews (And.intro hm1 hm2))));clear hcl h1 hnews hm1 hm2 hcell hp hl hlt hm hc;go_enter func40,ntmps40;go_wp2_with (at_builtin;refine wpList_append_own _ rfl (.const (.slice none 0 0)) (.tmp 3) 24 rfl w.heap.size 70 i0 (.agg #[.int .i64 0,.bool false,.bool false,.int .i64 0,.int .i64 0,.int .i64 0,.int .i64 0,.int .i64 0]) 8 56 underlying24 hi0 hz0 hz1 hz2 rfl (by decide) (.slice none 0 0) 0 [] rfl (World.ownsRow_nil _ _ _ _) ⟨b,off,none⟩ n cap cs rfl HN.out.1 HN.out.2.2.1 HN.out.2.1 HN.out.2.2.2.1 HN.out.2.2.2.2 nl ?_;intro v1 w1 hown hgrow _);have hB:=Below.grown (Below.refl _ _) hgrow nl (fun k hk=>by cases hk);rw [Nat.zero_add,List.nil_append] at hown;go_wp2;go_ret
  exact ⟨_,rfl,hown,hB⟩
theorem Oy (v:Value) (n:Nat) (cs:List Value) (w:World) (h:Reads w 2 v n cs) (hl:n * 16 <= 140737488355328) :
 Calls prog 6 #[v] w fun e w'=>∃ v',e = .returned v'/\w'.ownsRow w.heap.size 89 2 v' n cs/\Below w.heap.size w w':=by
 obtain ⟨i0,hi0,hz0,hz1,hz2⟩:=Gx Aeo;obtain ⟨hcl,h1,h⟩:=h;have hm1:0 + n <= maxLen:=by unfold maxLen;omega
 have hm2:(0 + n) * 16 <= 140737488355328:=by omega
 rcases h with ⟨rfl,a,cap,rfl,hcap⟩ | ⟨hp,b,off,cap,rfl,hlt,hm,hc,hcell⟩
 ·obtain rfl:cs = []:=List.length_eq_zero_iff.1 (by omega)
  cases a with
  | none =>
    go_enter func6,ntmps6;go_wp2_with (at_builtin;refine wpList_append_own_none rfl (.const (.slice none 0 0)) (.tmp 3) 23 rfl w.heap.size 89 i0 2 underlying23 hi0 (.slice none 0 0) 0 [] rfl (World.ownsRow_nil _ _ _ _) rfl ?_);go_ret
    exact ⟨_,rfl,World.ownsRow_nil _ _ _ _,Below.refl _ _⟩
  | some ad =>
    go_enter func6,ntmps6;go_wp2_with (at_builtin;refine wpList_append_own _ rfl (.const (.slice none 0 0)) (.tmp 3) 23 rfl w.heap.size 89 i0 (.agg #[.int .i64 0,.int .i64 0]) 2 16 underlying23 hi0 hz0 hz1 hz2 rfl (by decide) (.slice none 0 0) 0 [] rfl (World.ownsRow_nil _ _ _ _) ad 0 _ [] rfl rfl (fun j u hu=>by cases hu) (fun u hu=>by cases hu) (by decide) (by decide) nl ?_;intro v1 w1 hown hgrow _);have hB:=Below.grown (Below.refl _ _) hgrow nl (fun k hk=>by cases hk);go_wp2;go_ret
    exact ⟨_,rfl,hown,hB⟩
 ·have hnews : ∀ j u, cs[j]? = some u → w.cell? ((⟨b, off, none⟩ : Addr).add j) = some u := fun j u hj => by
   rw [show (⟨b,off,none⟩:Addr).add j = ⟨b,off + j,none⟩ by unfold Addr.add;split <;> simp_all];exact hcell j u hj
  have HN:=hid (And.intro hcl (And.intro h1 (And.intro hnews (And.intro hm1 hm2))));clear hcl h1 hnews hm1 hm2 hcell hp hl hlt hm hc;go_enter func6,ntmps6;go_wp2_with (at_builtin;refine wpList_append_own _ rfl (.const (.slice none 0 0)) (.tmp 3) 23 rfl w.heap.size 89 i0 (.agg #[.int .i64 0,.int .i64 0]) 2 16 underlying23 hi0 hz0 hz1 hz2 rfl (by decide) (.slice none 0 0) 0 [] rfl (World.ownsRow_nil _ _ _ _) ⟨b,off,none⟩ n cap cs rfl HN.out.1 HN.out.2.2.1 HN.out.2.1 HN.out.2.2.2.1 HN.out.2.2.2.2 nl ?_;intro v1 w1 hown hgrow _);have hB:=Below.grown (Below.refl _ _) hgrow nl (fun k hk=>by cases hk);rw [Nat.zero_add,List.nil_append] at hown;go_wp2;go_ret
  exact ⟨_,rfl,hown,hB⟩
theorem U4 (v:Value) (vals:List Value) (rows:List (List Int)) (hl:rows.length <= 5864062014805) (hb:∀ i (h:i < rows.length),rows[i].length <= 140737488355328) (w:World) (h:Es w v vals rows) (ρ:Nat->Nat) (r:Nat) :
 Calls prog 8 #[v] w fun e w'=>∃ v' vals' ρ',e = .returned v'/\O4 w w' ρ ρ' r rows.length v' vals' rows:=by
 obtain ⟨i0,hi0,hz0,hz1,hz2⟩:=Gx Akq;obtain ⟨a,cap,rfl,hc⟩:=h.open;obtain ⟨n,hn⟩:∃ n,n = rows.length:=⟨_,rfl⟩;rw [<- hn] at hl ⊢;have HC:=hid hc;have HN:=hid hn;have HLB:=hid hb;have HLL:=hid hl;clear hc hn h hb hl;go_enter func8,ntmps8;go_wp2
 go_loopw [3,4] (fun s3 s wr=>∃ (i:Nat) (vals':List Value) (ρ':Nat->Nat),i <= n/\s = .int .i64 i/\O4 w wr ρ ρ' r i s3 vals' rows) (fun _ s _=>n - (intOf s).toNat)
 case atStart=>exact ⟨0,[],ρ,Nat.zero_le _,rfl,O4.begin w ρ r rows⟩
 case round=>
  obtain ⟨i,vals',ρ',hi,rfl,hS⟩:=hrel;have HS:=hid hS;clear hS
  by_cases hlt:i < n
  ·obtain ⟨b,off,u,rfl,hb,hu,e0',hH⟩:=HC.out i (by rw [<- HN.out];exact hlt);have e0:wr.cell? ⟨b,off + i,none⟩ = some u:=(HS.out.bel.cell (p:=⟨b,off + i,none⟩) hb).trans e0';have HCL:=hid (fun w' (h:Held w' u (rows[i]'(by rw [<- HN.out];exact hlt)))=>Zw u _ w' h (HLB.out i (by rw [<- HN.out];exact hlt)));have HRD:=hid (hH.below HS.out.bel nl);clear e0' hH hu;have hj1:(0:Int) <= (i:Int):=by omega
   have hj3:(i:Int) < n:=by omega
   go_wp2_with fail;refine (HCL.out _ HRD.out).mono ?_;rintro e w1 ⟨v1,rfl,hown1,hB1⟩;obtain ⟨a1,n1,c1,rfl⟩:∃ a1 n1 c1,v1 = .slice a1 n1 c1:=by rcases hown1.2 with ⟨rfl,_⟩ | ⟨g,c,cur,rfl,_⟩ <;> exact ⟨_,_,_,rfl⟩
   have hS1:=HS.out.clone hB1;have hO1:=Jl (base:=w.heap.size) hown1 HS.out.bel.size ρ' (r + 1 + i);have hS2:=hS1.alloc (.cells #[.slice a1 n1 c1] 22);have hO2:=hO1.below ((Below.refl w1.heap.size w1).alloc nl (.cells #[.slice a1 n1 c1] 22))
   have hnews:∀ (j:Nat) (x:Value),[Value.slice a1 n1 c1][j]? = some x->(w1.alloc (.cells #[.slice a1 n1 c1] 22)).cell? ((⟨w1.heap.size,0,none⟩:Addr).add j) = some x:=by
    intro j x hx
    have hj:j = 0:=by cases j with
     | zero=>rfl
     | succ j=>simp at hx
    subst hj;simp at hx;rw [<- hx];show (w1.alloc (.cells #[.slice a1 n1 c1] 22)).cell? ⟨w1.heap.size,0,none⟩ = _;rw [(Row.made w1 [.slice a1 n1 c1] 22).cell];rfl
   have hone:∀ x ∈ [Value.slice a1 n1 c1],x.oneCell' = true:=by
    intro x hx;simp at hx;subst hx;rfl
   have HS2:=hid hS2;have HO2:=hid hO2;have J8:=hid (show i < rows.length by rw [<- HN.out];exact hlt);have hm1:i + 1 <= maxLen:=by have:=HLL.out;unfold maxLen;omega
   have hm2:(i + 1) * 24 <= 140737488355328:=by have:=HLL.out;omega
   have Lp:w.heap.size <= (w1.alloc (.cells #[.slice a1 n1 c1] 22)).heap.size:=hS2.bel.size;have Ru:=hid (And.intro Lp (And.intro hm1 hm2));clear hS1 hO1 hS2 hO2 hown1 hB1 Lp e0 hm1 hm2;go_wp2_with (at_builtin;refine Hg rfl (.tmp 11) (.tmp 17) 27 rfl w.heap.size 22 i0 (.slice none 0 0) 24 underlying27 hi0 hz0 hz1 hz2 rfl _ i _ rfl HS2.out.list.1 ⟨w1.heap.size,0,none⟩ 1 1 [.slice a1 n1 c1] rfl rfl hnews hone (by decide) Ru.out.2.1 Ru.out.2.2 Ru.out.1 ?_;intro g2 cap2 w2 hown hgrow hnew hlt2 hkeep);have HS3:=hid (HS2.out.append J8.out HO2.out hown hgrow hnew);clear hown hgrow hnew hlt2 hkeep hnews hone;have hwi:wrap64 ((i:Int) + 1) = ((i + 1:Nat):Int):=by have:=HLL.out;unfold wrap64;omega
   go_wp2
   go_roundw
   case rel=>exact ⟨i + 1,_,_,hlt,by rw [hwi],HS3.out⟩
   case measure=>
    rw [hwi];show n - ((i + 1:Nat):Int).toNat < n - ((i:Nat):Int).toNat;omega
  ·obtain rfl:i = n:=by omega
   go_wp2;go_ret
   exact ⟨_,_,_,rfl,HS.out⟩
structure KP (w:World) (pb rb:Nat) (e:TypeId) (ps:List Value) (n:Nat) (w':World):Prop where
 bel:Below w.heap.size w w'
 box:Row w' pb e ps
 res:∃ cs,Row w' rb e cs/\cs.length = n
 ne:pb ≠ rb
 lp:w.heap.size <= pb
 lr:w.heap.size <= rb
section
variable {w w1 w2:World} {pb rb n:Nat} {e:TypeId} {ps:List Value}
theorem KP.next (h:KP w pb rb e ps n w1) (hb:Below w1.heap.size w1 w2):KP w pb rb e ps n w2:=⟨h.bel.trans (hb.mono h.bel.size),h.box.below hb h.box.lt,let ⟨cs,hr,hl⟩:=h.res;⟨cs,hr.below hb hr.lt,hl⟩,h.ne,h.lp,h.lr⟩
theorem KP.put (h:KP w pb rb e ps n w1) (i:Nat) (x:Value):KP w pb rb e ps n (w1.setCell ⟨rb,i,none⟩ x):=⟨h.bel.setCell h.lr x,h.box.other _ _ h.ne,let ⟨cs,hr,hl⟩:=h.res;⟨cs.set i x,hr.put i x,by rw [List.length_set];exact hl⟩,h.ne,h.lp,h.lr⟩
theorem KP.at' (h:KP w pb rb e ps n w1) (i:Nat) (hi:i < n):(∃ x,w1.cell? ⟨rb,i,none⟩ = some x)/\w1.frozen? ⟨rb,i,none⟩ = false/\rb < w1.heap.size:=by
 obtain ⟨cs,hr,hl⟩:=h.res;exact ⟨⟨_,(hr.cell i).trans (List.getElem?_eq_getElem (by omega))⟩,hr.free i,hr.lt⟩
theorem KP.k5 {a b c d f:Value} (h:KP w pb rb e [a,b,c,d,f] n w1):w1.cell? ⟨pb,0,none⟩ = some a/\w1.cell? ⟨pb,1,none⟩ = some b/\w1.cell? ⟨pb,2,none⟩ = some c/\w1.cell? ⟨pb,3,none⟩ = some d/\w1.cell? ⟨pb,4,none⟩ = some f/\KP w pb rb e [a,b,c,d,f] n w1:=⟨by rw [h.box.cell];rfl,by rw [h.box.cell];rfl,by rw [h.box.cell];rfl,by rw [h.box.cell];rfl,by rw [h.box.cell];rfl,h⟩
theorem KP.n5 {a b c d f:Value} (h:w1.cell? ⟨pb,0,none⟩ = some a/\w1.cell? ⟨pb,1,none⟩ = some b/\w1.cell? ⟨pb,2,none⟩ = some c/\w1.cell? ⟨pb,3,none⟩ = some d/\w1.cell? ⟨pb,4,none⟩ = some f/\KP w pb rb e [a,b,c,d,f] n w1) (hb:Below w1.heap.size w1 w2):w2.cell? ⟨pb,0,none⟩ = some a/\w2.cell? ⟨pb,1,none⟩ = some b/\w2.cell? ⟨pb,2,none⟩ = some c/\w2.cell? ⟨pb,3,none⟩ = some d/\w2.cell? ⟨pb,4,none⟩ = some f/\KP w pb rb e [a,b,c,d,f] n w2:=(h.2.2.2.2.2.next hb).k5
theorem KP.s5 {a b c d f:Value} (h:w1.cell? ⟨pb,0,none⟩ = some a/\w1.cell? ⟨pb,1,none⟩ = some b/\w1.cell? ⟨pb,2,none⟩ = some c/\w1.cell? ⟨pb,3,none⟩ = some d/\w1.cell? ⟨pb,4,none⟩ = some f/\KP w pb rb e [a,b,c,d,f] n w1) (x0 x1 x2 x3 x4:Value) (W:World) (hW:W = ((((w1.setCell ⟨rb,0,none⟩ x0).setCell ⟨rb,1,none⟩ x1).setCell ⟨rb,2,none⟩ x2).setCell ⟨rb,3,none⟩ x3).setCell ⟨rb,4,none⟩ x4):W.cell? ⟨pb,0,none⟩ = some a/\W.cell? ⟨pb,1,none⟩ = some b/\W.cell? ⟨pb,2,none⟩ = some c/\W.cell? ⟨pb,3,none⟩ = some d/\W.cell? ⟨pb,4,none⟩ = some f/\KP w pb rb e [a,b,c,d,f] n W:=by
 subst hW;exact (((((h.2.2.2.2.2.put 0 x0).put 1 x1).put 2 x2).put 3 x3).put 4 x4).k5
end
section
variable {w w1 w2:World} {pb rb n:Nat} {e:TypeId} {ps:List Value}
theorem KP.A0o (h:KP w pb rb e ps 5 w1) (x0 x1 x2 x3 x4:Value):Row (((((w1.setCell ⟨rb,0,none⟩ x0).setCell ⟨rb,1,none⟩ x1).setCell ⟨rb,2,none⟩ x2).setCell ⟨rb,3,none⟩ x3).setCell ⟨rb,4,none⟩ x4) rb e [x0,x1,x2,x3,x4]:=by
 obtain ⟨cs,hr,hl⟩:=h.res;have h5:=(((((hr.put 0 x0).put 1 x1).put 2 x2).put 3 x3).put 4 x4)
 have e5:(((((cs.set 0 x0).set 1 x1).set 2 x2).set 3 x3).set 4 x4) = [x0,x1,x2,x3,x4]:=by
  match cs,hl with
  | [_,_,_,_,_],_=>rfl
 rw [e5] at h5;exact h5
theorem KP.k2 {a b:Value} (h:KP w pb rb e [a,b] 2 w1):w1.cell? ⟨pb,0,none⟩ = some a/\w1.cell? ⟨pb,1,none⟩ = some b/\KP w pb rb e [a,b] 2 w1:=⟨by rw [h.box.cell];rfl,by rw [h.box.cell];rfl,h⟩
theorem KP.n2 {a b:Value} (h:w1.cell? ⟨pb,0,none⟩ = some a/\w1.cell? ⟨pb,1,none⟩ = some b/\KP w pb rb e [a,b] 2 w1) (hb:Below w1.heap.size w1 w2):w2.cell? ⟨pb,0,none⟩ = some a/\w2.cell? ⟨pb,1,none⟩ = some b/\KP w pb rb e [a,b] 2 w2:=(h.2.2.next hb).k2
theorem KP.s2 {a b:Value} (h:w1.cell? ⟨pb,0,none⟩ = some a/\w1.cell? ⟨pb,1,none⟩ = some b/\KP w pb rb e [a,b] 2 w1) (x0 x1:Value) (W:World) (hW:W = ((w1.setCell ⟨rb,0,none⟩ x0).setCell ⟨rb,1,none⟩ x1)):W.cell? ⟨pb,0,none⟩ = some a/\W.cell? ⟨pb,1,none⟩ = some b/\KP w pb rb e [a,b] 2 W:=by
 subst hW;exact ((h.2.2.put 0 x0).put 1 x1).k2
theorem KP.Ahm (h:KP w pb rb e ps 2 w1) (x0 x1:Value):Row ((w1.setCell ⟨rb,0,none⟩ x0).setCell ⟨rb,1,none⟩ x1) rb e [x0,x1]:=by
 obtain ⟨cs,hr,hl⟩:=h.res;have h5:=((hr.put 0 x0).put 1 x1)
 have e5:((cs.set 0 x0).set 1 x1) = [x0,x1]:=by
  match cs,hl with
  | [_,_],_=>rfl
 rw [e5] at h5;exact h5
end
theorem Vy (l h:Int) (a1 a2 a3:Option Addr) (n1 c1 n2 c2 n3 c3:Nat):prog.built 26 [(0,.int .i64 l),(1,.int .i64 h),(2,.slice a1 n1 c1),(3,.slice a2 n2 c2),(4,.slice a3 n3 c3)] = some #[.int .i64 l,.int .i64 h,.slice a1 n1 c1,.slice a2 n2 c2,.slice a3 n3 c3]:=by kernel_rfl
theorem Xn (l h:Int) (a1 a2 a3:Option Addr) (n1 c1 n2 c2 n3 c3:Nat) (w:World):(Instr.build 26 #[(0,.int .i64 l),(1,.int .i64 h),(2,.slice a1 n1 c1),(3,.slice a2 n2 c2),(4,.slice a3 n3 c3)]).run prog w = .ok (.agg #[.int .i64 l,.int .i64 h,.slice a1 n1 c1,.slice a2 n2 c2,.slice a3 n3 c3]) w:=run_build w _ _ _ (Vy l h a1 a2 a3 n1 c1 n2 c2 n3 c3)
theorem Vz:(prog.info? 26).map (·.size) = some 5:=by kernel_rfl
theorem Xo (lo hi:Int) (data:List Int) (nt nc:Nat) (tcs ccs:List Value) (d0 t0 c0:Option Addr) (k0 k1 k2:Nat) (w:World) (hd:Held w (.slice d0 data.length k0) data) (ht:Reads w 2 (.slice t0 nt k1) nt tcs) (hc:Reads w 8 (.slice c0 nc k2) nc ccs) (hl1:data.length <= 140737488355328) (hl2:nt * 16 <= 140737488355328) (hl3:nc * 56 <= 140737488355328) :
 Calls prog 14 #[.agg #[.int .i64 lo,.int .i64 hi,.slice d0 data.length k0,.slice t0 nt k1,.slice c0 nc k2]] w fun e w'=>∃ da dc ta tc ca cc,e = .returned (.agg #[.int .i64 lo,.int .i64 hi,.slice da data.length dc,.slice ta nt tc,.slice ca nc cc])/\Below w.heap.size w w'/\w'.ownsRow w.heap.size 5 1 (.slice da data.length dc) data.length (Gp data)/\w'.ownsRow w.heap.size 89 2 (.slice ta nt tc) nt tcs/\w'.ownsRow w.heap.size 70 8 (.slice ca nc cc) nc ccs:=by
 have hbb:=Xn;have HCD:=hid (fun (w':World) (hS:w'.cell? ⟨w.heap.size,0,none⟩ = some (.int .i64 lo)/\w'.cell? ⟨w.heap.size,1,none⟩ = some (.int .i64 hi)/\w'.cell? ⟨w.heap.size,2,none⟩ = some (.slice d0 data.length k0)/\w'.cell? ⟨w.heap.size,3,none⟩ = some (.slice t0 nt k1)/\w'.cell? ⟨w.heap.size,4,none⟩ = some (.slice c0 nc k2)/\KP w w.heap.size (w.heap.size + 1) 26 [.int .i64 lo,.int .i64 hi,.slice d0 data.length k0,.slice t0 nt k1,.slice c0 nc k2] 5 w')=>Zw (.slice d0 data.length k0) data w' (hd.below hS.2.2.2.2.2.bel nl) hl1);have HCT:=hid (fun (w':World) (hS:w'.cell? ⟨w.heap.size,0,none⟩ = some (.int .i64 lo)/\w'.cell? ⟨w.heap.size,1,none⟩ = some (.int .i64 hi)/\w'.cell? ⟨w.heap.size,2,none⟩ = some (.slice d0 data.length k0)/\w'.cell? ⟨w.heap.size,3,none⟩ = some (.slice t0 nt k1)/\w'.cell? ⟨w.heap.size,4,none⟩ = some (.slice c0 nc k2)/\KP w w.heap.size (w.heap.size + 1) 26 [.int .i64 lo,.int .i64 hi,.slice d0 data.length k0,.slice t0 nt k1,.slice c0 nc k2] 5 w')=>Oy (.slice t0 nt k1) nt tcs w' (ht.below hS.2.2.2.2.2.bel nl) hl2);have HCC:=hid (fun (w':World) (hS:w'.cell? ⟨w.heap.size,0,none⟩ = some (.int .i64 lo)/\w'.cell? ⟨w.heap.size,1,none⟩ = some (.int .i64 hi)/\w'.cell? ⟨w.heap.size,2,none⟩ = some (.slice d0 data.length k0)/\w'.cell? ⟨w.heap.size,3,none⟩ = some (.slice t0 nt k1)/\w'.cell? ⟨w.heap.size,4,none⟩ = some (.slice c0 nc k2)/\KP w w.heap.size (w.heap.size + 1) 26 [.int .i64 lo,.int .i64 hi,.slice d0 data.length k0,.slice t0 nt k1,.slice c0 nc k2] 5 w')=>Aoq (.slice c0 nc k2) nc ccs w' (hc.below hS.2.2.2.2.2.bel nl) hl3);clear hd ht hc hl1 hl2 hl3;go_enter func14,ntmps14;go_upto_region 1 with fail
 have hKP:KP w w.heap.size (w.heap.size + 1) 26 [.int .i64 lo,.int .i64 hi,.slice d0 data.length k0,.slice t0 nt k1,.slice c0 nc k2] 5 ((w.alloc (.cells #[.int .i64 lo,.int .i64 hi,.slice d0 data.length k0,.slice t0 nt k1,.slice c0 nc k2] 26)).alloc (.cells #[.int .i64 0,.int .i64 0,.slice none 0 0,.slice none 0 0,.slice none 0 0] 26)):=
  ⟨(Ae w _).trans ((Ae _ _).mono (by simp)), (Row.made w [.int .i64 lo, .int .i64 hi, .slice d0 data.length k0, .slice t0 nt k1, .slice c0 nc k2] _).alloc _, ⟨[.int .i64 0, .int .i64 0, .slice none 0 0, .slice none 0 0, .slice none 0 0], by
    have:=Row.made (w.alloc (.cells #[.int .i64 lo,.int .i64 hi,.slice d0 data.length k0,.slice t0 nt k1,.slice c0 nc k2] 26)) [.int .i64 0,.int .i64 0,.slice none 0 0,.slice none 0 0,.slice none 0 0] 26;rw [show (w.alloc (.cells #[.int .i64 lo,.int .i64 hi,.slice d0 data.length k0,.slice t0 nt k1,.slice c0 nc k2] 26)).heap.size = w.heap.size + 1 by simp] at this;exact this,rfl⟩,by omega,Nat.le_refl _,by omega⟩
 try simp only [show (w.alloc (.cells #[.int .i64 lo,.int .i64 hi,.slice d0 data.length k0,.slice t0 nt k1,.slice c0 nc k2] 26)).heap.size = w.heap.size + 1 by simp]
 generalize World.alloc _ _ = wA at hKP ⊢;have hk0:=hKP.next (Below.refl _ _).drew;have hks:=hk0.k5
 go_region_held3 (fun w'=>w'.cell? ⟨w.heap.size,0,none⟩ = some (.int .i64 lo)/\w'.cell? ⟨w.heap.size,1,none⟩ = some (.int .i64 hi)/\w'.cell? ⟨w.heap.size,2,none⟩ = some (.slice d0 data.length k0)/\w'.cell? ⟨w.heap.size,3,none⟩ = some (.slice t0 nt k1)/\w'.cell? ⟨w.heap.size,4,none⟩ = some (.slice c0 nc k2)/\KP w w.heap.size (w.heap.size + 1) 26 [.int .i64 lo,.int .i64 hi,.slice d0 data.length k0,.slice t0 nt k1,.slice c0 nc k2] 5 w')
  (first
    | with_reducible assumption
    | exact KP.n5 (by with_reducible assumption) hbD
    | exact KP.n5 (by with_reducible assumption) hbT
    | exact KP.n5 (by with_reducible assumption) hbC
    | exact KP.s5 (by with_reducible assumption) _ _ _ _ _ _ rfl)
  (first
    | (go_at_call 27;refine (HCD.out _ (by with_reducible assumption)).mono ?_;rintro e wD ⟨vD,rfl,hoD,hbD⟩;obtain ⟨aD,kD,rfl⟩:=Ai hoD)
    | (go_at_call 6;refine (HCT.out _ (by with_reducible assumption)).mono ?_;rintro e wT ⟨vT,rfl,hoT,hbT⟩;obtain ⟨aT,kT,rfl⟩:=Ai hoT)
    | (go_at_call 40;refine (HCC.out _ (by with_reducible assumption)).mono ?_;rintro e wC ⟨vC,rfl,hoC,hbC⟩;obtain ⟨aC,kC,rfl⟩:=Ai hoC;have hK3:=KP.n5 (by with_reducible assumption) hbC;obtain ⟨⟨z0,hz0⟩,Ayy,A0p⟩:=hK3.2.2.2.2.2.at' 0 (by decide);obtain ⟨⟨z1,hz1⟩,hfz1,hlz1⟩:=hK3.2.2.2.2.2.at' 1 (by decide);obtain ⟨⟨z2,hz2⟩,A0i,A2h⟩:=hK3.2.2.2.2.2.at' 2 (by decide);obtain ⟨⟨z3,hz3⟩,A2i,A2j⟩:=hK3.2.2.2.2.2.at' 3 (by decide);obtain ⟨⟨z4,hz4⟩,A2k,A2l⟩:=hK3.2.2.2.2.2.at' 4 (by decide)))
 rename_i C9;go_wp2_with fail;have hz:w.heap.size + 1 < wA.drew.heap.size:=by obtain ⟨cs,hr,_⟩:=hk0.res;exact hr.lt
 have s1:=hbD.size;have s2:=hbT.size;have hR:=hK3.2.2.2.2.2.A0o (.int .i64 lo) (.int .i64 hi) (.slice aD data.length kD) (.slice aT nt kT) (.slice aC nc kC);have hB:=C9.2.2.2.2.2.bel;have oD:=Dn (Dn hoD hbT nl) hbC nl;have oT:=Dn hoT hbC nl;have oC:=hoC;refine bodyPost_ret (v:=.agg #[.int .i64 lo,.int .i64 hi,.slice aD data.length kD,.slice aT nt kT,.slice aC nc kC]) (results_cell_row (p:=2) results14 _ _ (w.heap.size + 1) _ _ (0,0) _ rfl hR underlying26 rfl Vz) rfl ⟨_,_,_,_,_,_,rfl,hB,?_,?_,?_⟩
 ·exact Gz (Dz (Dz (Dz (Dz (Dz oD (by omega) _ _) (by omega) _ _) (by omega) _ _) (by omega) _ _) (by omega) _ _) (by omega)
 ·exact Gz (Dz (Dz (Dz (Dz (Dz oT (by omega) _ _) (by omega) _ _) (by omega) _ _) (by omega) _ _) (by omega) _ _) (by omega)
 ·exact Gz (Dz (Dz (Dz (Dz (Dz oC (by omega) _ _) (by omega) _ _) (by omega) _ _) (by omega) _ _) (by omega) _ _) (by omega)
theorem Yw (a1 a2:Option Addr) (n1 c1 n2 c2:Nat):prog.built 29 [(0,.slice a1 n1 c1),(1,.slice a2 n2 c2)] = some #[.slice a1 n1 c1,.slice a2 n2 c2]:=by kernel_rfl
theorem Zv (a1 a2:Option Addr) (n1 c1 n2 c2:Nat) (w:World):(Instr.build 29 #[(0,.slice a1 n1 c1),(1,.slice a2 n2 c2)]).run prog w = .ok (.agg #[.slice a1 n1 c1,.slice a2 n2 c2]) w:=run_build w _ _ _ (Yw a1 a2 n1 c1 n2 c2)
theorem Yx:(prog.info? 29).map (·.size) = some 2:=by kernel_rfl
theorem ug (ctx:List Int) (vals:List Value) (rows:List (List Int)) (d0 t0:Option Addr) (k0 k1:Nat) (w:World) (hd:Held w (.slice d0 ctx.length k0) ctx) (ht:Es w (.slice t0 rows.length k1) vals rows) (hl1:ctx.length <= 140737488355328) (hl2:rows.length <= 5864062014805) (hl3:∀ i (h:i < rows.length),rows[i].length <= 140737488355328) :
 Calls prog 15 #[.agg #[.slice d0 ctx.length k0,.slice t0 rows.length k1]] w fun e w'=>∃ da dc ta tc vals',e = .returned (.agg #[.slice da ctx.length dc,.slice ta rows.length tc])/\Below w.heap.size w w'/\w'.ownsRow w.heap.size 5 1 (.slice da ctx.length dc) ctx.length (Gp ctx)/\∃ ρ,F9 w' w.heap.size ρ (.slice ta rows.length tc) vals' rows:=by
 have hbb:=Zv;have HCD:=hid (fun (w':World) (hS:w'.cell? ⟨w.heap.size,0,none⟩ = some (.slice d0 ctx.length k0)/\w'.cell? ⟨w.heap.size,1,none⟩ = some (.slice t0 rows.length k1)/\KP w w.heap.size (w.heap.size + 1) 29 [.slice d0 ctx.length k0,.slice t0 rows.length k1] 2 w')=>Zw (.slice d0 ctx.length k0) ctx w' (hd.below hS.2.2.bel nl) hl1);have HCT:=hid (fun (w':World) (hS:w'.cell? ⟨w.heap.size,0,none⟩ = some (.slice d0 ctx.length k0)/\w'.cell? ⟨w.heap.size,1,none⟩ = some (.slice t0 rows.length k1)/\KP w w.heap.size (w.heap.size + 1) 29 [.slice d0 ctx.length k0,.slice t0 rows.length k1] 2 w')=>U4 (.slice t0 rows.length k1) vals rows hl2 hl3 w' (ht.below hS.2.2.bel nl) (fun _=>0) 10);clear hd ht hl1 hl2 hl3;go_enter func15,ntmps15;go_upto_region 1 with fail
 have hKP:KP w w.heap.size (w.heap.size + 1) 29 [.slice d0 ctx.length k0,.slice t0 rows.length k1] 2 ((w.alloc (.cells #[.slice d0 ctx.length k0,.slice t0 rows.length k1] 29)).alloc (.cells #[.slice none 0 0,.slice none 0 0] 29)):=
  ⟨(Ae w _).trans ((Ae _ _).mono (by simp)), (Row.made w [.slice d0 ctx.length k0, .slice t0 rows.length k1] _).alloc _, ⟨[.slice none 0 0, .slice none 0 0], by
    have:=Row.made (w.alloc (.cells #[.slice d0 ctx.length k0,.slice t0 rows.length k1] 29)) [.slice none 0 0,.slice none 0 0] 29;rw [show (w.alloc (.cells #[.slice d0 ctx.length k0,.slice t0 rows.length k1] 29)).heap.size = w.heap.size + 1 by simp] at this;exact this,rfl⟩,by omega,Nat.le_refl _,by omega⟩
 try simp only [show (w.alloc (.cells #[.slice d0 ctx.length k0,.slice t0 rows.length k1] 29)).heap.size = w.heap.size + 1 by simp]
 generalize World.alloc _ _ = wA at hKP ⊢;have hk0:=hKP.next (Below.refl _ _).drew;have hks:=hk0.k2
 go_region_held3 (fun w'=>w'.cell? ⟨w.heap.size,0,none⟩ = some (.slice d0 ctx.length k0)/\w'.cell? ⟨w.heap.size,1,none⟩ = some (.slice t0 rows.length k1)/\KP w w.heap.size (w.heap.size + 1) 29 [.slice d0 ctx.length k0,.slice t0 rows.length k1] 2 w')
  (first
    | with_reducible assumption
    | exact KP.n2 (by with_reducible assumption) hbD
    | exact KP.n2 (by with_reducible assumption) hT.bel
    | exact KP.s2 (by with_reducible assumption) _ _ _ rfl)
  (first
    | (go_at_call 27;refine (HCD.out _ (by with_reducible assumption)).mono ?_;rintro e wD ⟨vD,rfl,hoD,hbD⟩;obtain ⟨aD,kD,rfl⟩:=Ai hoD)
    | (go_at_call 8;refine (HCT.out _ (by with_reducible assumption)).mono ?_;rintro e wT ⟨vT,Zf,Xa,rfl,hT⟩;obtain ⟨aT,kT,rfl⟩:=Ai hT.list.1;have hK3:=KP.n2 (by with_reducible assumption) hT.bel;obtain ⟨⟨z0,hz0⟩,Ayy,A0p⟩:=hK3.2.2.at' 0 (by decide);obtain ⟨⟨z1,hz1⟩,hfz1,hlz1⟩:=hK3.2.2.at' 1 (by decide)))
 rename_i C9;go_wp2_with fail;have hz:w.heap.size + 1 < wA.drew.heap.size:=by obtain ⟨cs,hr,_⟩:=hk0.res;exact hr.lt
 have s1:=hbD.size;have hR:=hK3.2.2.Ahm (.slice aD ctx.length kD) (.slice aT rows.length kT);have hB:=C9.2.2.bel;have oD:=Dn hoD hT.bel nl;have hTT:F9 wT w.heap.size Xa (.slice aT rows.length kT) Zf rows:=⟨hT.list.low (by omega),fun k hk=>let ⟨u,hu,ho⟩:=hT.item k hk hk;⟨u,hu,ho.low (by omega)⟩⟩;refine bodyPost_ret (v:=.agg #[.slice aD ctx.length kD,.slice aT rows.length kT]) (results_cell_row (p:=2) results15 _ _ (w.heap.size + 1) _ _ (0,0) _ rfl hR underlying29 rfl Yx) rfl ⟨_,_,_,_,Zf,rfl,hB,?_,Xa,?_⟩
 ·exact Gz (Dz (Dz oD (by omega) _ _) (by omega) _ _) (by omega)
 ·exact ⟨⟨Gz (Dz (Dz hT.list.1 (by omega) _ _) (by omega) _ _) (by omega),hTT.list.2⟩,fun k hk=>let ⟨u,hu,ho⟩:=hT.item k hk hk;⟨u,hu,⟨Gz (Dz (Dz ho.1 (by omega) _ _) (by omega) _ _) (by omega),ho.2⟩⟩⟩
structure KZ (W:World) (ps xs:List Value) (w:World):Prop where
 bel:Below W.heap.size W w
 prg:Row w W.heap.size 26 ps
 inp:Row w (W.heap.size + 1) 29 xs
theorem KZ.next {W:World} {ps xs:List Value} {w w':World} (h:KZ W ps xs w) (hb:Below w.heap.size w w'):KZ W ps xs w':=⟨h.bel.trans (hb.mono h.bel.size),h.prg.below hb h.prg.lt,h.inp.below hb h.inp.lt⟩
section
variable {W w w':World} {a b c d f x y:Value}
theorem KZ.k (h:KZ W [a,b,c,d,f] [x,y] w):w.cell? ⟨W.heap.size,0,none⟩ = some a/\w.cell? ⟨W.heap.size,1,none⟩ = some b/\w.cell? ⟨W.heap.size,2,none⟩ = some c/\w.cell? ⟨W.heap.size,3,none⟩ = some d/\w.cell? ⟨W.heap.size,4,none⟩ = some f/\w.cell? ⟨W.heap.size + 1,0,none⟩ = some x/\w.cell? ⟨W.heap.size + 1,1,none⟩ = some y/\KZ W [a,b,c,d,f] [x,y] w:=
 ⟨by rw [h.prg.cell];rfl,by rw [h.prg.cell];rfl,by rw [h.prg.cell];rfl,by rw [h.prg.cell];rfl,by rw [h.prg.cell];rfl,by rw [h.inp.cell];rfl,by rw [h.inp.cell];rfl,h⟩
theorem KZ.n (h:w.cell? ⟨W.heap.size,0,none⟩ = some a/\w.cell? ⟨W.heap.size,1,none⟩ = some b/\w.cell? ⟨W.heap.size,2,none⟩ = some c/\w.cell? ⟨W.heap.size,3,none⟩ = some d/\w.cell? ⟨W.heap.size,4,none⟩ = some f/\w.cell? ⟨W.heap.size + 1,0,none⟩ = some x/\w.cell? ⟨W.heap.size + 1,1,none⟩ = some y/\KZ W [a,b,c,d,f] [x,y] w) (hb:Below w.heap.size w w') :
 w'.cell? ⟨W.heap.size,0,none⟩ = some a/\w'.cell? ⟨W.heap.size,1,none⟩ = some b/\w'.cell? ⟨W.heap.size,2,none⟩ = some c/\w'.cell? ⟨W.heap.size,3,none⟩ = some d/\w'.cell? ⟨W.heap.size,4,none⟩ = some f/\w'.cell? ⟨W.heap.size + 1,0,none⟩ = some x/\w'.cell? ⟨W.heap.size + 1,1,none⟩ = some y/\KZ W [a,b,c,d,f] [x,y] w':=(h.2.2.2.2.2.2.2.next hb).k
end
theorem Af1 (ts:List (Int × Int)):∀ u ∈ Va ts,u.oneCell' = true:=by
 intro u hu;obtain ⟨t,_,ht⟩:=List.mem_flatMap.1 hu;simp only [List.mem_cons,List.not_mem_nil,or_false] at ht
 rcases ht with rfl | rfl <;> rfl
theorem uh (p:Vo) (ctx:List Int) (rows:List (List Int)) (hpd:Ah p.data) (hxb:Ah ctx) (hrb:∀ k (h:k < rows.length),Ah rows[k])
 (hld:p.data.length <= 140737488355328) (hlt:p.tabs.length * 16 <= 140737488355328) (hlc:p.code.length * 56 <= 140737488355328) (hxl:ctx.length <= 140737488355328) (hrl:rows.length <= 5864062014805)
 (w0 w1 w2:World) (da ta ca xa ra:Option Addr) (dc tc cc xc rc:Nat) (vals:List Value) (ρ5:Nat->Nat)
 (o1:w1.ownsRow w0.heap.size 5 1 (.slice da p.data.length dc) p.data.length (Gp p.data)) (o2:w1.ownsRow w0.heap.size 89 2 (.slice ta p.tabs.length tc) p.tabs.length (Va p.tabs)) (o3:w1.ownsRow w0.heap.size 70 8 (.slice ca p.code.length cc) p.code.length (Dj p.code))
 (hb:Below w1.heap.size w1 w2) (o4:w2.ownsRow w1.heap.size 5 1 (.slice xa ctx.length xc) ctx.length (Gp ctx)) (o5:F9 w2 w1.heap.size ρ5 (.slice ra rows.length rc) vals rows) :
 Calls prog 9 #[.agg #[.int .i64 p.lo,.int .i64 p.hi,.slice da p.data.length dc,.slice ta p.tabs.length tc,.slice ca p.code.length cc],.agg #[.slice xa ctx.length xc,.slice ra rows.length rc]] w2 fun e w'=>
  (newE p ctx rows = 0/\∃ bx v,e = .returned (.tuple #[.pointer (some ⟨bx,0,none⟩),.int .i64 0])/\MS w2.heap.size w2 ⟨p.data,p.tabs,p.code⟩ (stG ctx rows) bx v w') \/
  (newE p ctx rows ≠ 0/\e = .returned (.tuple #[.pointer none,.int .i64 (newE p ctx rows)])/\Below w2.heap.size w2 w'):=
 new_any p da ta ca xa ra dc tc cc xc rc ctx vals rows (by omega) (by omega) (by omega) (by omega) (by omega) w2
  ((Dq o1 hpd rfl).below hb nl) ((Gl o2 (Af1 _) (by decide)).below hb nl) ((Gl o3 (Ut _) (by decide)).below hb nl) (Dq o4 hxb rfl) (Ho o5 hrb)
end Go.Proofs.YtjacnhnaoenelaaGreat

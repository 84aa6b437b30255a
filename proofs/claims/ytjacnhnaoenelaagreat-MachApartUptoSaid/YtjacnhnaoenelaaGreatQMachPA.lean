import Derived.Test.YtjacnhnaoenelaaGreatQGb1
set_option maxRecDepth 100000
set_option maxHeartbeats 1600000
namespace Go.Proofs.YtjacnhnaoenelaaGreat
open Lib (hid)
open Go.Proofs.Tryz
open Go.RowKit
set_option linter.unusedVariables false
set_option linter.unusedSimpArgs false
theorem Abd (d:Nat) (t:TypeId) (a:Bool) (h:prog.underlying t = some .bool) (w:World):(Op.equalIn (d + 1) t (.bool a) (.bool a)).run prog w = .ok true w:=by
 simp [Op.equalIn,run_underlying h]
theorem Aft (x:Ins) (n:Nat) (w:World):(Op.equalIn (n + 2) 70 (.agg x.cs.toArray) (.agg x.cs.toArray)).run prog w = .ok true w:=by
 obtain ⟨a,b,c,d,e,f,g,h⟩:=x;show (Op.equalIn (n + 2) 70 (.agg #[.int .i64 a,.bool b,.bool c,.int .i64 d,.int .i64 e,.int .i64 f,.int .i64 g,.int .i64 h]) (.agg #[.int .i64 a,.bool b,.bool c,.int .i64 d,.int .i64 e,.int .i64 f,.int .i64 g,.int .i64 h])).run prog w = .ok true w;rw [run_equalIn_struct w (n + 1) 70 _ _ (by kernel_rfl) (by kernel_rfl)]
 obtain ⟨f0,f1,f2,f3,f4,f5,f6,f7,hf,h0,h1,h2,h3,h4,h5,h6,h7⟩:∃ f0 f1 f2 f3 f4 f5 f6 f7:Field,(prog.fieldsOf 70).toList = [f0,f1,f2,f3,f4,f5,f6,f7]/\(f0.name ≠ "_"/\f0.type = 3/\f0.offset = 0)/\(f1.name ≠ "_"/\f1.type = 4/\f1.offset = 1)/\(f2.name ≠ "_"/\f2.type = 4/\f2.offset = 2)/\(f3.name ≠ "_"/\f3.type = 3/\f3.offset = 3)/\(f4.name ≠ "_"/\f4.type = 3/\f4.offset = 4)/\(f5.name ≠ "_"/\f5.type = 3/\f5.offset = 5)/\(f6.name ≠ "_"/\f6.type = 3/\f6.offset = 6)/\(f7.name ≠ "_"/\f7.type = 3/\f7.offset = 7):=
  ⟨_,_,_,_,_,_,_,_,rfl,⟨by decide,rfl,rfl⟩,⟨by decide,rfl,rfl⟩,⟨by decide,rfl,rfl⟩,⟨by decide,rfl,rfl⟩,⟨by decide,rfl,rfl⟩,⟨by decide,rfl,rfl⟩,⟨by decide,rfl,rfl⟩,⟨by decide,rfl,rfl⟩⟩
 rw [hf];refine F5 h0.1 (a:=.int .i64 a) (b:=.int .i64 a) (by rw [h0.2.1,h0.2.2];rfl) (by rw [h0.2.1,h0.2.2];rfl) (by rw [h0.2.1];exact Gv n 3 .i64 a (by kernel_rfl) w) ?_;refine F5 h1.1 (a:=.bool b) (b:=.bool b) (by rw [h1.2.1,h1.2.2];rfl) (by rw [h1.2.1,h1.2.2];rfl) (by rw [h1.2.1];exact Abd n 4 b (by kernel_rfl) w) ?_;refine F5 h2.1 (a:=.bool c) (b:=.bool c) (by rw [h2.2.1,h2.2.2];rfl) (by rw [h2.2.1,h2.2.2];rfl) (by rw [h2.2.1];exact Abd n 4 c (by kernel_rfl) w) ?_;refine F5 h3.1 (a:=.int .i64 d) (b:=.int .i64 d) (by rw [h3.2.1,h3.2.2];rfl) (by rw [h3.2.1,h3.2.2];rfl) (by rw [h3.2.1];exact Gv n 3 .i64 d (by kernel_rfl) w) ?_;refine F5 h4.1 (a:=.int .i64 e) (b:=.int .i64 e) (by rw [h4.2.1,h4.2.2];rfl) (by rw [h4.2.1,h4.2.2];rfl) (by rw [h4.2.1];exact Gv n 3 .i64 e (by kernel_rfl) w) ?_;refine F5 h5.1 (a:=.int .i64 f) (b:=.int .i64 f) (by rw [h5.2.1,h5.2.2];rfl) (by rw [h5.2.1,h5.2.2];rfl) (by rw [h5.2.1];exact Gv n 3 .i64 f (by kernel_rfl) w) ?_;refine F5 h6.1 (a:=.int .i64 g) (b:=.int .i64 g) (by rw [h6.2.1,h6.2.2];rfl) (by rw [h6.2.1,h6.2.2];rfl) (by rw [h6.2.1];exact Gv n 3 .i64 g (by kernel_rfl) w) ?_;refine F5 h7.1 (a:=.int .i64 h) (b:=.int .i64 h) (by rw [h7.2.1,h7.2.2];rfl) (by rw [h7.2.1,h7.2.2];rfl) (by rw [h7.2.1];exact Gv n 3 .i64 h (by kernel_rfl) w) ?_;rfl
theorem Aus (x:Ins) (w:World):(binOp .neq 70 (.agg x.cs.toArray) (.agg x.cs.toArray)).run prog w = .ok (.bool false) w:=by
 rw [run_neq_struct,show (10000:Nat) = 9998 + 2 from rfl,Aft];rfl
theorem Aut (x:Ins) (w:World):(binOp .eql 70 (.agg x.cs.toArray) (.agg x.cs.toArray)).run prog w = .ok (.bool true) w:=by
 rw [run_eql_struct,show (10000:Nat) = 9998 + 2 from rfl,Aft];rfl
theorem Auu (a b:Int) (w:World):(binOp .neq 89 (.agg #[.int .i64 a,.int .i64 b]) (.agg #[.int .i64 a,.int .i64 b])).run prog w = .ok (.bool false) w:=by
 rw [run_neq_struct,show (10000:Nat) = 9998 + 2 from rfl,run_equalIn_struct w (9998 + 1) 89 _ _ (by kernel_rfl) (by kernel_rfl)]
 obtain ⟨f0,f1,hf,h0,h1⟩:∃ f0 f1:Field,(prog.fieldsOf 89).toList = [f0,f1]/\(f0.name ≠ "_"/\f0.type = 3/\f0.offset = 0)/\(f1.name ≠ "_"/\f1.type = 3/\f1.offset = 1):=
  ⟨_,_,rfl,⟨by decide,rfl,rfl⟩,⟨by decide,rfl,rfl⟩⟩
 rw [hf,F5 h0.1 (a:=.int .i64 a) (b:=.int .i64 a) (by rw [h0.2.1,h0.2.2];rfl) (by rw [h0.2.1,h0.2.2];rfl) (by rw [h0.2.1];exact Gv 9998 3 .i64 a (by kernel_rfl) w)
  (F5 h1.1 (a:=.int .i64 b) (b:=.int .i64 b) (by rw [h1.2.1,h1.2.2];rfl) (by rw [h1.2.1,h1.2.2];rfl) (by rw [h1.2.1];exact Gv 9998 3 .i64 b (by kernel_rfl) w) rfl)]
 rfl
theorem Abe (v1 v2:Value) (l:List Ins) (hl:l.length <= 9223372036854775807) (w:World) (h1:Fa w v1 l) (h2:Fa w v2 l) :
 Calls prog 39 #[v1,v2] w fun e w'=>e = .returned (.bool true)/\∃ n,w' = w.drewN n:=by
 obtain ⟨a1,k1,rfl,hc1⟩:=h1.open;obtain ⟨a2,k2,rfl,hc2⟩:=h2.open;obtain ⟨n,hn⟩:∃ n,n = l.length:=⟨_,rfl⟩;rw [<- hn] at hl ⊢;have HN:=hid hn;have HC1:=hid hc1;have HC2:=hid hc2;clear hn hc1 hc2 h1 h2;have hnn:((n:Int) != n) = false:=by simp
 go_enter func39,ntmps39;go_wp2
 go_loopw [5] (fun s wr=>∃ i:Nat,i <= n/\s = .int .i64 i/\(∀ a,wr.cell? a = w.cell? a)/\∃ k,wr = w.drewN k) (fun s _=>n - (intOf s).toNat)
 case atStart=>exact ⟨0,Nat.zero_le _,rfl,fun _=>rfl,0,rfl⟩
 case round=>
  obtain ⟨i,hi,rfl,hcw,k,hk⟩:=hrel;have HK:=hid hk;clear hk
  by_cases hlt:i < n
  ·have hlr:i < l.length:=by have:=HN.out;omega
   obtain ⟨b1,o1,rfl,_,c1⟩:=HC1.out i hlr;obtain ⟨b2,o2,rfl,_,c2⟩:=HC2.out i hlr;obtain ⟨x,hx⟩:∃ x,x = l[i]:=⟨_,rfl⟩;rw [<- hx] at c1 c2;obtain ⟨x0,x1,x2,x3,x4,x5,x6,x7⟩:=x;have hq:=fun w=>Aus ⟨x0,x1,x2,x3,x4,x5,x6,x7⟩ w;change ∀ w,(binOp .neq 70 (.agg #[.int .i64 x0,.bool x1,.bool x2,.int .i64 x3,.int .i64 x4,.int .i64 x5,.int .i64 x6,.int .i64 x7]) (.agg #[.int .i64 x0,.bool x1,.bool x2,.int .i64 x3,.int .i64 x4,.int .i64 x5,.int .i64 x6,.int .i64 x7])).run prog w = .ok (.bool false) w at hq;have e10:wr.cell? ⟨b1,o1 + i * 8,none⟩ = some (.int .i64 x0):=(hcw _).trans (c1 0 (by decide));have e11:wr.cell? ⟨b1,o1 + i * 8 + 1,none⟩ = some (.bool x1):=(hcw _).trans (c1 1 (by decide));have e12:wr.cell? ⟨b1,o1 + i * 8 + 2,none⟩ = some (.bool x2):=(hcw _).trans (c1 2 (by decide));have e13:wr.cell? ⟨b1,o1 + i * 8 + 3,none⟩ = some (.int .i64 x3):=(hcw _).trans (c1 3 (by decide));have e14:wr.cell? ⟨b1,o1 + i * 8 + 4,none⟩ = some (.int .i64 x4):=(hcw _).trans (c1 4 (by decide));have e15:wr.cell? ⟨b1,o1 + i * 8 + 5,none⟩ = some (.int .i64 x5):=(hcw _).trans (c1 5 (by decide));have e16:wr.cell? ⟨b1,o1 + i * 8 + 6,none⟩ = some (.int .i64 x6):=(hcw _).trans (c1 6 (by decide));have e17:wr.cell? ⟨b1,o1 + i * 8 + 7,none⟩ = some (.int .i64 x7):=(hcw _).trans (c1 7 (by decide));have e20:wr.cell? ⟨b2,o2 + i * 8,none⟩ = some (.int .i64 x0):=(hcw _).trans (c2 0 (by decide));have e21:wr.cell? ⟨b2,o2 + i * 8 + 1,none⟩ = some (.bool x1):=(hcw _).trans (c2 1 (by decide));have e22:wr.cell? ⟨b2,o2 + i * 8 + 2,none⟩ = some (.bool x2):=(hcw _).trans (c2 2 (by decide));have e23:wr.cell? ⟨b2,o2 + i * 8 + 3,none⟩ = some (.int .i64 x3):=(hcw _).trans (c2 3 (by decide));have e24:wr.cell? ⟨b2,o2 + i * 8 + 4,none⟩ = some (.int .i64 x4):=(hcw _).trans (c2 4 (by decide));have e25:wr.cell? ⟨b2,o2 + i * 8 + 5,none⟩ = some (.int .i64 x5):=(hcw _).trans (c2 5 (by decide));have e26:wr.cell? ⟨b2,o2 + i * 8 + 6,none⟩ = some (.int .i64 x6):=(hcw _).trans (c2 6 (by decide));have e27:wr.cell? ⟨b2,o2 + i * 8 + 7,none⟩ = some (.int .i64 x7):=(hcw _).trans (c2 7 (by decide));clear hcw c1 c2 hx;have hj1:(0:Int) <= (i:Int):=by omega
   have hj3:(i:Int) < n:=by omega
   go_wp2
   go_quiet (fail)
   go_wp2
   go_roundw
   case rel=>exact ⟨i + 1,hlt,by go_num,fun a=>by rw [HK.out];rfl,k + nq,by rw [HK.out,drewN_drewN]⟩
   case measure=>simp [intOf];omega
  ·obtain rfl:i = n:=by omega
   go_wp2;go_ret
   exact ⟨rfl,k,HK.out⟩
theorem Afu (v1 v2:Value) (l:List (Int × Int)) (hl:l.length <= 9223372036854775807) (w:World) (h1:Tabs w v1 l) (h2:Tabs w v2 l) :
 Calls prog 38 #[v1,v2] w fun e w'=>e = .returned (.bool true)/\∃ n,w' = w.drewN n:=by
 obtain ⟨a1,k1,rfl,hc1⟩:=h1.open;obtain ⟨a2,k2,rfl,hc2⟩:=h2.open;obtain ⟨n,hn⟩:∃ n,n = l.length:=⟨_,rfl⟩;rw [<- hn] at hl ⊢;have HN:=hid hn;have HC1:=hid hc1;have HC2:=hid hc2;clear hn hc1 hc2 h1 h2;have hnn:((n:Int) != n) = false:=by simp
 go_enter func38,ntmps38;go_wp2
 go_loopw [5] (fun s wr=>∃ i:Nat,i <= n/\s = .int .i64 i/\(∀ a,wr.cell? a = w.cell? a)/\∃ k,wr = w.drewN k) (fun s _=>n - (intOf s).toNat)
 case atStart=>exact ⟨0,Nat.zero_le _,rfl,fun _=>rfl,0,rfl⟩
 case round=>
  obtain ⟨i,hi,rfl,hcw,k,hk⟩:=hrel;have HK:=hid hk;clear hk
  by_cases hlt:i < n
  ·have hlr:i < l.length:=by have:=HN.out;omega
   obtain ⟨b1,o1,rfl,_,e1,e2⟩:=HC1.out i hlr;obtain ⟨b2,o2,rfl,_,e3,e4⟩:=HC2.out i hlr;rw [<- hcw] at e1 e2 e3 e4;obtain ⟨x,hx⟩:∃ x,x = l[i]:=⟨_,rfl⟩;rw [<- hx] at e1 e2 e3 e4;obtain ⟨x0,x1⟩:=x;simp only at e1 e2 e3 e4;have hq:=fun w=>Auu x0 x1 w;clear hcw hx;have hj1:(0:Int) <= (i:Int):=by omega
   have hj3:(i:Int) < n:=by omega
   go_wp2
   go_quiet (fail)
   go_wp2
   go_roundw
   case rel=>exact ⟨i + 1,hlt,by go_num,fun a=>by rw [HK.out];rfl,k + nq,by rw [HK.out,drewN_drewN]⟩
   case measure=>simp [intOf];omega
  ·obtain rfl:i = n:=by omega
   go_wp2;go_ret
   exact ⟨rfl,k,HK.out⟩
theorem Acv (lo hi:Int) (data:List Int) (tabs:List (Int × Int)) (code:List Ins) (d1 t1 c1 d2 t2 c2:Value) (hl1:tabs.length <= 9223372036854775807) (hl2:code.length <= 9223372036854775807) (w:World)
 (hd1:Held w d1 data) (ht1:Tabs w t1 tabs) (hc1:Fa w c1 code) (hd2:Held w d2 data) (ht2:Tabs w t2 tabs) (hc2:Fa w c2 code) :
 Calls prog 11 #[.agg #[.int .i64 lo,.int .i64 hi,d1,t1,c1],.agg #[.int .i64 lo,.int .i64 hi,d2,t2,c2]] w fun e w'=>e = .returned (.bool true)/\Below w.heap.size w w':=by
 obtain ⟨_,_,rfl⟩:=Gy hd1;obtain ⟨_,_,rfl⟩:=Gy hd2;obtain ⟨_,_,rfl,_⟩:=ht1.open;obtain ⟨_,_,rfl,_⟩:=ht2.open;obtain ⟨_,_,rfl,_⟩:=hc1.open;obtain ⟨_,_,rfl,_⟩:=hc2.open;have HH:=hid (And.intro hd1 (And.intro hd2 (And.intro ht1 (And.intro ht2 (And.intro hc1 (And.intro hc2 (And.intro hl1 hl2)))))));clear hd1 hd2 ht1 ht2 hc1 hc2 hl1 hl2;have hrr:(lo == lo) = true:=by simp
 have hss:(hi == hi) = true:=by simp
 go_enter func11,ntmps11;go_upto_region 1 with fail;have hB:∀ o1 o2,Below w.heap.size w ((w.alloc o1).alloc o2):=fun o1 o2=>(Ae w _).trans ((Ae _ _).mono (by simp));have HB:=hid hB;clear hB
 go_wp2_with (first
  | (go_at_call 36;go_loud (refine (Uf _ _ data _ (HH.out.1.below (HB.out _ _) nl) (HH.out.2.1.below (HB.out _ _) nl)).mono ?_;rintro e w' ⟨rfl,rfl⟩))
  | (go_at_call 38;go_loud (refine (Afu _ _ tabs HH.out.2.2.2.2.2.2.1 _ (Reads.below HH.out.2.2.1 (HB.out _ _) nl) (Reads.below HH.out.2.2.2.1 (HB.out _ _) nl)).mono ?_;rintro e w' ⟨rfl,n1,rfl⟩))
  | (go_at_call 39;go_loud (refine (Abe _ _ code HH.out.2.2.2.2.2.2.2 _ (Reads.below HH.out.2.2.2.2.1 (below_drewN (HB.out _ _) _) nl) (Reads.below HH.out.2.2.2.2.2.1 (below_drewN (HB.out _ _) _) nl)).mono ?_;rintro e w' ⟨rfl,n2,rfl⟩)))
 go_ret
 exact ⟨rfl,by first | exact below_drewN (HB.out _ _) _ | exact below_drewN (below_drewN (HB.out _ _) _) _⟩
theorem Ajd (ctx:List Int) (rows:List (List Int)) (va vb:List Value) (x1 r1 x2 r2:Value) (hl:rows.length <= 9223372036854775807) (w:World)
 (hx1:Held w x1 ctx) (hr1:Es w r1 va rows) (hx2:Held w x2 ctx) (hr2:Es w r2 vb rows) :
 Calls prog 10 #[.agg #[x1,r1],.agg #[x2,r2]] w fun e w'=>e = .returned (.bool true)/\Below w.heap.size w w':=by
 obtain ⟨_,_,rfl⟩:=Gy hx1;obtain ⟨_,_,rfl⟩:=Gy hx2;obtain ⟨_,_,rfl,_⟩:=hr1.open;obtain ⟨_,_,rfl,_⟩:=hr2.open;have HH:=hid (And.intro hx1 (And.intro hx2 (And.intro hr1 (And.intro hr2 hl))));clear hx1 hx2 hr1 hr2 hl;go_enter func10,ntmps10;go_upto_region 1 with fail;have hB:∀ o1 o2,Below w.heap.size w ((w.alloc o1).alloc o2):=fun o1 o2=>(Ae w _).trans ((Ae _ _).mono (by simp));have HB:=hid hB;clear hB
 go_wp2_with (first
  | (go_at_call 36;go_loud (refine (Uf _ _ ctx _ (HH.out.1.below (HB.out _ _) nl) (HH.out.2.1.below (HB.out _ _) nl)).mono ?_;rintro e w' ⟨rfl,rfl⟩))
  | (go_at_call 37;go_loud (refine (Abb _ _ va vb rows HH.out.2.2.2.2 _ (HH.out.2.2.1.below (HB.out _ _) nl) (HH.out.2.2.2.1.below (HB.out _ _) nl)).mono ?_;rintro e w' ⟨rfl,n1,rfl⟩)))
 go_ret
 exact ⟨rfl,by first | exact below_drewN (HB.out _ _) _ | exact HB.out _ _⟩
end Go.Proofs.YtjacnhnaoenelaaGreat

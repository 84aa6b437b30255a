import Derived.Test.YtjacnhnaoenelaaGreatQMachC
import Derived.Test.YtjacnhnaoenelaaGreatQMachD
set_option maxRecDepth 100000
set_option maxHeartbeats 32000000
namespace Go.Proofs.YtjacnhnaoenelaaGreat
open Lib (hid)
open Go.Proofs.Tryz
open Go.RowKit
set_option linter.unusedVariables false
theorem Zx {w:World} {b:Nat} {e:TypeId} {op:Int} {Ad reg:Bool} {size dst src off Aa:Int} (h:Row w b e (Ed op Ad reg size dst src off Aa)) :
 w.cell? ⟨b,0,none⟩ = some (.int .i64 op)/\w.cell? ⟨b,1,none⟩ = some (.bool Ad)/\w.cell? ⟨b,2,none⟩ = some (.bool reg)/\w.cell? ⟨b,3,none⟩ = some (.int .i64 size)/\w.cell? ⟨b,4,none⟩ = some (.int .i64 dst)/\w.cell? ⟨b,5,none⟩ = some (.int .i64 src)/\w.cell? ⟨b,6,none⟩ = some (.int .i64 off)/\w.cell? ⟨b,7,none⟩ = some (.int .i64 Aa):=
 ⟨by rw [h.cell];rfl,by rw [h.cell];rfl,by rw [h.cell];rfl,by rw [h.cell];rfl,by rw [h.cell];rfl,by rw [h.cell];rfl,by rw [h.cell];rfl,by rw [h.cell];rfl⟩
theorem Ih {B:Nat} {w w':World} (h:Below B w w'):∀ n,Below B w (w'.drewN n)
 | 0=>h
 | n + 1=>(Ih h n).drew
def Ry (f D S O I M r1 r2:Bool) (dst src off Aa:Int):Int:=
 if f = false then 21
 else if D = true/\r1 = false\/S = true/\r2 = false then 22
 else if D = false/\dst ≠ 0\/S = false/\src ≠ 0\/O = false/\off ≠ 0\/off < -32768\/32768 <= off then 23
 else if I = false/\Aa ≠ 0\/I = true/\M = false then 24
 else 0
theorem Als (op:Int) (Ad reg:Bool) (size dst src off Aa:Int) (f D S O I M g1 g2 r1 r2:Bool)
 (hf:∀ w,Calls prog 88 #[.agg #[.int .i64 op,.bool Ad,.bool reg,.int .i64 size,.int .i64 dst,.int .i64 src,.int .i64 off,.int .i64 Aa]] w (Ol w (.bool f)))
 (hu:∀ w,Calls prog 89 #[.agg #[.int .i64 op,.bool Ad,.bool reg,.int .i64 size,.int .i64 dst,.int .i64 src,.int .i64 off,.int .i64 Aa]] w (Ol w (.tuple #[.bool D,.bool S,.bool O,.bool I])))
 (hm:∀ w,Calls prog 93 #[.agg #[.int .i64 op,.bool Ad,.bool reg,.int .i64 size,.int .i64 dst,.int .i64 src,.int .i64 off,.int .i64 Aa]] w (Ol w (.bool M)))
 (k1:∀ w,Calls prog 91 #[.int .i64 op] w (Told w (.bool g1)))
 (k2:∀ w,Calls prog 92 #[.int .i64 op,.int .i64 Aa] w (Told w (.bool g2)))
 (i1:∀ w,Calls prog 90 #[.int .i64 dst,.bool g1] w (Told w (.bool r1)))
 (i2:∀ w,Calls prog 90 #[.int .i64 src,.bool g2] w (Told w (.bool r2))) (w:World) :
 Calls prog 65 #[.agg #[.int .i64 op,.bool Ad,.bool reg,.int .i64 size,.int .i64 dst,.int .i64 src,.int .i64 off,.int .i64 Aa]] w (Ol w (.int .i64 (Ry f D S O I M r1 r2 dst src off Aa))):=by
 have HF:=hid hf;have HU:=hid hu;have HM:=hid hm;have K1:=hid k1;have K2:=hid k2;have I1:=hid i1;have I2:=hid i2;have hr0:Row (w.alloc (.cells #[.int .i64 op,.bool Ad,.bool reg,.int .i64 size,.int .i64 dst,.int .i64 src,.int .i64 off,.int .i64 Aa] 70)) w.heap.size 70 (Ed op Ad reg size dst src off Aa):=Row.made w (Ed op Ad reg size dst src off Aa) _;have hB0:=(Below.refl w.heap.size w).alloc nl (.cells #[.int .i64 op,.bool Ad,.bool reg,.int .i64 size,.int .i64 dst,.int .i64 src,.int .i64 off,.int .i64 Aa] 70);have HR0:=hid hr0;have HB0:=hid hB0;clear hf hu hm k1 k2 i1 i2 hr0 hB0;obtain ⟨V,hV⟩:∃ V,Ry f D S O I M r1 r2 dst src off Aa = V:=⟨_,rfl⟩;rw [hV];unfold Ry at hV;have HV:=hid hV;clear hV;go_enter func65,ntmps65;go_wp2_with fail;refine (HF.out _).mono ?_;rintro e w1 ⟨rfl,hB⟩;have HR1:=hid (HR0.out.below hB HR0.out.lt);have HB1:=hid (HB0.out.trans (hB.mono HB0.out.size));clear hB
 cases f
 ·go_wp2;go_ret
  exact ⟨by have:=HV.out;simp at this;rw [<- this];rfl,HB1.out⟩
 obtain ⟨c0,c1,c2,c3,c4,c5,c6,c7⟩:=Zx HR1.out;go_wp2_with fail;refine (HU.out _).mono ?_;rintro e w2 ⟨rfl,hB⟩;have HR2:=hid (HR1.out.below hB HR1.out.lt);have HB2:=hid (HB1.out.trans (hB.mono HB1.out.size));clear hB c0 c1 c2 c3 c4 c5 c6 c7;obtain ⟨c0,c1,c2,c3,c4,c5,c6,c7⟩:=Zx HR2.out;go_upto_region 4 with fail
 cases D
 ·go_quiet (fail)
  go_upto_region 5 with fail;generalize hw3:World.drewN w2 _ = w3;have HR3:=hid (show Row w3 w.heap.size 70 (Ed op Ad reg size dst src off Aa) by rw [<- hw3];exact HR2.out.drewN _);have HB3:=hid (show Below w.heap.size w w3 by rw [<- hw3];exact Ih HB2.out _);clear hw3 HR2 HB2 c0 c1 c2 c3 c4 c5 c6 c7;obtain ⟨c0,c1,c2,c3,c4,c5,c6,c7⟩:=Zx HR3.out
  cases S
  ·go_quiet (fail)
   clear HF HU K1 K2 I1 I2;go_wp2_with (go_at_call 93;refine (HM.out _).mono ?_;rintro e w4 ⟨rfl,hB⟩)
   all_goals
    go_ret
    refine ⟨congrArg (fun x=>Ending.returned (.int .i64 x)) (?_:_ = V),?_⟩
    ·rw [<- HV.out];clear HM HV HR0 HB0 HR1 HB1 HR3 HB3 c0 c1 c2 c3 c4 c5 c6 c7
     (repeat' split) <;> first | rfl | (exfalso;simp_all;done) | (exfalso;simp_all;omega)
    ·first | exact Ih HB3.out _ | exact (Ih HB3.out _).trans (hB.mono HB3.out.size)
  ·cases r2
   ·go_quiet (first | (go_at_call 92;exact Calls.quiet_of_same (K2.out _)) | (go_at_call 90;exact Calls.quiet_of_same (I2.out _)))
    go_wp2;go_ret
    refine ⟨congrArg (fun x=>Ending.returned (.int .i64 x)) (?_:_ = V),?_⟩
    ·rw [<- HV.out];simp
    ·exact Ih HB3.out _
   ·go_quiet (first | (go_at_call 92;exact Calls.quiet_of_same (K2.out _)) | (go_at_call 90;exact Calls.quiet_of_same (I2.out _)))
    clear HF HU K1 K2 I1 I2;go_wp2_with (go_at_call 93;refine (HM.out _).mono ?_;rintro e w4 ⟨rfl,hB⟩)
    all_goals
     go_ret
     refine ⟨congrArg (fun x=>Ending.returned (.int .i64 x)) (?_:_ = V),?_⟩
     ·rw [<- HV.out];clear HM HV HR0 HB0 HR1 HB1 HR3 HB3 c0 c1 c2 c3 c4 c5 c6 c7
      (repeat' split) <;> first | rfl | (exfalso;simp_all;done) | (exfalso;simp_all;omega)
     ·first | exact Ih HB3.out _ | exact (Ih HB3.out _).trans (hB.mono HB3.out.size)
 ·cases r1
  ·go_quiet (first | (go_at_call 91;exact Calls.quiet_of_same (K1.out _)) | (go_at_call 90;exact Calls.quiet_of_same (I1.out _)))
   go_wp2;go_ret
   refine ⟨congrArg (fun x=>Ending.returned (.int .i64 x)) (?_:_ = V),?_⟩
   ·rw [<- HV.out];simp
   ·exact Ih HB2.out _
  ·go_quiet (first | (go_at_call 91;exact Calls.quiet_of_same (K1.out _)) | (go_at_call 90;exact Calls.quiet_of_same (I1.out _)))
   go_upto_region 5 with fail;generalize hw3:World.drewN w2 _ = w3;have HR3:=hid (show Row w3 w.heap.size 70 (Ed op Ad reg size dst src off Aa) by rw [<- hw3];exact HR2.out.drewN _);have HB3:=hid (show Below w.heap.size w w3 by rw [<- hw3];exact Ih HB2.out _);clear hw3 HR2 HB2 c0 c1 c2 c3 c4 c5 c6 c7;obtain ⟨c0,c1,c2,c3,c4,c5,c6,c7⟩:=Zx HR3.out
   cases S
   ·go_quiet (fail)
    clear HF HU K1 K2 I1 I2;go_wp2_with (go_at_call 93;refine (HM.out _).mono ?_;rintro e w4 ⟨rfl,hB⟩)
    all_goals
     go_ret
     refine ⟨congrArg (fun x=>Ending.returned (.int .i64 x)) (?_:_ = V),?_⟩
     ·rw [<- HV.out];clear HM HV HR0 HB0 HR1 HB1 HR3 HB3 c0 c1 c2 c3 c4 c5 c6 c7
      (repeat' split) <;> first | rfl | (exfalso;simp_all;done) | (exfalso;simp_all;omega)
     ·first | exact Ih HB3.out _ | exact (Ih HB3.out _).trans (hB.mono HB3.out.size)
   ·cases r2
    ·go_quiet (first | (go_at_call 92;exact Calls.quiet_of_same (K2.out _)) | (go_at_call 90;exact Calls.quiet_of_same (I2.out _)))
     go_wp2;go_ret
     refine ⟨congrArg (fun x=>Ending.returned (.int .i64 x)) (?_:_ = V),?_⟩
     ·rw [<- HV.out];simp
     ·exact Ih HB3.out _
    ·go_quiet (first | (go_at_call 92;exact Calls.quiet_of_same (K2.out _)) | (go_at_call 90;exact Calls.quiet_of_same (I2.out _)))
     clear HF HU K1 K2 I1 I2;go_wp2_with (go_at_call 93;refine (HM.out _).mono ?_;rintro e w4 ⟨rfl,hB⟩)
     all_goals
      go_ret
      refine ⟨congrArg (fun x=>Ending.returned (.int .i64 x)) (?_:_ = V),?_⟩
      ·rw [<- HV.out];clear HM HV HR0 HB0 HR1 HB1 HR3 HB3 c0 c1 c2 c3 c4 c5 c6 c7
       (repeat' split) <;> first | rfl | (exfalso;simp_all;done) | (exfalso;simp_all;omega)
      ·first | exact Ih HB3.out _ | exact (Ih HB3.out _).trans (hB.mono HB3.out.size)
theorem Ao9 (op:Int) (Ad reg:Bool) (size dst src off Aa:Int) (w:World) :
 Calls prog 65 #[.agg #[.int .i64 op,.bool Ad,.bool reg,.int .i64 size,.int .i64 dst,.int .i64 src,.int .i64 off,.int .i64 Aa]] w (Ol w (.int .i64 (Ry (Cb op Ad reg size) (Dx op) (Dy op reg) (D5 op Ad) (Dt op Ad reg) (Bv op Ad Aa) (En dst (Fb op)) (En src (Du op Aa)) dst src off Aa))):=
 Als op Ad reg size dst src off Aa _ _ _ _ _ _ _ _ _ _ (fun w=>Alr op Ad reg size dst src off Aa w) (fun w=>Ate op Ad reg size dst src off Aa w) (fun w=>Agj op Ad reg size dst src off Aa w) (fun w=>Abk op w) (fun w=>Wp op Aa w) (fun w=>Ac6 dst _ w) (fun w=>Ac6 src _ w) w
end Go.Proofs.YtjacnhnaoenelaaGreat

import Derived.Test.YtdepknffpnnmmaaGreatJ0a
import Derived.Test.YtdepknffpnnmmaaGreatMachC
import Derived.Test.YtdepknffpnnmmaaGreatMachD
import Derived.Deep.QuietTactic
import Derived.Deep.Cut
import Derived.Lib.Hide
import Derived.BigQuiet
set_option maxRecDepth 100000
set_option maxHeartbeats 32000000
namespace Go.Proofs.YtdepknffpnnmmaaGreat
open Go.RowKit
set_option linter.unusedVariables false
theorem ins_row {w:World} {b:Nat} {e:TypeId} {op:Int} {nar reg:Bool} {size dst src off imm:Int} (h:Row w b e (insc op nar reg size dst src off imm)) :
 w.cell? ⟨b,0,none⟩ = some (.int .i64 op)/\w.cell? ⟨b,1,none⟩ = some (.bool nar)/\w.cell? ⟨b,2,none⟩ = some (.bool reg)/\w.cell? ⟨b,3,none⟩ = some (.int .i64 size)/\w.cell? ⟨b,4,none⟩ = some (.int .i64 dst)/\w.cell? ⟨b,5,none⟩ = some (.int .i64 src)/\w.cell? ⟨b,6,none⟩ = some (.int .i64 off)/\w.cell? ⟨b,7,none⟩ = some (.int .i64 imm):=
 ⟨by rw [h.cell];rfl,by rw [h.cell];rfl,by rw [h.cell];rfl,by rw [h.cell];rfl,by rw [h.cell];rfl,by rw [h.cell];rfl,by rw [h.cell];rfl,by rw [h.cell];rfl⟩
theorem bdrewN {B:Nat} {w w':World} (h:Below B w w'):∀ n,Below B w (w'.drewN n)
 | 0=>h
 | n + 1=>(bdrewN h n).drew
def rightc (f D S O I M r1 r2:Bool) (dst src off imm:Int):Int:=
 if f = false then 21
 else if D = true/\r1 = false\/S = true/\r2 = false then 22
 else if D = false/\dst ≠ 0\/S = false/\src ≠ 0\/O = false/\off ≠ 0\/off < -32768\/32768 <= off then 23
 else if I = false/\imm ≠ 0\/I = true/\M = false then 24
 else 0
theorem right_run (op:Int) (nar reg:Bool) (size dst src off imm:Int) (f D S O I M g1 g2 r1 r2:Bool)
 (hf:∀ w,Calls Tryz.prog 99 #[.agg #[.int .i64 op,.bool nar,.bool reg,.int .i64 size,.int .i64 dst,.int .i64 src,.int .i64 off,.int .i64 imm]] w (Ret w (.bool f)))
 (hu:∀ w,Calls Tryz.prog 100 #[.agg #[.int .i64 op,.bool nar,.bool reg,.int .i64 size,.int .i64 dst,.int .i64 src,.int .i64 off,.int .i64 imm]] w (Ret w (.tuple #[.bool D,.bool S,.bool O,.bool I])))
 (hm:∀ w,Calls Tryz.prog 104 #[.agg #[.int .i64 op,.bool nar,.bool reg,.int .i64 size,.int .i64 dst,.int .i64 src,.int .i64 off,.int .i64 imm]] w (Ret w (.bool M)))
 (k1:∀ w,Calls Tryz.prog 102 #[.int .i64 op] w (Told w (.bool g1)))
 (k2:∀ w,Calls Tryz.prog 103 #[.int .i64 op,.int .i64 imm] w (Told w (.bool g2)))
 (i1:∀ w,Calls Tryz.prog 101 #[.int .i64 dst,.bool g1] w (Told w (.bool r1)))
 (i2:∀ w,Calls Tryz.prog 101 #[.int .i64 src,.bool g2] w (Told w (.bool r2))) (w:World) :
 Calls Tryz.prog 80 #[.agg #[.int .i64 op,.bool nar,.bool reg,.int .i64 size,.int .i64 dst,.int .i64 src,.int .i64 off,.int .i64 imm]] w (Ret w (.int .i64 (rightc f D S O I M r1 r2 dst src off imm))):=by
 have HF:=Lib.hid hf
 have HU:=Lib.hid hu
 have HM:=Lib.hid hm
 have K1:=Lib.hid k1
 have K2:=Lib.hid k2
 have I1:=Lib.hid i1
 have I2:=Lib.hid i2
 have hr0:Row (w.alloc (.cells #[.int .i64 op,.bool nar,.bool reg,.int .i64 size,.int .i64 dst,.int .i64 src,.int .i64 off,.int .i64 imm] 25)) w.heap.size 25 (insc op nar reg size dst src off imm):=Row.made w (insc op nar reg size dst src off imm) _
 have hB0:=(Below.refl w.heap.size w).alloc (Nat.le_refl _) (.cells #[.int .i64 op,.bool nar,.bool reg,.int .i64 size,.int .i64 dst,.int .i64 src,.int .i64 off,.int .i64 imm] 25)
 have HR0:=Lib.hid hr0
 have HB0:=Lib.hid hB0
 clear hf hu hm k1 k2 i1 i2 hr0 hB0
 obtain ⟨V,hV⟩:∃ V,rightc f D S O I M r1 r2 dst src off imm = V:=⟨_,rfl⟩
 rw [hV]
 unfold rightc at hV
 have HV:=Lib.hid hV
 clear hV
 go_enter Tryz.func80,Tryz.ntmps80
 go_wp2_with fail
 refine (HF.out _).mono ?_
 rintro e w1 ⟨rfl,hB⟩
 have HR1:=Lib.hid (HR0.out.below hB HR0.out.lt)
 have HB1:=Lib.hid (HB0.out.trans (hB.mono HB0.out.size))
 clear hB
 cases f
 ·go_wp2
  go_ret
  exact ⟨by have:=HV.out;simp at this;rw [<- this];rfl,HB1.out⟩
 obtain ⟨c0,c1,c2,c3,c4,c5,c6,c7⟩:=ins_row HR1.out
 go_wp2_with fail
 refine (HU.out _).mono ?_
 rintro e w2 ⟨rfl,hB⟩
 have HR2:=Lib.hid (HR1.out.below hB HR1.out.lt)
 have HB2:=Lib.hid (HB1.out.trans (hB.mono HB1.out.size))
 clear hB c0 c1 c2 c3 c4 c5 c6 c7
 obtain ⟨c0,c1,c2,c3,c4,c5,c6,c7⟩:=ins_row HR2.out
 go_upto_region 4 with fail
 cases D
 ·go_quiet (fail)
  go_upto_region 5 with fail
  generalize hw3:World.drewN w2 _ = w3
  have HR3:=Lib.hid (show Row w3 w.heap.size 25 (insc op nar reg size dst src off imm) by rw [<- hw3];exact HR2.out.drewN _)
  have HB3:=Lib.hid (show Below w.heap.size w w3 by rw [<- hw3];exact bdrewN HB2.out _)
  clear hw3 HR2 HB2 c0 c1 c2 c3 c4 c5 c6 c7
  obtain ⟨c0,c1,c2,c3,c4,c5,c6,c7⟩:=ins_row HR3.out
  cases S
  ·go_quiet (fail)
   clear HF HU K1 K2 I1 I2
   go_wp2_with (go_at_call 104;refine (HM.out _).mono ?_;rintro e w4 ⟨rfl,hB⟩)
   all_goals
    go_ret
    refine ⟨congrArg (fun x=>Ending.returned (.int .i64 x)) (?_:_ = V),?_⟩
    ·rw [<- HV.out]
     clear HM HV HR0 HB0 HR1 HB1 HR3 HB3 c0 c1 c2 c3 c4 c5 c6 c7
     (repeat' split) <;> first | rfl | (exfalso;simp_all;done) | (exfalso;simp_all;omega)
    ·first | exact bdrewN HB3.out _ | exact (bdrewN HB3.out _).trans (hB.mono HB3.out.size)
  ·cases r2
   ·go_quiet (first | (go_at_call 103;exact Calls.quiet_of_same (K2.out _)) | (go_at_call 101;exact Calls.quiet_of_same (I2.out _)))
    go_wp2
    go_ret
    refine ⟨congrArg (fun x=>Ending.returned (.int .i64 x)) (?_:_ = V),?_⟩
    ·rw [<- HV.out]
     simp
    ·exact bdrewN HB3.out _
   ·go_quiet (first | (go_at_call 103;exact Calls.quiet_of_same (K2.out _)) | (go_at_call 101;exact Calls.quiet_of_same (I2.out _)))
    clear HF HU K1 K2 I1 I2
    go_wp2_with (go_at_call 104;refine (HM.out _).mono ?_;rintro e w4 ⟨rfl,hB⟩)
    all_goals
     go_ret
     refine ⟨congrArg (fun x=>Ending.returned (.int .i64 x)) (?_:_ = V),?_⟩
     ·rw [<- HV.out]
      clear HM HV HR0 HB0 HR1 HB1 HR3 HB3 c0 c1 c2 c3 c4 c5 c6 c7
      (repeat' split) <;> first | rfl | (exfalso;simp_all;done) | (exfalso;simp_all;omega)
     ·first | exact bdrewN HB3.out _ | exact (bdrewN HB3.out _).trans (hB.mono HB3.out.size)
 ·cases r1
  ·go_quiet (first | (go_at_call 102;exact Calls.quiet_of_same (K1.out _)) | (go_at_call 101;exact Calls.quiet_of_same (I1.out _)))
   go_wp2
   go_ret
   refine ⟨congrArg (fun x=>Ending.returned (.int .i64 x)) (?_:_ = V),?_⟩
   ·rw [<- HV.out]
    simp
   ·exact bdrewN HB2.out _
  ·go_quiet (first | (go_at_call 102;exact Calls.quiet_of_same (K1.out _)) | (go_at_call 101;exact Calls.quiet_of_same (I1.out _)))
   go_upto_region 5 with fail
   generalize hw3:World.drewN w2 _ = w3
   have HR3:=Lib.hid (show Row w3 w.heap.size 25 (insc op nar reg size dst src off imm) by rw [<- hw3];exact HR2.out.drewN _)
   have HB3:=Lib.hid (show Below w.heap.size w w3 by rw [<- hw3];exact bdrewN HB2.out _)
   clear hw3 HR2 HB2 c0 c1 c2 c3 c4 c5 c6 c7
   obtain ⟨c0,c1,c2,c3,c4,c5,c6,c7⟩:=ins_row HR3.out
   cases S
   ·go_quiet (fail)
    clear HF HU K1 K2 I1 I2
    go_wp2_with (go_at_call 104;refine (HM.out _).mono ?_;rintro e w4 ⟨rfl,hB⟩)
    all_goals
     go_ret
     refine ⟨congrArg (fun x=>Ending.returned (.int .i64 x)) (?_:_ = V),?_⟩
     ·rw [<- HV.out]
      clear HM HV HR0 HB0 HR1 HB1 HR3 HB3 c0 c1 c2 c3 c4 c5 c6 c7
      (repeat' split) <;> first | rfl | (exfalso;simp_all;done) | (exfalso;simp_all;omega)
     ·first | exact bdrewN HB3.out _ | exact (bdrewN HB3.out _).trans (hB.mono HB3.out.size)
   ·cases r2
    ·go_quiet (first | (go_at_call 103;exact Calls.quiet_of_same (K2.out _)) | (go_at_call 101;exact Calls.quiet_of_same (I2.out _)))
     go_wp2
     go_ret
     refine ⟨congrArg (fun x=>Ending.returned (.int .i64 x)) (?_:_ = V),?_⟩
     ·rw [<- HV.out]
      simp
     ·exact bdrewN HB3.out _
    ·go_quiet (first | (go_at_call 103;exact Calls.quiet_of_same (K2.out _)) | (go_at_call 101;exact Calls.quiet_of_same (I2.out _)))
     clear HF HU K1 K2 I1 I2
     go_wp2_with (go_at_call 104;refine (HM.out _).mono ?_;rintro e w4 ⟨rfl,hB⟩)
     all_goals
      go_ret
      refine ⟨congrArg (fun x=>Ending.returned (.int .i64 x)) (?_:_ = V),?_⟩
      ·rw [<- HV.out]
       clear HM HV HR0 HB0 HR1 HB1 HR3 HB3 c0 c1 c2 c3 c4 c5 c6 c7
       (repeat' split) <;> first | rfl | (exfalso;simp_all;done) | (exfalso;simp_all;omega)
      ·first | exact bdrewN HB3.out _ | exact (bdrewN HB3.out _).trans (hB.mono HB3.out.size)
theorem right_of (op:Int) (nar reg:Bool) (size dst src off imm:Int) (w:World) :
 Calls Tryz.prog 80 #[.agg #[.int .i64 op,.bool nar,.bool reg,.int .i64 size,.int .i64 dst,.int .i64 src,.int .i64 off,.int .i64 imm]] w (Ret w (.int .i64 (rightc (formedv op nar reg size) (usesD op) (usesS op reg) (usesO op nar) (usesI op nar reg) (immFitsv op nar imm) (isRegv dst (writesDstv op)) (isRegv src (writesSrcv op imm)) dst src off imm))):=
 right_run op nar reg size dst src off imm _ _ _ _ _ _ _ _ _ _ (fun w=>formed_of op nar reg size dst src off imm w) (fun w=>uses_of op nar reg size dst src off imm w) (fun w=>immFits_of op nar reg size dst src off imm w) (fun w=>writesDst_of op w) (fun w=>writesSrc_of op imm w) (fun w=>isReg_of dst _ w) (fun w=>isReg_of src _ w) w
end Go.Proofs.YtdepknffpnnmmaaGreat

/- The program's bits: Breaks of operations that wrap. (Printed by gen_bo.py.) -/
import Derived.Test.YthfhamagopbgcaaGreatG27
import Derived.Shelf.Abstract
namespace Go.Proofs.YthfhamagopbgcaaGreat
set_option linter.unusedSimpArgs false
set_option linter.unusedVariables false
open Go.RowKit Go.Maps Go.Shelf

namespace Ops

set_option maxRecDepth 100000 in
set_option maxHeartbeats 8000000 in
theorem brk8 (fl n a b:Int) (w:World) (hf:0≤fl∧fl≤7) (hn:Wd.Wid n) (ha:Wd.Word n a) (hb:Wd.Word n b):Calls Tryz.prog 185 #[.int .i64 8,.int .i64 fl,.int .i64 n,.int .u32 a,.int .u32 b] w fun e w'=>e=.returned (.tuple #[.bool (Wd.broken 8 fl n a b),.int .i64 0])∧Gr w w':=by
 have CA:=Lib.hid fun w1=>asked_any 8 n a b w1 (by omega) hn ha hb
 have CD:=Lib.hid fun B w1 (hc:w1.cell? ⟨B,0,none⟩=some (fnV 237))=>dofn8 n a b B w1 hn ha hb hc
 have HV:=Lib.hid (show ∀ B,opV 8 B=.agg #[boxV 248 B,.nilFunc,.nilFunc] from fun B=>rfl)
 obtain ⟨F1,F2,F4⟩:=flag_bits hf
 have N1:=nil_eq
 have N2:=func_eq
 have N3:=nil_ne
 have N4:=func_ne
 obtain ⟨f1,f2⟩:=hf
 obtain ⟨t1,ht1⟩:∃ t,(fl % 2 == 1)=t:=⟨_,rfl⟩
 obtain ⟨t2,ht2⟩:∃ t,(fl / 2 % 2 == 1)=t:=⟨_,rfl⟩
 obtain ⟨t4,ht4⟩:∃ t,(fl / 4 % 2 == 1)=t:=⟨_,rfl⟩
 rw [ht1] at F1
 rw [ht2] at F2
 rw [ht4] at F4
 obtain ⟨z,hz⟩:∃ z,Wd.op 8 n a b=z:=⟨_,rfl⟩
 have HZ:=Lib.hid hz
 obtain ⟨z0,hz0⟩:∃ z0,z=some z0:=⟨_,hz.symm⟩
 subst hz0
 have HB:Hid (Wd.broken 8 fl n a b=false):=by show _=_;unfold Wd.broken;rw [hz];first | rfl | (rw [← hz];rfl)
 clear hn ha hb hz ht1 ht2 ht4
 cases t4
 all_goals
  go_enter Tryz.func185, Tryz.ntmps185
  go_wp2_with (first
    | (go_at_call 208;(with_reducible refine (CA.out _).mono ?_);rintro e w1 ⟨v,rfl,⟨B,rfl,hB⟩,g1⟩;rw [HV.out B];have HC:=Lib.hid (show B<w1.heap.size∧w1.cell? ⟨B,0,none⟩=some (fnV 237) from hB (by unfold boxed;omega));unfold boxV;clear hB)
    | (go_at_call 248;(with_reducible refine (CD.out B _ (by rw [World.cell?_alloc_past _ _ _ HC.out.1];exact HC.out.2)).mono ?_);rintro e w2 ⟨⟨y,rfl,-⟩,g2⟩;rw [HZ.out];have HG2:=Lib.hid ((g1.alloc _).trans g2);have k0:=cell_box _ _ 0 g2 rfl;have k1:=cell_box _ _ 1 g2 rfl;have k2:=cell_box _ _ 2 g2 rfl;simp only [List.getElem?_toArray,List.getElem?_cons_zero,List.getElem?_cons_succ] at k0 k1 k2))
  exact bodyPost_ret (v:=.tuple #[.bool false,.int .i64 0]) (by simp [results,Tryz.results185,go_sem]) rfl ⟨by rw [HB.out],HG2.out⟩
set_option maxRecDepth 100000 in
set_option maxHeartbeats 8000000 in
theorem brk9 (fl n a b:Int) (w:World) (hf:0≤fl∧fl≤7) (hn:Wd.Wid n) (ha:Wd.Word n a) (hb:Wd.Word n b):Calls Tryz.prog 185 #[.int .i64 9,.int .i64 fl,.int .i64 n,.int .u32 a,.int .u32 b] w fun e w'=>e=.returned (.tuple #[.bool (Wd.broken 9 fl n a b),.int .i64 0])∧Gr w w':=by
 have CA:=Lib.hid fun w1=>asked_any 9 n a b w1 (by omega) hn ha hb
 have CD:=Lib.hid fun B w1 (hc:w1.cell? ⟨B,0,none⟩=some (fnV 238))=>dofn9 n a b B w1 hn ha hb hc
 have HV:=Lib.hid (show ∀ B,opV 9 B=.agg #[boxV 248 B,.nilFunc,.nilFunc] from fun B=>rfl)
 obtain ⟨F1,F2,F4⟩:=flag_bits hf
 have N1:=nil_eq
 have N2:=func_eq
 have N3:=nil_ne
 have N4:=func_ne
 obtain ⟨f1,f2⟩:=hf
 obtain ⟨t1,ht1⟩:∃ t,(fl % 2 == 1)=t:=⟨_,rfl⟩
 obtain ⟨t2,ht2⟩:∃ t,(fl / 2 % 2 == 1)=t:=⟨_,rfl⟩
 obtain ⟨t4,ht4⟩:∃ t,(fl / 4 % 2 == 1)=t:=⟨_,rfl⟩
 rw [ht1] at F1
 rw [ht2] at F2
 rw [ht4] at F4
 obtain ⟨z,hz⟩:∃ z,Wd.op 9 n a b=z:=⟨_,rfl⟩
 have HZ:=Lib.hid hz
 obtain ⟨z0,hz0⟩:∃ z0,z=some z0:=⟨_,hz.symm⟩
 subst hz0
 have HB:Hid (Wd.broken 9 fl n a b=false):=by show _=_;unfold Wd.broken;rw [hz];first | rfl | (rw [← hz];rfl)
 clear hn ha hb hz ht1 ht2 ht4
 cases t4
 all_goals
  go_enter Tryz.func185, Tryz.ntmps185
  go_wp2_with (first
    | (go_at_call 208;(with_reducible refine (CA.out _).mono ?_);rintro e w1 ⟨v,rfl,⟨B,rfl,hB⟩,g1⟩;rw [HV.out B];have HC:=Lib.hid (show B<w1.heap.size∧w1.cell? ⟨B,0,none⟩=some (fnV 238) from hB (by unfold boxed;omega));unfold boxV;clear hB)
    | (go_at_call 248;(with_reducible refine (CD.out B _ (by rw [World.cell?_alloc_past _ _ _ HC.out.1];exact HC.out.2)).mono ?_);rintro e w2 ⟨⟨y,rfl,-⟩,g2⟩;rw [HZ.out];have HG2:=Lib.hid ((g1.alloc _).trans g2);have k0:=cell_box _ _ 0 g2 rfl;have k1:=cell_box _ _ 1 g2 rfl;have k2:=cell_box _ _ 2 g2 rfl;simp only [List.getElem?_toArray,List.getElem?_cons_zero,List.getElem?_cons_succ] at k0 k1 k2))
  exact bodyPost_ret (v:=.tuple #[.bool false,.int .i64 0]) (by simp [results,Tryz.results185,go_sem]) rfl ⟨by rw [HB.out],HG2.out⟩
set_option maxRecDepth 100000 in
set_option maxHeartbeats 8000000 in
theorem brk10 (fl n a b:Int) (w:World) (hf:0≤fl∧fl≤7) (hn:Wd.Wid n) (ha:Wd.Word n a) (hb:Wd.Word n b):Calls Tryz.prog 185 #[.int .i64 10,.int .i64 fl,.int .i64 n,.int .u32 a,.int .u32 b] w fun e w'=>e=.returned (.tuple #[.bool (Wd.broken 10 fl n a b),.int .i64 0])∧Gr w w':=by
 have CA:=Lib.hid fun w1=>asked_any 10 n a b w1 (by omega) hn ha hb
 have CD:=Lib.hid fun B w1 (hc:w1.cell? ⟨B,0,none⟩=some (fnV 239))=>dofn10 n a b B w1 hn ha hb hc
 have HV:=Lib.hid (show ∀ B,opV 10 B=.agg #[boxV 248 B,.nilFunc,.nilFunc] from fun B=>rfl)
 obtain ⟨F1,F2,F4⟩:=flag_bits hf
 have N1:=nil_eq
 have N2:=func_eq
 have N3:=nil_ne
 have N4:=func_ne
 obtain ⟨f1,f2⟩:=hf
 obtain ⟨t1,ht1⟩:∃ t,(fl % 2 == 1)=t:=⟨_,rfl⟩
 obtain ⟨t2,ht2⟩:∃ t,(fl / 2 % 2 == 1)=t:=⟨_,rfl⟩
 obtain ⟨t4,ht4⟩:∃ t,(fl / 4 % 2 == 1)=t:=⟨_,rfl⟩
 rw [ht1] at F1
 rw [ht2] at F2
 rw [ht4] at F4
 obtain ⟨z,hz⟩:∃ z,Wd.op 10 n a b=z:=⟨_,rfl⟩
 have HZ:=Lib.hid hz
 obtain ⟨z0,hz0⟩:∃ z0,z=some z0:=⟨_,hz.symm⟩
 subst hz0
 have HB:Hid (Wd.broken 10 fl n a b=false):=by show _=_;unfold Wd.broken;rw [hz];first | rfl | (rw [← hz];rfl)
 clear hn ha hb hz ht1 ht2 ht4
 cases t4
 all_goals
  go_enter Tryz.func185, Tryz.ntmps185
  go_wp2_with (first
    | (go_at_call 208;(with_reducible refine (CA.out _).mono ?_);rintro e w1 ⟨v,rfl,⟨B,rfl,hB⟩,g1⟩;rw [HV.out B];have HC:=Lib.hid (show B<w1.heap.size∧w1.cell? ⟨B,0,none⟩=some (fnV 239) from hB (by unfold boxed;omega));unfold boxV;clear hB)
    | (go_at_call 248;(with_reducible refine (CD.out B _ (by rw [World.cell?_alloc_past _ _ _ HC.out.1];exact HC.out.2)).mono ?_);rintro e w2 ⟨⟨y,rfl,-⟩,g2⟩;rw [HZ.out];have HG2:=Lib.hid ((g1.alloc _).trans g2);have k0:=cell_box _ _ 0 g2 rfl;have k1:=cell_box _ _ 1 g2 rfl;have k2:=cell_box _ _ 2 g2 rfl;simp only [List.getElem?_toArray,List.getElem?_cons_zero,List.getElem?_cons_succ] at k0 k1 k2))
  exact bodyPost_ret (v:=.tuple #[.bool false,.int .i64 0]) (by simp [results,Tryz.results185,go_sem]) rfl ⟨by rw [HB.out],HG2.out⟩
set_option maxRecDepth 100000 in
set_option maxHeartbeats 8000000 in
theorem brk12 (fl n a b:Int) (w:World) (hf:0≤fl∧fl≤7) (hn:Wd.Wid n) (ha:Wd.Word n a) (hb:Wd.Word n b):Calls Tryz.prog 185 #[.int .i64 12,.int .i64 fl,.int .i64 n,.int .u32 a,.int .u32 b] w fun e w'=>e=.returned (.tuple #[.bool (Wd.broken 12 fl n a b),.int .i64 0])∧Gr w w':=by
 have CA:=Lib.hid fun w1=>asked_any 12 n a b w1 (by omega) hn ha hb
 have CD:=Lib.hid fun B w1=>dofn12 n a b B w1 hn ha hb
 have HV:=Lib.hid (show ∀ B,opV 12 B=.agg #[fnV 242,.nilFunc,fnV 243] from fun B=>rfl)
 obtain ⟨F1,F2,F4⟩:=flag_bits hf
 have N1:=nil_eq
 have N2:=func_eq
 have N3:=nil_ne
 have N4:=func_ne
 obtain ⟨f1,f2⟩:=hf
 obtain ⟨t1,ht1⟩:∃ t,(fl % 2 == 1)=t:=⟨_,rfl⟩
 obtain ⟨t2,ht2⟩:∃ t,(fl / 2 % 2 == 1)=t:=⟨_,rfl⟩
 obtain ⟨t4,ht4⟩:∃ t,(fl / 4 % 2 == 1)=t:=⟨_,rfl⟩
 rw [ht1] at F1
 rw [ht2] at F2
 rw [ht4] at F4
 obtain ⟨z,hz⟩:∃ z,Wd.op 12 n a b=z:=⟨_,rfl⟩
 have HZ:=Lib.hid hz
 obtain _ | x:=z
 ·have HB:Hid (Wd.broken 12 fl n a b=false):=by show _=_;unfold Wd.broken;rw [hz];rfl
  clear hn ha hb hz ht1 ht2 ht4 F1 F2 F4
  go_enter Tryz.func185, Tryz.ntmps185
  go_wp2_with (first
    | (go_at_call 208;(with_reducible refine (CA.out _).mono ?_);rintro e w1 ⟨v,rfl,⟨B,rfl,hB⟩,g1⟩;rw [HV.out B];unfold fnV;clear hB)
    | (go_at_call 242;(with_reducible refine (CD.out B _).mono ?_);rintro e w2 ⟨⟨y,rfl,-⟩,g2⟩;rw [HZ.out];have HG2:=Lib.hid ((g1.alloc _).trans g2);have k0:=cell_box _ _ 0 g2 rfl;have k1:=cell_box _ _ 1 g2 rfl;have k2:=cell_box _ _ 2 g2 rfl;simp only [List.getElem?_toArray,List.getElem?_cons_zero,List.getElem?_cons_succ] at k0 k1 k2))
  exact bodyPost_ret (v:=.tuple #[.bool false,.int .i64 0]) (by simp [results,Tryz.results185,go_sem]) rfl ⟨by rw [HB.out],HG2.out⟩
 ·have hbn:b<32:=by
   have:=hn.2
   have:¬ n≤b:=fun e=>by rw [show Wd.op 12 n a b=if n≤b then none else some (a / 2 ^ b.toNat) from rfl,if_pos e] at hz;cases hz
   omega
  have CL:Hid (∀ w1,Calls Tryz.prog 243 #[.int .i64 n,.int .u32 a,.int .u32 b] w1 fun e w'=>e=.returned (.bool (decide (a % 2 ^ b.toNat≠0)))∧Gr w1 w'):=fun w1=>(op19_any n a b w1 (words hn ha) ⟨hb.1,hbn⟩).mono fun _ _ h=>⟨h.1,h.2 ▸ Gr.refl _⟩
  have HB:Hid (Wd.broken 12 fl n a b=(t4 && decide (a % 2 ^ b.toNat≠0))):=by show _=_;unfold Wd.broken;rw [hz,← ht4];rfl
  obtain ⟨L,hL⟩:∃ L,decide (a % 2 ^ b.toNat≠0)=L:=⟨_,rfl⟩
  rw [hL] at CL HB
  clear hL
  clear hn ha hb hz ht1 ht2 ht4
  cases t4
  ·go_enter Tryz.func185, Tryz.ntmps185
   go_wp2_with (first
     | (go_at_call 208;(with_reducible refine (CA.out _).mono ?_);rintro e w1 ⟨v,rfl,⟨B,rfl,hB⟩,g1⟩;rw [HV.out B];unfold fnV;clear hB)
     | (go_at_call 242;(with_reducible refine (CD.out B _).mono ?_);rintro e w2 ⟨⟨y,rfl,-⟩,g2⟩;rw [HZ.out];have HG2:=Lib.hid ((g1.alloc _).trans g2);have k0:=cell_box _ _ 0 g2 rfl;have k1:=cell_box _ _ 1 g2 rfl;have k2:=cell_box _ _ 2 g2 rfl;simp only [List.getElem?_toArray,List.getElem?_cons_zero,List.getElem?_cons_succ] at k0 k1 k2))
   exact bodyPost_ret (v:=.tuple #[.bool false,.int .i64 0]) (by simp [results,Tryz.results185,go_sem]) rfl ⟨by rw [HB.out];rfl,HG2.out⟩
  ·cases L
   all_goals
    go_enter Tryz.func185, Tryz.ntmps185
    go_wp2_with (first
      | (go_at_call 208;(with_reducible refine (CA.out _).mono ?_);rintro e w1 ⟨v,rfl,⟨B,rfl,hB⟩,g1⟩;rw [HV.out B];unfold fnV;clear hB)
      | (go_at_call 242;(with_reducible refine (CD.out B _).mono ?_);rintro e w2 ⟨⟨y,rfl,-⟩,g2⟩;rw [HZ.out];have HG2:=Lib.hid ((g1.alloc _).trans g2);have k0:=cell_box _ _ 0 g2 rfl;have k1:=cell_box _ _ 1 g2 rfl;have k2:=cell_box _ _ 2 g2 rfl;simp only [List.getElem?_toArray,List.getElem?_cons_zero,List.getElem?_cons_succ] at k0 k1 k2)
      | (go_at_call 243;(with_reducible refine (CL.out _).mono ?_);rintro e w3 ⟨rfl,g3⟩;have HG3:=Lib.hid (HG2.out.trans g3);have l1:=cell_box _ _ 1 (g2.trans g3) rfl;simp only [List.getElem?_toArray,List.getElem?_cons_zero,List.getElem?_cons_succ] at l1))
   ·exact bodyPost_ret (v:=.tuple #[.bool false,.int .i64 0]) (by simp [results,Tryz.results185,go_sem]) rfl ⟨by rw [HB.out];rfl,HG3.out⟩
   ·exact bodyPost_ret (v:=.tuple #[.bool true,.int .i64 0]) (by simp [results,Tryz.results185,go_sem]) rfl ⟨by rw [HB.out];rfl,HG3.out⟩
set_option maxRecDepth 100000 in
set_option maxHeartbeats 8000000 in
theorem brk13 (fl n a b:Int) (w:World) (hf:0≤fl∧fl≤7) (hn:Wd.Wid n) (ha:Wd.Word n a) (hb:Wd.Word n b):Calls Tryz.prog 185 #[.int .i64 13,.int .i64 fl,.int .i64 n,.int .u32 a,.int .u32 b] w fun e w'=>e=.returned (.tuple #[.bool (Wd.broken 13 fl n a b),.int .i64 0])∧Gr w w':=by
 have CA:=Lib.hid fun w1=>asked_any 13 n a b w1 (by omega) hn ha hb
 have CD:=Lib.hid fun B w1=>dofn13 n a b B w1 hn ha hb
 have HV:=Lib.hid (show ∀ B,opV 13 B=.agg #[fnV 244,.nilFunc,fnV 246] from fun B=>rfl)
 obtain ⟨F1,F2,F4⟩:=flag_bits hf
 have N1:=nil_eq
 have N2:=func_eq
 have N3:=nil_ne
 have N4:=func_ne
 obtain ⟨f1,f2⟩:=hf
 obtain ⟨t1,ht1⟩:∃ t,(fl % 2 == 1)=t:=⟨_,rfl⟩
 obtain ⟨t2,ht2⟩:∃ t,(fl / 2 % 2 == 1)=t:=⟨_,rfl⟩
 obtain ⟨t4,ht4⟩:∃ t,(fl / 4 % 2 == 1)=t:=⟨_,rfl⟩
 rw [ht1] at F1
 rw [ht2] at F2
 rw [ht4] at F4
 obtain ⟨z,hz⟩:∃ z,Wd.op 13 n a b=z:=⟨_,rfl⟩
 have HZ:=Lib.hid hz
 obtain _ | x:=z
 ·have HB:Hid (Wd.broken 13 fl n a b=false):=by show _=_;unfold Wd.broken;rw [hz];rfl
  clear hn ha hb hz ht1 ht2 ht4 F1 F2 F4
  go_enter Tryz.func185, Tryz.ntmps185
  go_wp2_with (first
    | (go_at_call 208;(with_reducible refine (CA.out _).mono ?_);rintro e w1 ⟨v,rfl,⟨B,rfl,hB⟩,g1⟩;rw [HV.out B];unfold fnV;clear hB)
    | (go_at_call 244;(with_reducible refine (CD.out B _).mono ?_);rintro e w2 ⟨⟨y,rfl,-⟩,g2⟩;rw [HZ.out];have HG2:=Lib.hid ((g1.alloc _).trans g2);have k0:=cell_box _ _ 0 g2 rfl;have k1:=cell_box _ _ 1 g2 rfl;have k2:=cell_box _ _ 2 g2 rfl;simp only [List.getElem?_toArray,List.getElem?_cons_zero,List.getElem?_cons_succ] at k0 k1 k2))
  exact bodyPost_ret (v:=.tuple #[.bool false,.int .i64 0]) (by simp [results,Tryz.results185,go_sem]) rfl ⟨by rw [HB.out],HG2.out⟩
 ·have hbn:b<32:=by
   have:=hn.2
   have:¬ n≤b:=fun e=>by rw [show Wd.op 13 n a b=if n≤b then none else some (Wd.sg n a / 2 ^ b.toNat % Wd.sz n) from rfl,if_pos e] at hz;cases hz
   omega
  have CL:Hid (∀ w1,Calls Tryz.prog 246 #[.int .i64 n,.int .u32 a,.int .u32 b] w1 fun e w'=>e=.returned (.bool (decide (a % 2 ^ b.toNat≠0)))∧Gr w1 w'):=fun w1=>(op21_any n a b w1 (words hn ha) ⟨hb.1,hbn⟩).mono fun _ _ h=>⟨h.1,h.2 ▸ Gr.refl _⟩
  have HB:Hid (Wd.broken 13 fl n a b=(t4 && decide (a % 2 ^ b.toNat≠0))):=by show _=_;unfold Wd.broken;rw [hz,← ht4];rfl
  obtain ⟨L,hL⟩:∃ L,decide (a % 2 ^ b.toNat≠0)=L:=⟨_,rfl⟩
  rw [hL] at CL HB
  clear hL
  clear hn ha hb hz ht1 ht2 ht4
  cases t4
  ·go_enter Tryz.func185, Tryz.ntmps185
   go_wp2_with (first
     | (go_at_call 208;(with_reducible refine (CA.out _).mono ?_);rintro e w1 ⟨v,rfl,⟨B,rfl,hB⟩,g1⟩;rw [HV.out B];unfold fnV;clear hB)
     | (go_at_call 244;(with_reducible refine (CD.out B _).mono ?_);rintro e w2 ⟨⟨y,rfl,-⟩,g2⟩;rw [HZ.out];have HG2:=Lib.hid ((g1.alloc _).trans g2);have k0:=cell_box _ _ 0 g2 rfl;have k1:=cell_box _ _ 1 g2 rfl;have k2:=cell_box _ _ 2 g2 rfl;simp only [List.getElem?_toArray,List.getElem?_cons_zero,List.getElem?_cons_succ] at k0 k1 k2))
   exact bodyPost_ret (v:=.tuple #[.bool false,.int .i64 0]) (by simp [results,Tryz.results185,go_sem]) rfl ⟨by rw [HB.out];rfl,HG2.out⟩
  ·cases L
   all_goals
    go_enter Tryz.func185, Tryz.ntmps185
    go_wp2_with (first
      | (go_at_call 208;(with_reducible refine (CA.out _).mono ?_);rintro e w1 ⟨v,rfl,⟨B,rfl,hB⟩,g1⟩;rw [HV.out B];unfold fnV;clear hB)
      | (go_at_call 244;(with_reducible refine (CD.out B _).mono ?_);rintro e w2 ⟨⟨y,rfl,-⟩,g2⟩;rw [HZ.out];have HG2:=Lib.hid ((g1.alloc _).trans g2);have k0:=cell_box _ _ 0 g2 rfl;have k1:=cell_box _ _ 1 g2 rfl;have k2:=cell_box _ _ 2 g2 rfl;simp only [List.getElem?_toArray,List.getElem?_cons_zero,List.getElem?_cons_succ] at k0 k1 k2)
      | (go_at_call 246;(with_reducible refine (CL.out _).mono ?_);rintro e w3 ⟨rfl,g3⟩;have HG3:=Lib.hid (HG2.out.trans g3);have l1:=cell_box _ _ 1 (g2.trans g3) rfl;simp only [List.getElem?_toArray,List.getElem?_cons_zero,List.getElem?_cons_succ] at l1))
   ·exact bodyPost_ret (v:=.tuple #[.bool false,.int .i64 0]) (by simp [results,Tryz.results185,go_sem]) rfl ⟨by rw [HB.out];rfl,HG3.out⟩
   ·exact bodyPost_ret (v:=.tuple #[.bool true,.int .i64 0]) (by simp [results,Tryz.results185,go_sem]) rfl ⟨by rw [HB.out];rfl,HG3.out⟩
end Ops
end Go.Proofs.YthfhamagopbgcaaGreat

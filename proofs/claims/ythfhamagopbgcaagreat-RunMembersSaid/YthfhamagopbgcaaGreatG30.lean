/- The program's bits: Breaks of operations that wrap. (Printed by gen_bo.py.) -/
import Derived.Test.YthfhamagopbgcaaGreatG27
import Derived.Shelf.Abstract
namespace Go.Proofs.YthfhamagopbgcaaGreat
set_option linter.unusedSimpArgs false
set_option linter.unusedVariables false
open Go.RowKit Go.Maps Go.Shelf

namespace Ops

set_option maxRecDepth 100000 in
set_option maxHeartbeats 8000000 in
theorem brk11 (fl n a b:Int) (w:World) (hf:0≤fl∧fl≤7) (hn:Wd.Wid n) (ha:Wd.Word n a) (hb:Wd.Word n b):Calls Tryz.prog 185 #[.int .i64 11,.int .i64 fl,.int .i64 n,.int .u32 a,.int .u32 b] w fun e w'=>e=.returned (.tuple #[.bool (Wd.broken 11 fl n a b),.int .i64 0])∧Gr w w':=by
 have CA:=Lib.hid fun w1=>asked_any 11 n a b w1 (by omega) hn ha hb
 have CD:=Lib.hid fun B w1=>dofn11 n a b B w1 hn ha hb
 have HV:=Lib.hid (show ∀ B,opV 11 B=.agg #[fnV 240,fnV 241,.nilFunc] from fun B=>rfl)
 obtain ⟨F1,F2,F4⟩:=flag_bits hf
 have N1:=nil_eq
 have N2:=func_eq
 have N3:=nil_ne
 have N4:=func_ne
 obtain ⟨f1,f2⟩:=hf
 obtain ⟨t1,ht1⟩:∃ t,(fl % 2 == 1)=t:=⟨_,rfl⟩
 obtain ⟨t2,ht2⟩:∃ t,(fl / 2 % 2 == 1)=t:=⟨_,rfl⟩
 obtain ⟨t4,ht4⟩:∃ t,(fl / 4 % 2 == 1)=t:=⟨_,rfl⟩
 rw [ht1] at F1
 rw [ht2] at F2
 rw [ht4] at F4
 obtain ⟨z,hz⟩:∃ z,Wd.op 11 n a b=z:=⟨_,rfl⟩
 have HZ:=Lib.hid hz
 obtain _ | x:=z
 ·have HB:Hid (Wd.broken 11 fl n a b=false):=by show _=_;unfold Wd.broken;rw [hz];rfl
  clear hn ha hb hz ht1 ht2 ht4 F1 F2 F4
  go_enter Tryz.func185, Tryz.ntmps185
  go_wp2_with (first
    | (go_at_call 208;(with_reducible refine (CA.out _).mono ?_);rintro e w1 ⟨v,rfl,⟨B,rfl,hB⟩,g1⟩;rw [HV.out B];unfold fnV;clear hB)
    | (go_at_call 240;(with_reducible refine (CD.out B _).mono ?_);rintro e w2 ⟨⟨y,rfl,-⟩,g2⟩;rw [HZ.out];have HG2:=Lib.hid ((g1.alloc _).trans g2);have k0:=cell_box _ _ 0 g2 rfl;have k1:=cell_box _ _ 1 g2 rfl;have k2:=cell_box _ _ 2 g2 rfl;simp only [List.getElem?_toArray,List.getElem?_cons_zero,List.getElem?_cons_succ] at k0 k1 k2))
  exact bodyPost_ret (v:=.tuple #[.bool false,.int .i64 0]) (by simp [results,Tryz.results185,go_sem]) rfl ⟨by rw [HB.out],HG2.out⟩
 ·have hbn:b<32:=by
   have:=hn.2
   have:¬ n≤b:=fun e=>by rw [show Wd.op 11 n a b=if n≤b then none else some (a * 2 ^ b.toNat % Wd.sz n) from rfl,if_pos e] at hz;cases hz
   omega
  have ba:=words hn ha
  have bb:=words hn hb
  have sa:=sg_bd hn ha
  have sb:=sg_bd hn hb
  have CX:Hid (∀ w1,Calls Tryz.prog 241 #[.int .i64 a,.int .i64 b] w1 fun e w'=>e=.returned (.int .i64 (a * 2 ^ b.toNat))∧w1=w'):=fun w1=>op17_any a b w1 ⟨by omega,by omega⟩ ⟨hb.1,hbn⟩ (shl_bd ⟨by omega,by omega⟩ ⟨hb.1,hbn⟩)
  have CZ:Hid (∀ w1,Calls Tryz.prog 241 #[.int .i64 (Wd.sg n a),.int .i64 (b)] w1 fun e w'=>e=.returned (.int .i64 (Wd.sg n a * 2 ^ b.toNat))∧w1=w'):=fun w1=>op17_any (Wd.sg n a) b w1 ⟨by omega,by omega⟩ ⟨hb.1,hbn⟩ (shl_bd ⟨by omega,by omega⟩ ⟨hb.1,hbn⟩)
  have HB:Hid (Wd.broken 11 fl n a b=wrapsB t1 t2 (Wd.sz n-1) (Wd.sz (n-1)) (a * 2 ^ b.toNat) (Wd.sg n a * 2 ^ b.toNat)):=by
   show _=_
   rw [← ht1,← ht2,← brk11_eq fl ha]
   unfold Wd.broken
   rw [show (Wd.op 11 n a b).isSome=true by rw [hz];first | rfl | (rw [← hz];rfl)]
   rfl
  have CM:=Lib.hid fun w1=>bmask_any n w1 hn
  have CSA:=Lib.hid fun w1=>bsigned_any n a w1 hn ha
  have CSB:=Lib.hid fun w1=>bsigned_any n b w1 hn hb
  obtain ⟨k,ek,eh,hk,h1,h2⟩:=half_facts hn
  obtain ⟨n1,n2⟩:=id hn
  obtain ⟨a1,a2⟩:=id ba
  obtain ⟨b1,b2⟩:=id bb
  have hm:0≤Wd.sz n-1∧Wd.sz n-1<4294967296:=by have:=Wd.sz_32 hn;have:=Wd.sz_pos n;omega
  obtain ⟨m1,m2⟩:=hm
  obtain ⟨X,hX⟩:∃ X,a * 2 ^ b.toNat=X:=⟨_,rfl⟩
  obtain ⟨Z,hZ⟩:∃ Z,Wd.sg n a * 2 ^ b.toNat=Z:=⟨_,rfl⟩
  rw [hX] at CX HB
  rw [hZ] at CZ HB
  clear hX hZ ba bb sa sb
  obtain ⟨x,hx⟩:∃ x,Wd.sg n a=x:=⟨_,rfl⟩
  obtain ⟨y,hy⟩:∃ y,Wd.sg n b=y:=⟨_,rfl⟩
  obtain ⟨m,hm⟩:∃ m,Wd.sz n-1=m:=⟨_,rfl⟩
  obtain ⟨h,hh⟩:∃ h,Wd.sz (n-1)=h:=⟨_,rfl⟩
  rw [hx] at CSA CZ
  rw [hy] at CSB
  try rw [hy] at CZ
  rw [hm] at CM HB m1 m2
  rw [hh] at HB eh h1 h2
  clear hn ha hb hz ht1 ht2 ht4 hx hy hm hh

  cases t4
  all_goals
   cases t1
   ·cases t2
    ·go_enter Tryz.func185, Tryz.ntmps185
     go_wp2_with (first
     | (go_at_call 208;(with_reducible refine (CA.out _).mono ?_);rintro e w1 ⟨v,rfl,⟨B,rfl,hB⟩,g1⟩;rw [HV.out B];unfold fnV;clear hB)
     | (go_at_call 240;(with_reducible refine (CD.out B _).mono ?_);rintro e w2 ⟨⟨y,rfl,-⟩,g2⟩;rw [HZ.out];have HG2:=Lib.hid ((g1.alloc _).trans g2);have k0:=cell_box _ _ 0 g2 rfl;have k1:=cell_box _ _ 1 g2 rfl;have k2:=cell_box _ _ 2 g2 rfl;simp only [List.getElem?_toArray,List.getElem?_cons_zero,List.getElem?_cons_succ] at k0 k1 k2)
     | (go_at_call 241;first | ((with_reducible refine (CX.out _).mono ?_);rintro e w3 ⟨rfl,rfl⟩) | ((with_reducible refine (CZ.out _).mono ?_);rintro e w3 ⟨rfl,rfl⟩))
     | (go_at_call 71;(with_reducible refine (CM.out _).mono ?_);rintro e w3 ⟨rfl,rfl⟩)
     | (go_at_call 209;first | ((with_reducible refine (CSA.out _).mono ?_);rintro e w3 ⟨rfl,rfl⟩) | ((with_reducible refine (CSB.out _).mono ?_);rintro e w3 ⟨rfl,rfl⟩)))
     exact bodyPost_ret (v:=.tuple #[.bool false,.int .i64 0]) (by simp [results,Tryz.results185,go_sem]) rfl ⟨by rw [HB.out];simp [wrapsB],HG2.out⟩
    ·rcases (by omega:Z < -h∨(h≤Z∧¬ Z < -h)∨(¬ Z < -h∧¬ h≤Z)) with z1 | ⟨z1,z2⟩ | ⟨z1,z2⟩
     ·have HW:=Lib.hid (And.intro z1 z1)
      go_enter Tryz.func185, Tryz.ntmps185
      go_wp2_with (first
          | (go_at_call 208;(with_reducible refine (CA.out _).mono ?_);rintro e w1 ⟨v,rfl,⟨B,rfl,hB⟩,g1⟩;rw [HV.out B];unfold fnV;clear hB)
          | (go_at_call 240;(with_reducible refine (CD.out B _).mono ?_);rintro e w2 ⟨⟨y,rfl,-⟩,g2⟩;rw [HZ.out];have HG2:=Lib.hid ((g1.alloc _).trans g2);have k0:=cell_box _ _ 0 g2 rfl;have k1:=cell_box _ _ 1 g2 rfl;have k2:=cell_box _ _ 2 g2 rfl;simp only [List.getElem?_toArray,List.getElem?_cons_zero,List.getElem?_cons_succ] at k0 k1 k2)
          | (go_at_call 241;first | ((with_reducible refine (CX.out _).mono ?_);rintro e w3 ⟨rfl,rfl⟩) | ((with_reducible refine (CZ.out _).mono ?_);rintro e w3 ⟨rfl,rfl⟩))
          | (go_at_call 71;(with_reducible refine (CM.out _).mono ?_);rintro e w3 ⟨rfl,rfl⟩)
          | (go_at_call 209;first | ((with_reducible refine (CSA.out _).mono ?_);rintro e w3 ⟨rfl,rfl⟩) | ((with_reducible refine (CSB.out _).mono ?_);rintro e w3 ⟨rfl,rfl⟩)))
      go_quiet ((first | (go_at_call 209;exact quiet_same (CSA.out _)) | (go_at_call 241;exact quiet_same (CZ.out _))))
      all_goals go_wp2
      all_goals exact bodyPost_ret (v:=.tuple #[.bool true,.int .i64 0]) (by simp [results,Tryz.results185,go_sem]) rfl ⟨by rw [HB.out];simp [wrapsB,HW.out.1,HW.out.2],HG2.out.drewN _⟩
     ·have HW:=Lib.hid (And.intro z1 z2)
      go_enter Tryz.func185, Tryz.ntmps185
      go_wp2_with (first
          | (go_at_call 208;(with_reducible refine (CA.out _).mono ?_);rintro e w1 ⟨v,rfl,⟨B,rfl,hB⟩,g1⟩;rw [HV.out B];unfold fnV;clear hB)
          | (go_at_call 240;(with_reducible refine (CD.out B _).mono ?_);rintro e w2 ⟨⟨y,rfl,-⟩,g2⟩;rw [HZ.out];have HG2:=Lib.hid ((g1.alloc _).trans g2);have k0:=cell_box _ _ 0 g2 rfl;have k1:=cell_box _ _ 1 g2 rfl;have k2:=cell_box _ _ 2 g2 rfl;simp only [List.getElem?_toArray,List.getElem?_cons_zero,List.getElem?_cons_succ] at k0 k1 k2)
          | (go_at_call 241;first | ((with_reducible refine (CX.out _).mono ?_);rintro e w3 ⟨rfl,rfl⟩) | ((with_reducible refine (CZ.out _).mono ?_);rintro e w3 ⟨rfl,rfl⟩))
          | (go_at_call 71;(with_reducible refine (CM.out _).mono ?_);rintro e w3 ⟨rfl,rfl⟩)
          | (go_at_call 209;first | ((with_reducible refine (CSA.out _).mono ?_);rintro e w3 ⟨rfl,rfl⟩) | ((with_reducible refine (CSB.out _).mono ?_);rintro e w3 ⟨rfl,rfl⟩)))
      go_quiet ((first | (go_at_call 209;exact quiet_same (CSA.out _)) | (go_at_call 241;exact quiet_same (CZ.out _))))
      all_goals go_wp2
      all_goals exact bodyPost_ret (v:=.tuple #[.bool true,.int .i64 0]) (by simp [results,Tryz.results185,go_sem]) rfl ⟨by rw [HB.out];simp [wrapsB,HW.out.1,HW.out.2],HG2.out.drewN _⟩
     ·have HW:=Lib.hid (And.intro z1 z2)
      go_enter Tryz.func185, Tryz.ntmps185
      go_wp2_with (first
          | (go_at_call 208;(with_reducible refine (CA.out _).mono ?_);rintro e w1 ⟨v,rfl,⟨B,rfl,hB⟩,g1⟩;rw [HV.out B];unfold fnV;clear hB)
          | (go_at_call 240;(with_reducible refine (CD.out B _).mono ?_);rintro e w2 ⟨⟨y,rfl,-⟩,g2⟩;rw [HZ.out];have HG2:=Lib.hid ((g1.alloc _).trans g2);have k0:=cell_box _ _ 0 g2 rfl;have k1:=cell_box _ _ 1 g2 rfl;have k2:=cell_box _ _ 2 g2 rfl;simp only [List.getElem?_toArray,List.getElem?_cons_zero,List.getElem?_cons_succ] at k0 k1 k2)
          | (go_at_call 241;first | ((with_reducible refine (CX.out _).mono ?_);rintro e w3 ⟨rfl,rfl⟩) | ((with_reducible refine (CZ.out _).mono ?_);rintro e w3 ⟨rfl,rfl⟩))
          | (go_at_call 71;(with_reducible refine (CM.out _).mono ?_);rintro e w3 ⟨rfl,rfl⟩)
          | (go_at_call 209;first | ((with_reducible refine (CSA.out _).mono ?_);rintro e w3 ⟨rfl,rfl⟩) | ((with_reducible refine (CSB.out _).mono ?_);rintro e w3 ⟨rfl,rfl⟩)))
      go_quiet ((first | (go_at_call 209;exact quiet_same (CSA.out _)) | (go_at_call 241;exact quiet_same (CZ.out _))))
      all_goals go_wp2
      all_goals exact bodyPost_ret (v:=.tuple #[.bool false,.int .i64 0]) (by simp [results,Tryz.results185,go_sem]) rfl ⟨by rw [HB.out];simp [wrapsB,HW.out.1,HW.out.2],HG2.out.drewN _⟩
   ·rcases (by omega:X<0∨(m<X∧¬ X<0)∨(¬ X<0∧¬ m<X)) with x1 | ⟨x1,x2⟩ | ⟨x1,x2⟩
    ·have HX:=Lib.hid (And.intro x1 x1)
     go_enter Tryz.func185, Tryz.ntmps185
     go_wp2_with (first
     | (go_at_call 208;(with_reducible refine (CA.out _).mono ?_);rintro e w1 ⟨v,rfl,⟨B,rfl,hB⟩,g1⟩;rw [HV.out B];unfold fnV;clear hB)
     | (go_at_call 240;(with_reducible refine (CD.out B _).mono ?_);rintro e w2 ⟨⟨y,rfl,-⟩,g2⟩;rw [HZ.out];have HG2:=Lib.hid ((g1.alloc _).trans g2);have k0:=cell_box _ _ 0 g2 rfl;have k1:=cell_box _ _ 1 g2 rfl;have k2:=cell_box _ _ 2 g2 rfl;simp only [List.getElem?_toArray,List.getElem?_cons_zero,List.getElem?_cons_succ] at k0 k1 k2)
     | (go_at_call 241;first | ((with_reducible refine (CX.out _).mono ?_);rintro e w3 ⟨rfl,rfl⟩) | ((with_reducible refine (CZ.out _).mono ?_);rintro e w3 ⟨rfl,rfl⟩))
     | (go_at_call 71;(with_reducible refine (CM.out _).mono ?_);rintro e w3 ⟨rfl,rfl⟩)
     | (go_at_call 209;first | ((with_reducible refine (CSA.out _).mono ?_);rintro e w3 ⟨rfl,rfl⟩) | ((with_reducible refine (CSB.out _).mono ?_);rintro e w3 ⟨rfl,rfl⟩)))
     exact bodyPost_ret (v:=.tuple #[.bool true,.int .i64 0]) (by simp [results,Tryz.results185,go_sem]) rfl ⟨by rw [HB.out];simp [wrapsB,HX.out.1,HX.out.2],HG2.out⟩
    ·have HX:=Lib.hid (And.intro x1 x2)
     go_enter Tryz.func185, Tryz.ntmps185
     go_wp2_with (first
     | (go_at_call 208;(with_reducible refine (CA.out _).mono ?_);rintro e w1 ⟨v,rfl,⟨B,rfl,hB⟩,g1⟩;rw [HV.out B];unfold fnV;clear hB)
     | (go_at_call 240;(with_reducible refine (CD.out B _).mono ?_);rintro e w2 ⟨⟨y,rfl,-⟩,g2⟩;rw [HZ.out];have HG2:=Lib.hid ((g1.alloc _).trans g2);have k0:=cell_box _ _ 0 g2 rfl;have k1:=cell_box _ _ 1 g2 rfl;have k2:=cell_box _ _ 2 g2 rfl;simp only [List.getElem?_toArray,List.getElem?_cons_zero,List.getElem?_cons_succ] at k0 k1 k2)
     | (go_at_call 241;first | ((with_reducible refine (CX.out _).mono ?_);rintro e w3 ⟨rfl,rfl⟩) | ((with_reducible refine (CZ.out _).mono ?_);rintro e w3 ⟨rfl,rfl⟩))
     | (go_at_call 71;(with_reducible refine (CM.out _).mono ?_);rintro e w3 ⟨rfl,rfl⟩)
     | (go_at_call 209;first | ((with_reducible refine (CSA.out _).mono ?_);rintro e w3 ⟨rfl,rfl⟩) | ((with_reducible refine (CSB.out _).mono ?_);rintro e w3 ⟨rfl,rfl⟩)))
     exact bodyPost_ret (v:=.tuple #[.bool true,.int .i64 0]) (by simp [results,Tryz.results185,go_sem]) rfl ⟨by rw [HB.out];simp [wrapsB,HX.out.1,HX.out.2],HG2.out⟩
    ·have HX:=Lib.hid (And.intro x1 x2)
     cases t2
     ·go_enter Tryz.func185, Tryz.ntmps185
      go_wp2_with (first
          | (go_at_call 208;(with_reducible refine (CA.out _).mono ?_);rintro e w1 ⟨v,rfl,⟨B,rfl,hB⟩,g1⟩;rw [HV.out B];unfold fnV;clear hB)
          | (go_at_call 240;(with_reducible refine (CD.out B _).mono ?_);rintro e w2 ⟨⟨y,rfl,-⟩,g2⟩;rw [HZ.out];have HG2:=Lib.hid ((g1.alloc _).trans g2);have k0:=cell_box _ _ 0 g2 rfl;have k1:=cell_box _ _ 1 g2 rfl;have k2:=cell_box _ _ 2 g2 rfl;simp only [List.getElem?_toArray,List.getElem?_cons_zero,List.getElem?_cons_succ] at k0 k1 k2)
          | (go_at_call 241;first | ((with_reducible refine (CX.out _).mono ?_);rintro e w3 ⟨rfl,rfl⟩) | ((with_reducible refine (CZ.out _).mono ?_);rintro e w3 ⟨rfl,rfl⟩))
          | (go_at_call 71;(with_reducible refine (CM.out _).mono ?_);rintro e w3 ⟨rfl,rfl⟩)
          | (go_at_call 209;first | ((with_reducible refine (CSA.out _).mono ?_);rintro e w3 ⟨rfl,rfl⟩) | ((with_reducible refine (CSB.out _).mono ?_);rintro e w3 ⟨rfl,rfl⟩)))
      exact bodyPost_ret (v:=.tuple #[.bool false,.int .i64 0]) (by simp [results,Tryz.results185,go_sem]) rfl ⟨by rw [HB.out];simp [wrapsB,HX.out.1,HX.out.2],HG2.out⟩
     ·rcases (by omega:Z < -h∨(h≤Z∧¬ Z < -h)∨(¬ Z < -h∧¬ h≤Z)) with z1 | ⟨z1,z2⟩ | ⟨z1,z2⟩
      ·have HW:=Lib.hid (And.intro z1 z1)
       go_enter Tryz.func185, Tryz.ntmps185
       go_wp2_with (first
          | (go_at_call 208;(with_reducible refine (CA.out _).mono ?_);rintro e w1 ⟨v,rfl,⟨B,rfl,hB⟩,g1⟩;rw [HV.out B];unfold fnV;clear hB)
          | (go_at_call 240;(with_reducible refine (CD.out B _).mono ?_);rintro e w2 ⟨⟨y,rfl,-⟩,g2⟩;rw [HZ.out];have HG2:=Lib.hid ((g1.alloc _).trans g2);have k0:=cell_box _ _ 0 g2 rfl;have k1:=cell_box _ _ 1 g2 rfl;have k2:=cell_box _ _ 2 g2 rfl;simp only [List.getElem?_toArray,List.getElem?_cons_zero,List.getElem?_cons_succ] at k0 k1 k2)
          | (go_at_call 241;first | ((with_reducible refine (CX.out _).mono ?_);rintro e w3 ⟨rfl,rfl⟩) | ((with_reducible refine (CZ.out _).mono ?_);rintro e w3 ⟨rfl,rfl⟩))
          | (go_at_call 71;(with_reducible refine (CM.out _).mono ?_);rintro e w3 ⟨rfl,rfl⟩)
          | (go_at_call 209;first | ((with_reducible refine (CSA.out _).mono ?_);rintro e w3 ⟨rfl,rfl⟩) | ((with_reducible refine (CSB.out _).mono ?_);rintro e w3 ⟨rfl,rfl⟩)))
       go_quiet ((first | (go_at_call 209;exact quiet_same (CSA.out _)) | (go_at_call 241;exact quiet_same (CZ.out _))))
       all_goals go_wp2
       all_goals exact bodyPost_ret (v:=.tuple #[.bool true,.int .i64 0]) (by simp [results,Tryz.results185,go_sem]) rfl ⟨by rw [HB.out];simp [wrapsB,HW.out.1,HW.out.2,HX.out.1,HX.out.2],HG2.out.drewN _⟩
      ·have HW:=Lib.hid (And.intro z1 z2)
       go_enter Tryz.func185, Tryz.ntmps185
       go_wp2_with (first
          | (go_at_call 208;(with_reducible refine (CA.out _).mono ?_);rintro e w1 ⟨v,rfl,⟨B,rfl,hB⟩,g1⟩;rw [HV.out B];unfold fnV;clear hB)
          | (go_at_call 240;(with_reducible refine (CD.out B _).mono ?_);rintro e w2 ⟨⟨y,rfl,-⟩,g2⟩;rw [HZ.out];have HG2:=Lib.hid ((g1.alloc _).trans g2);have k0:=cell_box _ _ 0 g2 rfl;have k1:=cell_box _ _ 1 g2 rfl;have k2:=cell_box _ _ 2 g2 rfl;simp only [List.getElem?_toArray,List.getElem?_cons_zero,List.getElem?_cons_succ] at k0 k1 k2)
          | (go_at_call 241;first | ((with_reducible refine (CX.out _).mono ?_);rintro e w3 ⟨rfl,rfl⟩) | ((with_reducible refine (CZ.out _).mono ?_);rintro e w3 ⟨rfl,rfl⟩))
          | (go_at_call 71;(with_reducible refine (CM.out _).mono ?_);rintro e w3 ⟨rfl,rfl⟩)
          | (go_at_call 209;first | ((with_reducible refine (CSA.out _).mono ?_);rintro e w3 ⟨rfl,rfl⟩) | ((with_reducible refine (CSB.out _).mono ?_);rintro e w3 ⟨rfl,rfl⟩)))
       go_quiet ((first | (go_at_call 209;exact quiet_same (CSA.out _)) | (go_at_call 241;exact quiet_same (CZ.out _))))
       all_goals go_wp2
       all_goals exact bodyPost_ret (v:=.tuple #[.bool true,.int .i64 0]) (by simp [results,Tryz.results185,go_sem]) rfl ⟨by rw [HB.out];simp [wrapsB,HW.out.1,HW.out.2,HX.out.1,HX.out.2],HG2.out.drewN _⟩
      ·have HW:=Lib.hid (And.intro z1 z2)
       go_enter Tryz.func185, Tryz.ntmps185
       go_wp2_with (first
          | (go_at_call 208;(with_reducible refine (CA.out _).mono ?_);rintro e w1 ⟨v,rfl,⟨B,rfl,hB⟩,g1⟩;rw [HV.out B];unfold fnV;clear hB)
          | (go_at_call 240;(with_reducible refine (CD.out B _).mono ?_);rintro e w2 ⟨⟨y,rfl,-⟩,g2⟩;rw [HZ.out];have HG2:=Lib.hid ((g1.alloc _).trans g2);have k0:=cell_box _ _ 0 g2 rfl;have k1:=cell_box _ _ 1 g2 rfl;have k2:=cell_box _ _ 2 g2 rfl;simp only [List.getElem?_toArray,List.getElem?_cons_zero,List.getElem?_cons_succ] at k0 k1 k2)
          | (go_at_call 241;first | ((with_reducible refine (CX.out _).mono ?_);rintro e w3 ⟨rfl,rfl⟩) | ((with_reducible refine (CZ.out _).mono ?_);rintro e w3 ⟨rfl,rfl⟩))
          | (go_at_call 71;(with_reducible refine (CM.out _).mono ?_);rintro e w3 ⟨rfl,rfl⟩)
          | (go_at_call 209;first | ((with_reducible refine (CSA.out _).mono ?_);rintro e w3 ⟨rfl,rfl⟩) | ((with_reducible refine (CSB.out _).mono ?_);rintro e w3 ⟨rfl,rfl⟩)))
       go_quiet ((first | (go_at_call 209;exact quiet_same (CSA.out _)) | (go_at_call 241;exact quiet_same (CZ.out _))))
       all_goals go_wp2
       all_goals exact bodyPost_ret (v:=.tuple #[.bool false,.int .i64 0]) (by simp [results,Tryz.results185,go_sem]) rfl ⟨by rw [HB.out];simp [wrapsB,HW.out.1,HW.out.2,HX.out.1,HX.out.2],HG2.out.drewN _⟩
end Ops
end Go.Proofs.YthfhamagopbgcaaGreat

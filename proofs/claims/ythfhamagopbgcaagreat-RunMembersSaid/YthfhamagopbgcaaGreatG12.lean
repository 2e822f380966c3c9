/- Parts: IrS IrT IrU IrW. -/
import Derived.Test.YthfhamagopbgcaaGreatG09
import Derived.Test.YthfhamagopbgcaaGreatG10
import Derived.Test.YthfhamagopbgcaaGreatG11
import Derived.Deep.QuietTactic
import Derived.BigQuiet
import Derived.Test.YthfhamagopbgcaaGreatG08
namespace Go.Proofs.YthfhamagopbgcaaGreat
open Go.RowKit

theorem classOf_range (n:Int):0≤Ir.classOf n∧Ir.classOf n≤18:=by
 unfold Ir.classOf
 repeat' split
 all_goals omega

theorem shapeOf_any (f:Fn) (x:Ins) (vp vb:Value) (As Aa At:Option Addr) (cs ca ct:Nat) (w:World) (hb:0≤x.imm∧x.imm<4294967296∧f.slots.length≤17592186044416∧x.to.length≤17592186044416) (hvt:IntsAt w.heap.size w (.slice At x.to.length ct) x.to) :
  Calls Tryz.prog 105 #[.agg #[vp,.int .i64 f.ret,.slice As f.slots.length cs,vb],.agg #[.int .i64 x.op,.int .i64 x.width,.int .i64 x.flags,.slice Aa x.args.length ca,.int .u32 x.imm,.slice At x.to.length ct]] w fun e w' =>
   e=.returned (.tuple #[.agg #[.int .i64 (Ir.shapeOf f x).1,.int .i64 (Ir.shapeOf f x).2.1],.bool (Ir.shapeOf f x).2.2])∧Gr w w':=by
 have hr:=classOf_range x.op
 rcases (by omega:Ir.classOf x.op=0∨Ir.classOf x.op=1∨Ir.classOf x.op=2∨Ir.classOf x.op=3∨Ir.classOf x.op=4∨Ir.classOf x.op=5∨Ir.classOf x.op=6∨Ir.classOf x.op=7∨Ir.classOf x.op=8∨Ir.classOf x.op=9∨Ir.classOf x.op=10∨Ir.classOf x.op=11∨Ir.classOf x.op=12∨Ir.classOf x.op=13∨Ir.classOf x.op=14∨Ir.classOf x.op=15∨Ir.classOf x.op=16∨Ir.classOf x.op=17∨Ir.classOf x.op=18) with h | h | h | h | h | h | h | h | h | h | h | h | h | h | h | h | h | h | h
 ·exact shapeOf_0 f x vp vb As Aa At cs ca ct w hb h
 ·exact shapeOf_1 f x vp vb As Aa At cs ca ct w hb h
 ·exact shapeOf_2 f x vp vb As Aa At cs ca ct w hb h
 ·exact shapeOf_3 f x vp vb As Aa At cs ca ct w hb h
 ·exact shapeOf_4 f x vp vb As Aa At cs ca ct w hb h
 ·exact shapeOf_5 f x vp vb As Aa At cs ca ct w hb h
 ·exact shapeOf_6 f x vp vb As Aa At cs ca ct w hb h
 ·exact shapeOf_7 f x vp vb As Aa At cs ca ct w hb h
 ·exact shapeOf_8 f x vp vb As Aa At cs ca ct w hb h
 ·exact shapeOf_9 f x vp vb As Aa At cs ca ct w hb h
 ·exact shapeOf_10 f x vp vb As Aa At cs ca ct w hb h
 ·exact shapeOf_11 f x vp vb As Aa At cs ca ct w hb h
 ·exact shapeOf_12 f x vp vb As Aa At cs ca ct w hb h
 ·exact shapeOf_13 f x vp vb As Aa At cs ca ct w hb h
 ·exact shapeOf_14 f x vp vb As Aa At cs ca ct w hb h
 ·exact shapeOf_15 f x vp vb As Aa At cs ca ct w hb h
 ·exact shapeOf_16 f x vp vb As Aa At cs ca ct w hb hvt h
 ·exact shapeOf_17 f x vp vb As Aa At cs ca ct w hb h
 ·exact shapeOf_18 f x vp vb As Aa At cs ca ct w hb h

/-- A block that is none; the function lies in the variable that is captured. -/
theorem isShaped1_any (n:Int) (B:Nat) (A:Option Addr) (len c:Nat) (w:World) (hc:w.cell? ⟨B,3,none⟩=some (.slice A len c)) :
  Calls Tryz.prog 107 #[.int .i64 n,.pointer (some ⟨B,0,none⟩)] w fun e w'=>e=.returned (.bool (Ir.outside len n))∧w=w':=by
 go_enter Tryz.func107, Tryz.ntmps107
 go_wp2
 all_goals go_ret
 all_goals exact ⟨ret_bool (by unfold Ir.outside;grind),rfl⟩
end Go.Proofs.YthfhamagopbgcaaGreat
namespace Go.Proofs.YthfhamagopbgcaaGreat
open Go.RowKit

/-- What the program's isShaped answers. -/
def Ir.isShaped (f:Fn) (x:Ins):Bool :=
 (Ir.shapeOf f x).2.2 && ((x.args.length:Int) == (Ir.shapeOf f x).1) && ((x.to.length:Int) == (Ir.shapeOf f x).2.1) && (bits .andNot .i64 x.flags (Ir.flagsOf x.op) == 0) && !x.to.any (Ir.outside f.blocks.length)

set_option maxRecDepth 100000 in
set_option maxHeartbeats 4000000 in
theorem isShaped_any (f:Fn) (x:Ins) (vp:Value) (As Aa At Ab:Option Addr) (cs ca ct cb:Nat) (w:World) (hb:0≤x.imm∧x.imm<4294967296∧f.slots.length≤17592186044416∧x.to.length≤17592186044416) (hvt:IntsAt w.heap.size w (.slice At x.to.length ct) x.to) :
  Calls Tryz.prog 65 #[.agg #[vp,.int .i64 f.ret,.slice As f.slots.length cs,.slice Ab f.blocks.length cb],.agg #[.int .i64 x.op,.int .i64 x.width,.int .i64 x.flags,.slice Aa x.args.length ca,.int .u32 x.imm,.slice At x.to.length ct]] w fun e w' =>
   e=.returned (.bool (Ir.isShaped f x))∧Gr w w':=by
 have HSH:Hid (∀ w1,Gr w w1→Calls Tryz.prog 105 #[.agg #[vp,.int .i64 f.ret,.slice As f.slots.length cs,.slice Ab f.blocks.length cb],.agg #[.int .i64 x.op,.int .i64 x.width,.int .i64 x.flags,.slice Aa x.args.length ca,.int .u32 x.imm,.slice At x.to.length ct]] w1 fun e w' =>
     e=.returned (.tuple #[.agg #[.int .i64 (Ir.shapeOf f x).1,.int .i64 (Ir.shapeOf f x).2.1],.bool (Ir.shapeOf f x).2.2])∧Gr w1 w') :=
  fun w1 g1=>shapeOf_any f x vp _ As Aa At cs ca ct w1 hb (hvt.gr g1)
 have HFL:Hid (∀ w1,Calls Tryz.prog 106 #[.int .i64 x.op] w1 fun e w'=>e=.returned (.int .i64 (Ir.flagsOf x.op))∧w1=w'):=fun w1=>flagsOf_any x.op w1
 have HCC:Hid (∀ w1,Gr w w1→(∀ W,Gr w1 W→W.cell? ⟨w.heap.size,3,none⟩=some (.slice Ab f.blocks.length cb))→Calls Tryz.prog 40 #[.slice At x.to.length ct,.func (.func 107) #[] #[.pointer (some ⟨w.heap.size,0,none⟩)]] w1 fun e w' =>
     e=.returned (.bool (x.to.any (Ir.outside f.blocks.length)))∧Gr w1 w'):=by
  intro w1 g1 hbx
  refine ContainsFunc_any _ _ (enters_of Tryz.func107 (by kernel_rfl) rfl) _ _ _ _ (hvt.gr g1) ?_
  intro z _ W g2
  exact (isShaped1_any z w.heap.size Ab f.blocks.length cb W (hbx W g2)).mono fun _ _ h=>⟨h.1,h.2 ▸ Gr.refl _⟩
 have HS:Hid (Ir.isShaped f x=((Ir.shapeOf f x).2.2 && ((x.args.length:Int) == (Ir.shapeOf f x).1) && ((x.to.length:Int) == (Ir.shapeOf f x).2.1) && (bits .andNot .i64 x.flags (Ir.flagsOf x.op) == 0) && !x.to.any (Ir.outside f.blocks.length))):=by show _=_;rfl
 obtain ⟨s,hs⟩:∃ s,Ir.shapeOf f x=s:=⟨_,rfl⟩
 obtain ⟨m,hm⟩:∃ m,Ir.flagsOf x.op=m:=⟨_,rfl⟩
 rw [hs,hm] at HS
 rw [hs] at HSH
 rw [hm] at HFL
 obtain ⟨s1,s2,ok⟩:=s
 dsimp only at HS HSH
 clear hs hm hvt
 obtain ⟨W,hW⟩:∃ W,(w.alloc (.cells #[vp,.int .i64 f.ret,.slice As f.slots.length cs,.slice Ab f.blocks.length cb] 25)).alloc (.cells #[.int .i64 x.op,.int .i64 x.width,.int .i64 x.flags,.slice Aa x.args.length ca,.int .u32 x.imm,.slice At x.to.length ct] 67)=W:=⟨_,rfl⟩
 have hB0:Gr w W:=by rw [← hW];exact ((Gr.refl w).alloc _).alloc _
 have hWs:W.heap.size=w.heap.size+2:=by rw [← hW];simp
 have B0:Hid (∀ w',Gr W w'→w'.cell? ⟨w.heap.size,3,none⟩=some (.slice Ab f.blocks.length cb)):=by
  intro w' g
  refine (g.cell w.heap.size 3 (by omega)).trans ?_
  rw [← hW]
  exact (((Gr.refl _).alloc _).cell w.heap.size 3 (by simp)).trans (cell_of_row _ _ _ _ _ _ (heap_alloc_new w _))
 have B1:Hid (∀ w' o,Gr W w'→w'.cell? ⟨w.heap.size+1,o,none⟩=(#[.int .i64 x.op,.int .i64 x.width,.int .i64 x.flags,.slice Aa x.args.length ca,.int .u32 x.imm,.slice At x.to.length ct]:Array Value)[o]?):=by
  intro w' o g
  refine (g.cell (w.heap.size+1) o (by omega)).trans ?_
  rw [← hW]
  exact cell_of_row _ _ _ _ _ _ (heap_alloc2_new w _ _)
 have c0:=B0.out W (Gr.refl _)
 have d0:W.cell? ⟨w.heap.size+1,0,none⟩=some (.int .i64 x.op):=B1.out W 0 (Gr.refl _)
 have d1:W.cell? ⟨w.heap.size+1,1,none⟩=some (.int .i64 x.width):=B1.out W 1 (Gr.refl _)
 have d2:W.cell? ⟨w.heap.size+1,2,none⟩=some (.int .i64 x.flags):=B1.out W 2 (Gr.refl _)
 have d3:W.cell? ⟨w.heap.size+1,3,none⟩=some (.slice Aa x.args.length ca):=B1.out W 3 (Gr.refl _)
 have d4:W.cell? ⟨w.heap.size+1,4,none⟩=some (.int .u32 x.imm):=B1.out W 4 (Gr.refl _)
 have d5:W.cell? ⟨w.heap.size+1,5,none⟩=some (.slice At x.to.length ct):=B1.out W 5 (Gr.refl _)
 have e0:W.cell? ⟨w.heap.size,0,none⟩=some vp:=by
  rw [← hW];exact (((Gr.refl _).alloc _).cell w.heap.size 0 (by simp)).trans (cell_of_row _ _ _ _ _ _ (heap_alloc_new w _))
 have e1:W.cell? ⟨w.heap.size,1,none⟩=some (.int .i64 f.ret):=by
  rw [← hW];exact (((Gr.refl _).alloc _).cell w.heap.size 1 (by simp)).trans (cell_of_row _ _ _ _ _ _ (heap_alloc_new w _))
 have e2:W.cell? ⟨w.heap.size,2,none⟩=some (.slice As f.slots.length cs):=by
  rw [← hW];exact (((Gr.refl _).alloc _).cell w.heap.size 2 (by simp)).trans (cell_of_row _ _ _ _ _ _ (heap_alloc_new w _))
 obtain ⟨q1,hq1⟩:∃ q1,((x.args.length:Int) == s1)=q1:=⟨_,rfl⟩
 obtain ⟨q2,hq2⟩:∃ q2,((x.to.length:Int) == s2)=q2:=⟨_,rfl⟩
 obtain ⟨q3,hq3⟩:∃ q3,(bits .andNot .i64 x.flags m == 0)=q3:=⟨_,rfl⟩
 have hr1:((x.args.length:Int) != s1)=!q1:=by rw [bne,hq1]
 have hr2:((x.to.length:Int) != s2)=!q2:=by rw [bne,hq2]
 have hr3:(bits .andNot .i64 x.flags m != 0)=!q3:=by rw [bne,hq3]
 rw [hq1,hq2,hq3] at HS
 clear hq1 hq2 hq3
 cases ok with
 | false =>
  have HS2:Hid (Ir.isShaped f x=false):=by show _=_;rw [HS.out];simp
  go_enter Tryz.func65, Tryz.ntmps65
  go_wp2_with (go_at_call 105;refine (HSH.out _ hB0).mono ?_;rintro e w1 ⟨rfl,g1⟩)
  go_quiet (fail)
  go_wp2
  go_ret
  exact ⟨ret_bool (by rw [HS2.out]),((hB0.trans g1).alloc _).drewN _⟩
 | true =>
  cases q1 with
  | false =>
   have HS2:Hid (Ir.isShaped f x=false):=by show _=_;rw [HS.out];simp
   go_enter Tryz.func65, Tryz.ntmps65
   go_wp2_with (go_at_call 105;refine (HSH.out _ hB0).mono ?_;rintro e w1 ⟨rfl,g1⟩;have n0:∀ o,(w1.alloc o).cell? ⟨w.heap.size+1,0,none⟩=some (.int .i64 x.op):=fun o=>B1.out _ 0 (g1.alloc o);have n2:∀ o,(w1.alloc o).cell? ⟨w.heap.size+1,2,none⟩=some (.int .i64 x.flags):=fun o=>B1.out _ 2 (g1.alloc o);have n3:∀ o,(w1.alloc o).cell? ⟨w.heap.size+1,3,none⟩=some (.slice Aa x.args.length ca):=fun o=>B1.out _ 3 (g1.alloc o);have n5:∀ o,(w1.alloc o).cell? ⟨w.heap.size+1,5,none⟩=some (.slice At x.to.length ct):=fun o=>B1.out _ 5 (g1.alloc o))
   go_quiet (first | fail | (go_at_call 106;exact quiet_same (HFL.out _)))
   go_wp2
   go_ret
   exact ⟨ret_bool (by rw [HS2.out]),((hB0.trans g1).alloc _).drewN _⟩
  | true =>
   cases q2 with
   | false =>
    have HS2:Hid (Ir.isShaped f x=false):=by show _=_;rw [HS.out];simp
    go_enter Tryz.func65, Tryz.ntmps65
    go_wp2_with (go_at_call 105;refine (HSH.out _ hB0).mono ?_;rintro e w1 ⟨rfl,g1⟩;have n0:∀ o,(w1.alloc o).cell? ⟨w.heap.size+1,0,none⟩=some (.int .i64 x.op):=fun o=>B1.out _ 0 (g1.alloc o);have n2:∀ o,(w1.alloc o).cell? ⟨w.heap.size+1,2,none⟩=some (.int .i64 x.flags):=fun o=>B1.out _ 2 (g1.alloc o);have n3:∀ o,(w1.alloc o).cell? ⟨w.heap.size+1,3,none⟩=some (.slice Aa x.args.length ca):=fun o=>B1.out _ 3 (g1.alloc o);have n5:∀ o,(w1.alloc o).cell? ⟨w.heap.size+1,5,none⟩=some (.slice At x.to.length ct):=fun o=>B1.out _ 5 (g1.alloc o))
    go_quiet (first | fail | (go_at_call 106;exact quiet_same (HFL.out _)))
    go_wp2
    go_ret
    exact ⟨ret_bool (by rw [HS2.out]),((hB0.trans g1).alloc _).drewN _⟩
   | true =>
    cases q3 with
    | false =>
     have HS2:Hid (Ir.isShaped f x=false):=by show _=_;rw [HS.out];simp
     go_enter Tryz.func65, Tryz.ntmps65
     go_wp2_with (go_at_call 105;refine (HSH.out _ hB0).mono ?_;rintro e w1 ⟨rfl,g1⟩;have n0:∀ o,(w1.alloc o).cell? ⟨w.heap.size+1,0,none⟩=some (.int .i64 x.op):=fun o=>B1.out _ 0 (g1.alloc o);have n2:∀ o,(w1.alloc o).cell? ⟨w.heap.size+1,2,none⟩=some (.int .i64 x.flags):=fun o=>B1.out _ 2 (g1.alloc o);have n3:∀ o,(w1.alloc o).cell? ⟨w.heap.size+1,3,none⟩=some (.slice Aa x.args.length ca):=fun o=>B1.out _ 3 (g1.alloc o);have n5:∀ o,(w1.alloc o).cell? ⟨w.heap.size+1,5,none⟩=some (.slice At x.to.length ct):=fun o=>B1.out _ 5 (g1.alloc o))
     go_quiet (first | fail | (go_at_call 106;exact quiet_same (HFL.out _)))
     go_wp2
     go_ret
     exact ⟨ret_bool (by rw [HS2.out]),((hB0.trans g1).alloc _).drewN _⟩
    | true =>
     have HS2:Hid (Ir.isShaped f x=!x.to.any (Ir.outside f.blocks.length)):=by show _=_;rw [HS.out];simp
     obtain ⟨q4,hq4⟩:∃ q4,x.to.any (Ir.outside f.blocks.length)=q4:=⟨_,rfl⟩
     rw [hq4] at HS2 HCC
     clear hq4
     go_enter Tryz.func65, Tryz.ntmps65
     go_wp2_with (go_at_call 105;refine (HSH.out _ hB0).mono ?_;rintro e w1 ⟨rfl,g1⟩;have n0:∀ o,(w1.alloc o).cell? ⟨w.heap.size+1,0,none⟩=some (.int .i64 x.op):=fun o=>B1.out _ 0 (g1.alloc o);have n2:∀ o,(w1.alloc o).cell? ⟨w.heap.size+1,2,none⟩=some (.int .i64 x.flags):=fun o=>B1.out _ 2 (g1.alloc o);have n3:∀ o,(w1.alloc o).cell? ⟨w.heap.size+1,3,none⟩=some (.slice Aa x.args.length ca):=fun o=>B1.out _ 3 (g1.alloc o);have n5:∀ o,(w1.alloc o).cell? ⟨w.heap.size+1,5,none⟩=some (.slice At x.to.length ct):=fun o=>B1.out _ 5 (g1.alloc o))
     go_quiet (first | fail | (go_at_call 106;exact quiet_same (HFL.out _)))
     go_wp2_with (go_at_call 40;refine (HCC.out _ (((hB0.trans g1).alloc _).drewN _) (fun W' g2=>B0.out W' (((g1.alloc _).drewN _).trans g2))).mono ?_;rintro e w3 ⟨rfl,g3⟩)
     go_ret
     exact ⟨ret_bool (by rw [HS2.out]),(((hB0.trans g1).alloc _).drewN _).trans g3⟩
end Go.Proofs.YthfhamagopbgcaaGreat
namespace Go.Proofs.YthfhamagopbgcaaGreat
open Go.RowKit

theorem wrap_zero (n:Nat) (h:n<18446744073709551616):(IntKind.i64.wrap (n:Int) == 0)=(n == 0):=by
 have e:IntKind.i64.wrap (n:Int)=0↔n=0:=by
  unfold IntKind.wrap
  simp only [IntKind.signed,IntKind.bits]
  constructor
  ·intro q
   split at q <;> omega
  ·rintro rfl;decide
 by_cases q:n=0
 ·rw [beq_iff_eq.2 q,beq_iff_eq.2 (e.2 q)]
 ·rw [beq_eq_false_iff_ne.2 q,beq_eq_false_iff_ne.2 (fun c=>q (e.1 c))]
theorem ofNat_bit (m i:Nat) (hi:i<64):(BitVec.ofNat 64 m)[i]=m.testBit i:=by
 rw [← BitVec.getLsbD_eq_getElem,BitVec.getLsbD_ofNat];simp [hi]
/-- The bits of a number that are not in a mask. -/
theorem andn_zero (z:Int) (m:Nat):(bits .andNot .i64 z m == 0)=true↔∀ i,i<64→(BitVec.ofInt 64 z).getLsbD i=true→m.testBit i=true:=by
 unfold bits
 rw [wrap_zero _ (BitVec.isLt _),beq_iff_eq]
 constructor
 ·intro h i hi hz
  have h0:(BitVec.ofInt 64 z &&& ~~~BitVec.ofInt 64 (m:Int))=0#64:=BitVec.eq_of_toNat_eq h
  have:=congrArg (fun b=>b.getLsbD i) h0
  simp [hz,hi] at this
  rwa [ofNat_bit m i hi] at this
 ·intro h
  have h0:(BitVec.ofInt 64 z &&& ~~~BitVec.ofInt 64 (m:Int))=0#64:=by
   apply BitVec.eq_of_getLsbD_eq
   intro i hi
   simp [hi]
   intro hz
   rw [ofNat_bit m i hi]
   exact h i hi (by simpa [hi] using hz)
  exact congrArg BitVec.toNat h0
theorem flags_big (z:Int) (n:Nat) (h0:-9223372036854775808≤z) (h1:z≤9223372036854775807) (hz:∀ i,i<64→(BitVec.ofInt 64 z).getLsbD i=true→i<n) (hn:n≤62):0≤z∧z<2 ^ n:=by
 have hlt:(BitVec.ofInt 64 z).toNat<2 ^ n:=by
  apply Nat.lt_pow_two_of_testBit
  intro i hi
  by_cases h64:i<64
  ·cases hb:(BitVec.ofInt 64 z).toNat.testBit i with
   | false=>rfl
   | true=>have:=hz i h64 hb;omega
  ·exact Nat.testBit_lt_two_pow (Nat.lt_of_lt_of_le (BitVec.isLt _) (Nat.pow_le_pow_right (by omega) (by omega)))
 have hp:(2:Nat) ^ n≤2 ^ 62:=Nat.pow_le_pow_right (by omega) hn
 rw [BitVec.toNat_ofInt] at hlt
 have e62:(2:Nat) ^ 62=4611686018427387904:=by decide
 have e64:((2 ^ 64:Nat):Int)=18446744073709551616:=by decide
 rw [e64] at hlt
 rw [e62] at hp
 have hc:((2:Int) ^ n)=((2 ^ n:Nat):Int):=by simp
 rw [hc]
 omega

theorem flags_3 (z:Int) (h0:-9223372036854775808≤z) (h1:z≤9223372036854775807):(bits .andNot .i64 z (3:Nat) == 0)=(decide (0≤z) && decide (z≤3)):=by
 rw [Bool.eq_iff_iff,andn_zero]
 simp only [Bool.and_eq_true,decide_eq_true_eq]
 constructor
 ·intro h
  have:=flags_big z 2 h0 h1 (fun i hi hb=>by
    have:=h i hi hb
    rcases (by omega:i=0∨i=1∨2≤i) with rfl | rfl | q
    · omega
    · omega
    · rw [Nat.testBit_lt_two_pow (Nat.lt_of_lt_of_le (by decide:3<2 ^ 2) (Nat.pow_le_pow_right (by omega) q))] at this;cases this) (by omega)
  omega
 ·rintro ⟨q0,q3⟩ i hi hb
  rcases (by omega:z=0∨z=1∨z=2∨z=3) with rfl | rfl | rfl | rfl
  all_goals
   rcases (by omega:i=0∨i=1∨2≤i) with rfl | rfl | q
   ·first | decide | (simp at hb)
   ·first | decide | (simp at hb)
   ·exfalso
    simp only [BitVec.ofInt_ofNat] at hb
    rw [BitVec.getLsbD_ofNat,Nat.testBit_lt_two_pow (Nat.lt_of_lt_of_le (by decide:_<2 ^ 2) (Nat.pow_le_pow_right (by omega) q))] at hb
    simp at hb
theorem flags_1 (z:Int) (k:Nat) (hk:k<62) (h0:-9223372036854775808≤z) (h1:z≤9223372036854775807):(bits .andNot .i64 z ((2 ^ k:Nat):Int) == 0)=(decide (z=0) || decide (z=2 ^ k)):=by
 rw [Bool.eq_iff_iff,andn_zero]
 simp only [Bool.or_eq_true,decide_eq_true_eq,Nat.testBit_two_pow]
 constructor
 ·intro h
  have hb:=flags_big z (k+1) h0 h1 (fun i hi hb=>by have:=h i hi hb;omega) (by omega)
  obtain ⟨n,rfl⟩:=Int.eq_ofNat_of_zero_le hb.1
  have e:(BitVec.ofInt 64 (n:Int))=BitVec.ofNat 64 n:=BitVec.ofInt_natCast 64 n
  simp only [e,BitVec.getLsbD_ofNat,Bool.and_eq_true,decide_eq_true_eq] at h
  have hn:n=0∨n=2 ^ k:=by
   cases hq:n.testBit k with
   | true =>
    right
    apply Nat.eq_of_testBit_eq
    intro i
    rw [Nat.testBit_two_pow]
    by_cases hi:k=i
    ·subst hi;simp [hq]
    ·simp only [hi,decide_false]
     cases hz:n.testBit i with
     | false=>rfl
     | true =>
      by_cases h64:i<64
      ·exact absurd (h i h64 ⟨h64,hz⟩) hi
      ·rw [Nat.testBit_lt_two_pow (Nat.lt_of_lt_of_le (by omega:n<2 ^ 63) (Nat.pow_le_pow_right (by omega) (by omega)))] at hz;cases hz
   | false =>
    left
    apply Nat.eq_of_testBit_eq
    intro i
    rw [Nat.zero_testBit]
    cases hz:n.testBit i with
    | false=>rfl
    | true =>
     by_cases h64:i<64
     ·have:=h i h64 ⟨h64,hz⟩
      subst this
      rw [hz] at hq;cases hq
     ·rw [Nat.testBit_lt_two_pow (Nat.lt_of_lt_of_le (by omega:n<2 ^ 63) (Nat.pow_le_pow_right (by omega) (by omega)))] at hz;cases hz
  rcases hn with rfl | rfl
  ·left;rfl
  ·right;simp
 ·rintro (rfl | rfl) i hi hb
  ·simp at hb
  ·have e:(BitVec.ofInt 64 ((2:Int) ^ k))=BitVec.ofNat 64 (2 ^ k):=by
    rw [← BitVec.ofInt_natCast 64 (2 ^ k)];simp
   rw [e,BitVec.getLsbD_ofNat,Nat.testBit_two_pow] at hb
   simp at hb
   exact hb.2
theorem flags_0 (z:Int) (h0:-9223372036854775808≤z) (h1:z≤9223372036854775807):(bits .andNot .i64 z 0 == 0)=decide (z=0):=by
 rw [Bool.eq_iff_iff]
 have h:=andn_zero z 0
 rw [show ((0:Nat):Int)=0 from rfl] at h
 rw [h]
 simp only [Nat.zero_testBit,decide_eq_true_eq]
 constructor
 ·intro q
  have:=flags_big z 0 h0 h1 (fun i hi hb=>by cases q i hi hb) (by omega)
  simp at this
  omega
 ·rintro rfl i hi hb
  simp at hb
end Go.Proofs.YthfhamagopbgcaaGreat
namespace Go.Proofs.YthfhamagopbgcaaGreat
open Go.RowKit

theorem to_all (l:List Int) (n:Nat):(!l.any (Ir.outside n))=l.all (fun z=>decide (0≤z) && decide (z<(n:Int))):=by
 induction l with
 | nil=>rfl
 | cons a r ih =>
  rw [List.any_cons,List.all_cons,Bool.not_or,ih]
  congr 1
  unfold Ir.outside
  grind
theorem class_out (op:Int) (h:op<0∨32<op):Ir.classOf op=0:=by
 unfold Ir.classOf
 simp only [show ¬ op=0 by omega,show ¬ op=14 by omega,show ¬ op=15 by omega,show ¬ (op=16∨op=17) by omega,show ¬ op=18 by omega,show ¬ (op=19∨op=20) by omega,show ¬ op=21 by omega,show ¬ (op=22∨op=23) by omega,show ¬ op=24 by omega,show ¬ op=25 by omega,show ¬ op=26 by omega,
   show ¬ op=27 by omega,show ¬ op=28 by omega,show ¬ op=29 by omega,show ¬ op=30 by omega,show ¬ op=31 by omega,show ¬ op=32 by omega,show ¬ (1≤op∧op≤13) by omega,if_false]
theorem shapeOf_out (f:Fn) (x:Ins) (h:x.op<0∨32<x.op):(Ir.shapeOf f x).2.2=false:=by
 unfold Ir.shapeOf
 rw [class_out x.op h]
 rfl
theorem counts_eq (a t:Int) (ok:Bool) (x:Ins) (ha:0≤a) (ht:0≤t):Ref.counts (a,t,ok) x=(((x.args.length:Int) == a) && ((x.to.length:Int) == t)):=by
 unfold Ref.counts
 rw [Bool.eq_iff_iff]
 simp
 omega
/-- Where both texts ask for a numbers of Args and of blocks. -/
theorem shaped_case (f:Fn) (x:Ins) (a t:Int) (p q m:Bool) (hi:Ir.shapeOf f x=(a,t,p)) (hr:Ref.shape f x=(a,t,q)) (ha:0≤a) (ht:0≤t) (h30:x.op≠30) (hm:(bits .andNot .i64 x.flags (Ir.flagsOf x.op) == 0)=m) (hpq:(p && m)=q) :
  Ir.isShaped f x=Ref.argument f x:=by
 unfold Ir.isShaped Ref.argument
 rw [hi,hr,hm,counts_eq _ _ _ _ ha ht,to_all,← hpq]
 simp only [h30,ne_eq,not_false_eq_true,decide_true,Bool.true_or,Bool.and_true]
 generalize (x.to.all fun z=>decide (0≤z) && decide (z<(f.blocks.length:Int)))=T
 cases p <;> cases m <;> simp

set_option maxHeartbeats 2000000 in
theorem isShaped_eq (f:Fn) (x:Ins) (hr:0≤f.ret) (h0:-9223372036854775808≤x.flags) (h1:x.flags≤9223372036854775807):Ir.isShaped f x=Ref.argument f x:=by
 by_cases ho:x.op<0∨32<x.op
 ·unfold Ir.isShaped Ref.argument
  rw [shapeOf_out f x ho,shape_out f x ho]
  rfl
 have f0:=flags_0 x.flags h0 h1
 have f3:(bits .andNot .i64 x.flags 3 == 0)=(decide (0≤x.flags) && decide (x.flags≤3)):=flags_3 x.flags h0 h1
 have f4:(bits .andNot .i64 x.flags 4 == 0)=(decide (x.flags=0) || decide (x.flags=4)):=flags_1 x.flags 2 (by omega) h0 h1
 have f8:(bits .andNot .i64 x.flags 8 == 0)=(decide (x.flags=0) || decide (x.flags=8)):=flags_1 x.flags 3 (by omega) h0 h1
 rcases (by omega:x.op=0∨x.op=1∨x.op=2∨x.op=3∨x.op=4∨x.op=5∨x.op=6∨x.op=7∨x.op=8∨x.op=9∨x.op=10∨x.op=11∨x.op=12∨x.op=13∨x.op=14∨x.op=15∨x.op=16∨x.op=17∨x.op=18∨x.op=19∨x.op=20∨x.op=21∨x.op=22∨x.op=23∨x.op=24∨x.op=25∨x.op=26∨x.op=27∨x.op=29∨x.op=31∨x.op=32∨x.op=28∨x.op=30) with h | h | h | h | h | h | h | h | h | h | h | h | h | h | h | h | h | h | h | h | h | h | h | h | h | h | h | h | h | h | h | h | h
 ·refine shaped_case f x 0 0 _ _ (decide (x.flags=0)) (by unfold Ir.shapeOf Ir.classOf;rw [h];rfl) (by unfold Ref.shape;rw [h];rfl) (by decide) (by decide) (by omega) (by rw [h];exact f0) ?_
  grind [Ref.arith,Ref.arith0,Ref.plain,Ref.plain0,Ref.isWordOf,Ref.isMem]
 ·refine shaped_case f x 2 0 _ _ (decide (0≤x.flags) && decide (x.flags≤3)) (by unfold Ir.shapeOf Ir.classOf;rw [h];rfl) (by unfold Ref.shape;rw [h];rfl) (by decide) (by decide) (by omega) (by rw [h];exact f3) ?_
  grind [Ref.arith,Ref.arith0,Ref.plain,Ref.plain0,Ref.isWordOf,Ref.isMem]
 ·refine shaped_case f x 2 0 _ _ (decide (0≤x.flags) && decide (x.flags≤3)) (by unfold Ir.shapeOf Ir.classOf;rw [h];rfl) (by unfold Ref.shape;rw [h];rfl) (by decide) (by decide) (by omega) (by rw [h];exact f3) ?_
  grind [Ref.arith,Ref.arith0,Ref.plain,Ref.plain0,Ref.isWordOf,Ref.isMem]
 ·refine shaped_case f x 2 0 _ _ (decide (0≤x.flags) && decide (x.flags≤3)) (by unfold Ir.shapeOf Ir.classOf;rw [h];rfl) (by unfold Ref.shape;rw [h];rfl) (by decide) (by decide) (by omega) (by rw [h];exact f3) ?_
  grind [Ref.arith,Ref.arith0,Ref.plain,Ref.plain0,Ref.isWordOf,Ref.isMem]
 ·refine shaped_case f x 2 0 _ _ (decide (x.flags=0) || decide (x.flags=4)) (by unfold Ir.shapeOf Ir.classOf;rw [h];rfl) (by unfold Ref.shape;rw [h];rfl) (by decide) (by decide) (by omega) (by rw [h];exact f4) ?_
  grind [Ref.arith,Ref.arith0,Ref.plain,Ref.plain0,Ref.isWordOf,Ref.isMem]
 ·refine shaped_case f x 2 0 _ _ (decide (x.flags=0)) (by unfold Ir.shapeOf Ir.classOf;rw [h];rfl) (by unfold Ref.shape;rw [h];rfl) (by decide) (by decide) (by omega) (by rw [h];exact f0) ?_
  grind [Ref.arith,Ref.arith0,Ref.plain,Ref.plain0,Ref.isWordOf,Ref.isMem]
 ·refine shaped_case f x 2 0 _ _ (decide (x.flags=0) || decide (x.flags=4)) (by unfold Ir.shapeOf Ir.classOf;rw [h];rfl) (by unfold Ref.shape;rw [h];rfl) (by decide) (by decide) (by omega) (by rw [h];exact f4) ?_
  grind [Ref.arith,Ref.arith0,Ref.plain,Ref.plain0,Ref.isWordOf,Ref.isMem]
 ·refine shaped_case f x 2 0 _ _ (decide (x.flags=0)) (by unfold Ir.shapeOf Ir.classOf;rw [h];rfl) (by unfold Ref.shape;rw [h];rfl) (by decide) (by decide) (by omega) (by rw [h];exact f0) ?_
  grind [Ref.arith,Ref.arith0,Ref.plain,Ref.plain0,Ref.isWordOf,Ref.isMem]
 ·refine shaped_case f x 2 0 _ _ (decide (x.flags=0)) (by unfold Ir.shapeOf Ir.classOf;rw [h];rfl) (by unfold Ref.shape;rw [h];rfl) (by decide) (by decide) (by omega) (by rw [h];exact f0) ?_
  grind [Ref.arith,Ref.arith0,Ref.plain,Ref.plain0,Ref.isWordOf,Ref.isMem]
 ·refine shaped_case f x 2 0 _ _ (decide (x.flags=0)) (by unfold Ir.shapeOf Ir.classOf;rw [h];rfl) (by unfold Ref.shape;rw [h];rfl) (by decide) (by decide) (by omega) (by rw [h];exact f0) ?_
  grind [Ref.arith,Ref.arith0,Ref.plain,Ref.plain0,Ref.isWordOf,Ref.isMem]
 ·refine shaped_case f x 2 0 _ _ (decide (x.flags=0)) (by unfold Ir.shapeOf Ir.classOf;rw [h];rfl) (by unfold Ref.shape;rw [h];rfl) (by decide) (by decide) (by omega) (by rw [h];exact f0) ?_
  grind [Ref.arith,Ref.arith0,Ref.plain,Ref.plain0,Ref.isWordOf,Ref.isMem]
 ·refine shaped_case f x 2 0 _ _ (decide (0≤x.flags) && decide (x.flags≤3)) (by unfold Ir.shapeOf Ir.classOf;rw [h];rfl) (by unfold Ref.shape;rw [h];rfl) (by decide) (by decide) (by omega) (by rw [h];exact f3) ?_
  grind [Ref.arith,Ref.arith0,Ref.plain,Ref.plain0,Ref.isWordOf,Ref.isMem]
 ·refine shaped_case f x 2 0 _ _ (decide (x.flags=0) || decide (x.flags=4)) (by unfold Ir.shapeOf Ir.classOf;rw [h];rfl) (by unfold Ref.shape;rw [h];rfl) (by decide) (by decide) (by omega) (by rw [h];exact f4) ?_
  grind [Ref.arith,Ref.arith0,Ref.plain,Ref.plain0,Ref.isWordOf,Ref.isMem]
 ·refine shaped_case f x 2 0 _ _ (decide (x.flags=0) || decide (x.flags=4)) (by unfold Ir.shapeOf Ir.classOf;rw [h];rfl) (by unfold Ref.shape;rw [h];rfl) (by decide) (by decide) (by omega) (by rw [h];exact f4) ?_
  grind [Ref.arith,Ref.arith0,Ref.plain,Ref.plain0,Ref.isWordOf,Ref.isMem]
 ·refine shaped_case f x 2 0 _ _ (decide (x.flags=0)) (by unfold Ir.shapeOf Ir.classOf;rw [h];rfl) (by unfold Ref.shape;rw [h];rfl) (by decide) (by decide) (by omega) (by rw [h];exact f0) ?_
  grind [Ref.arith,Ref.arith0,Ref.plain,Ref.plain0,Ref.isWordOf,Ref.isMem]
 ·refine shaped_case f x 3 0 _ _ (decide (x.flags=0)) (by unfold Ir.shapeOf Ir.classOf;rw [h];rfl) (by unfold Ref.shape;rw [h];rfl) (by decide) (by decide) (by omega) (by rw [h];exact f0) ?_
  grind [Ref.arith,Ref.arith0,Ref.plain,Ref.plain0,Ref.isWordOf,Ref.isMem]
 ·refine shaped_case f x 1 0 _ _ (decide (x.flags=0)) (by unfold Ir.shapeOf Ir.classOf;rw [h];rfl) (by unfold Ref.shape;rw [h];rfl) (by decide) (by decide) (by omega) (by rw [h];exact f0) ?_
  grind [Ref.arith,Ref.arith0,Ref.plain,Ref.plain0,Ref.isWordOf,Ref.isMem]
 ·refine shaped_case f x 1 0 _ _ (decide (x.flags=0)) (by unfold Ir.shapeOf Ir.classOf;rw [h];rfl) (by unfold Ref.shape;rw [h];rfl) (by decide) (by decide) (by omega) (by rw [h];exact f0) ?_
  grind [Ref.arith,Ref.arith0,Ref.plain,Ref.plain0,Ref.isWordOf,Ref.isMem]
 ·refine shaped_case f x 1 0 _ _ (decide (x.flags=0)) (by unfold Ir.shapeOf Ir.classOf;rw [h];rfl) (by unfold Ref.shape;rw [h];rfl) (by decide) (by decide) (by omega) (by rw [h];exact f0) ?_
  grind [Ref.arith,Ref.arith0,Ref.plain,Ref.plain0,Ref.isWordOf,Ref.isMem]
 ·refine shaped_case f x 2 0 _ _ (decide (x.flags=0)) (by unfold Ir.shapeOf Ir.classOf;rw [h];rfl) (by unfold Ref.shape;rw [h];rfl) (by decide) (by decide) (by omega) (by rw [h];exact f0) ?_
  grind [Ref.arith,Ref.arith0,Ref.plain,Ref.plain0,Ref.isWordOf,Ref.isMem]
 ·refine shaped_case f x 2 0 _ _ (decide (x.flags=0)) (by unfold Ir.shapeOf Ir.classOf;rw [h];rfl) (by unfold Ref.shape;rw [h];rfl) (by decide) (by decide) (by omega) (by rw [h];exact f0) ?_
  grind [Ref.arith,Ref.arith0,Ref.plain,Ref.plain0,Ref.isWordOf,Ref.isMem]
 ·refine shaped_case f x 1 0 _ _ (decide (x.flags=0)) (by unfold Ir.shapeOf Ir.classOf;rw [h];rfl) (by unfold Ref.shape;rw [h];rfl) (by decide) (by decide) (by omega) (by rw [h];exact f0) ?_
  grind [Ref.arith,Ref.arith0,Ref.plain,Ref.plain0,Ref.isWordOf,Ref.isMem]
 ·refine shaped_case f x 0 0 _ _ (decide (x.flags=0)) (by unfold Ir.shapeOf Ir.classOf;rw [h];rfl) (by unfold Ref.shape;rw [h];rfl) (by decide) (by decide) (by omega) (by rw [h];exact f0) ?_
  grind [Ref.arith,Ref.arith0,Ref.plain,Ref.plain0,Ref.isWordOf,Ref.isMem]
 ·refine shaped_case f x 0 0 _ _ (decide (x.flags=0)) (by unfold Ir.shapeOf Ir.classOf;rw [h];rfl) (by unfold Ref.shape;rw [h];rfl) (by decide) (by decide) (by omega) (by rw [h];exact f0) ?_
  grind [Ref.arith,Ref.arith0,Ref.plain,Ref.plain0,Ref.isWordOf,Ref.isMem]
 ·refine shaped_case f x 0 0 _ _ (decide (x.flags=0)) (by unfold Ir.shapeOf Ir.classOf;rw [h];rfl) (by unfold Ref.shape;rw [h];rfl) (by decide) (by decide) (by omega) (by rw [h];exact f0) ?_
  grind [Ref.arith,Ref.arith0,Ref.plain,Ref.plain0,Ref.isWordOf,Ref.isMem]
 ·refine shaped_case f x 2 0 _ _ (decide (x.flags=0) || decide (x.flags=8)) (by unfold Ir.shapeOf Ir.classOf;rw [h];rfl) (by unfold Ref.shape;rw [h];rfl) (by decide) (by decide) (by omega) (by rw [h];exact f8) ?_
  grind [Ref.arith,Ref.arith0,Ref.plain,Ref.plain0,Ref.isWordOf,Ref.isMem]
 ·refine shaped_case f x 1 0 _ _ (decide (x.flags=0)) (by unfold Ir.shapeOf Ir.classOf;rw [h];rfl) (by unfold Ref.shape;rw [h];rfl) (by decide) (by decide) (by omega) (by rw [h];exact f0) ?_
  grind [Ref.arith,Ref.arith0,Ref.plain,Ref.plain0,Ref.isWordOf,Ref.isMem]
 ·refine shaped_case f x 2 0 _ _ (decide (x.flags=0)) (by unfold Ir.shapeOf Ir.classOf;rw [h];rfl) (by unfold Ref.shape;rw [h];rfl) (by decide) (by decide) (by omega) (by rw [h];exact f0) ?_
  grind [Ref.arith,Ref.arith0,Ref.plain,Ref.plain0,Ref.isWordOf,Ref.isMem]
 ·refine shaped_case f x 0 1 _ _ (decide (x.flags=0)) (by unfold Ir.shapeOf Ir.classOf;rw [h];rfl) (by unfold Ref.shape;rw [h];rfl) (by decide) (by decide) (by omega) (by rw [h];exact f0) ?_
  grind [Ref.arith,Ref.arith0,Ref.plain,Ref.plain0,Ref.isWordOf,Ref.isMem]
 ·have e:(if f.ret<1 then f.ret else 1)=if 0<f.ret then 1 else 0:=by split <;> split <;> omega
  refine shaped_case f x (if 0<f.ret then 1 else 0) 0 (decide (x.width=0) && decide (x.imm=0)) (decide (x.width=0) && Ref.plain x) (decide (x.flags=0)) (by rw [← e];unfold Ir.shapeOf Ir.classOf;rw [h];rfl) (by unfold Ref.shape;rw [h];rfl) (by split <;> decide) (by decide) (by omega) (by rw [h];exact f0) ?_
  simp [Ref.plain,Ref.plain0];grind
 ·refine shaped_case f x 0 0 _ _ (decide (x.flags=0)) (by unfold Ir.shapeOf Ir.classOf;rw [h];rfl) (by unfold Ref.shape;rw [h];rfl) (by decide) (by decide) (by omega) (by rw [h];exact f0) ?_
  grind [Ref.arith,Ref.arith0,Ref.plain,Ref.plain0,Ref.isWordOf,Ref.isMem]
 ·unfold Ir.isShaped Ref.argument
  have hi:Ir.shapeOf f x=((x.to.length:Int),(x.to.length:Int),(Ref.isWidth x.width || decide (x.width=33)) && decide (x.imm=0) && decide (0<x.to.length)):=by unfold Ir.shapeOf Ir.classOf;rw [h];rfl
  have hs:Ref.shape f x=(-1,-1,(Ref.isWidth x.width || decide (x.width=33)) && Ref.plain x && decide (0<x.args.length)):=by unfold Ref.shape;rw [h];rfl
  have hm:(bits .andNot .i64 x.flags (Ir.flagsOf x.op) == 0)=decide (x.flags=0):=by rw [h];exact f0
  rw [hi,hs,hm,to_all]
  generalize (x.to.all fun z=>decide (0≤z) && decide (z<(f.blocks.length:Int)))=T
  unfold Ref.counts
  rw [Bool.eq_iff_iff]
  simp [h,Ref.plain,Ref.plain0]
  grind
 ·unfold Ir.isShaped Ref.argument
  have hi:Ir.shapeOf f x=(1,2,decide (x.width=0) && decide (x.imm=0) && (decide (x.to.length≠2) || decide (x.to.getD 0 0≠x.to.getD 1 0))):=by unfold Ir.shapeOf Ir.classOf;rw [h];rfl
  have hs:Ref.shape f x=(1,2,decide (x.width=0) && Ref.plain x):=by unfold Ref.shape;rw [h];rfl
  have hm:(bits .andNot .i64 x.flags (Ir.flagsOf x.op) == 0)=decide (x.flags=0):=by rw [h];exact f0
  rw [hi,hs,hm,to_all,counts_eq _ _ _ _ (by decide) (by decide)]
  generalize (x.to.all fun z=>decide (0≤z) && decide (z<(f.blocks.length:Int)))=T
  generalize x.to.getD 0 0=a
  generalize x.to.getD 1 0=b
  rw [Bool.eq_iff_iff]
  simp [h,Ref.plain,Ref.plain0]
  grind
end Go.Proofs.YthfhamagopbgcaaGreat

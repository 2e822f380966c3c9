/- Parts. -/
import Derived.Test.YthfjdhanbegaoaaGreatDoorT06
import Derived.Test.YthfjdhanbegaoaaGreatDoorT07
import Derived.Test.YthfjdhanbegaoaaGreatDoorT08
import Derived.Deep.QuietTactic
set_option linter.unusedSimpArgs false
set_option linter.unusedVariables false
set_option maxRecDepth 100000
set_option maxHeartbeats 16000000
open Go.Proofs.Tryz
namespace Go.Proofs.YthfjdhanbegaoaaGreatDoor
open Go.RowKit
theorem fq (n:Int):0<=Ir.classOf n/\Ir.classOf n<=18:=by
 unfold Ir.classOf
 repeat' split
 all_goals omega
theorem jO (f:Fn)(x:Ins)(vp vb:Value)(As Aa At:Option Addr)(cs ca ct:Nat)(w:World)(hb:0<=x.imm/\x.imm<4294967296/\f.slots.length<=17592186044416/\x.to.length<=17592186044416)(hvt:IntsAt w.heap.size w (.slice At x.to.length ct) x.to) :
  Calls prog 82 #[.agg #[vp,.int .i64 f.ret,.slice As f.slots.length cs,vb],.agg #[.int .i64 x.op,.int .i64 x.width,.int .i64 x.flags,.slice Aa x.args.length ca,.int .u32 x.imm,.slice At x.to.length ct]] w fun e w' =>
   e=.returned (.tuple #[.agg #[.int .i64 (Ir.shapeOf f x).1,.int .i64 (Ir.shapeOf f x).2.1],.bool (Ir.shapeOf f x).2.2])/\Gr w w':=by
 have d:=fq x.op;rcases (by omega:Ir.classOf x.op=0\/Ir.classOf x.op=1\/Ir.classOf x.op=2\/Ir.classOf x.op=3\/Ir.classOf x.op=4\/Ir.classOf x.op=5\/Ir.classOf x.op=6\/Ir.classOf x.op=7\/Ir.classOf x.op=8\/Ir.classOf x.op=9\/Ir.classOf x.op=10\/Ir.classOf x.op=11\/Ir.classOf x.op=12\/Ir.classOf x.op=13\/Ir.classOf x.op=14\/Ir.classOf x.op=15\/Ir.classOf x.op=16\/Ir.classOf x.op=17\/Ir.classOf x.op=18) with h|h|h|h|h|h|h|h|h|h|h|h|h|h|h|h|h|h|h
 ·exact mp f x vp vb As Aa At cs ca ct w hb h
 ·exact mq f x vp vb As Aa At cs ca ct w hb h
 ·exact mr f x vp vb As Aa At cs ca ct w hb h
 ·exact ms f x vp vb As Aa At cs ca ct w hb h
 ·exact mt f x vp vb As Aa At cs ca ct w hb h
 ·exact mu f x vp vb As Aa At cs ca ct w hb h
 ·exact mw f x vp vb As Aa At cs ca ct w hb h
 ·exact mx f x vp vb As Aa At cs ca ct w hb h
 ·exact my f x vp vb As Aa At cs ca ct w hb h
 ·exact mz f x vp vb As Aa At cs ca ct w hb h
 ·exact kJ f x vp vb As Aa At cs ca ct w hb h
 ·exact kK f x vp vb As Aa At cs ca ct w hb h
 ·exact kL f x vp vb As Aa At cs ca ct w hb h
 ·exact kM f x vp vb As Aa At cs ca ct w hb h
 ·exact kN f x vp vb As Aa At cs ca ct w hb h
 ·exact kO f x vp vb As Aa At cs ca ct w hb h
 ·exact kP f x vp vb As Aa At cs ca ct w hb hvt h
 ·exact kQ f x vp vb As Aa At cs ca ct w hb h
 ·exact kR f x vp vb As Aa At cs ca ct w hb h
theorem io (n:Int)(B:Nat)(A:Option Addr)(len c:Nat)(w:World)(hc:w.cell? ⟨B,3,none⟩=some (.slice A len c)) :
  Calls prog 84 #[.int .i64 n,.pointer (some ⟨B,0,none⟩)] w (RS (.bool (Ir.outside len n)) w):=by
 go_enter func84, ntmps84
 go_wp2;all_goals go_ret
 all_goals exact⟨dc (by unfold Ir.outside;grind),rfl⟩
def Ir.isShaped (f:Fn)(x:Ins):Bool :=
 (Ir.shapeOf f x).2.2 && ((x.args.length:Int) == (Ir.shapeOf f x).1) && ((x.to.length:Int) == (Ir.shapeOf f x).2.1) && (bits .andNot .i64 x.flags (Ir.flagsOf x.op) == 0) && !x.to.any (Ir.outside f.blocks.length)
theorem iR (f:Fn)(x:Ins)(vp:Value)(As Aa At Ab:Option Addr)(cs ca ct cb:Nat)(w:World)(hb:0<=x.imm/\x.imm<4294967296/\f.slots.length<=17592186044416/\x.to.length<=17592186044416)(hvt:IntsAt w.heap.size w (.slice At x.to.length ct) x.to) :
  Calls prog 51 #[.agg #[vp,.int .i64 f.ret,.slice As f.slots.length cs,.slice Ab f.blocks.length cb],.agg #[.int .i64 x.op,.int .i64 x.width,.int .i64 x.flags,.slice Aa x.args.length ca,.int .u32 x.imm,.slice At x.to.length ct]] w fun e w' =>
   e=.returned (.bool (Ir.isShaped f x))/\Gr w w':=by
 have q:Hid (∀d,Gr w d->Calls prog 82 #[.agg #[vp,.int .i64 f.ret,.slice As f.slots.length cs,.slice Ab f.blocks.length cb],.agg #[.int .i64 x.op,.int .i64 x.width,.int .i64 x.flags,.slice Aa x.args.length ca,.int .u32 x.imm,.slice At x.to.length ct]] d fun e w' =>
     e=.returned (.tuple #[.agg #[.int .i64 (Ir.shapeOf f x).1,.int .i64 (Ir.shapeOf f x).2.1],.bool (Ir.shapeOf f x).2.2])/\Gr d w') :=
  fun d g1=>jO f x vp _ As Aa At cs ca ct d hb (hvt.gr g1)
 have r:Hid (∀d,Calls prog 83 #[.int .i64 x.op] d (RS (.int .i64 (Ir.flagsOf x.op)) d)):=fun d=>jo x.op d
 have C:Hid (∀d,Gr w d->(∀W,Gr d W->W.cell? ⟨w.heap.size,3,none⟩=some (.slice Ab f.blocks.length cb))->Calls prog 77 #[.slice At x.to.length ct,.func (.func 84) #[] #[.pointer (some ⟨w.heap.size,0,none⟩)]] d fun e w' =>
     e=.returned (.bool (x.to.any (Ir.outside f.blocks.length)))/\Gr d w'):=by
  intro d g1 H;refine dx _ _ (enters_of func84 (by kernel_rfl) rfl) _ _ _ _ (hvt.gr g1) ?_;intro z _ W g2;exact(io z w.heap.size Ab f.blocks.length cb W (H W g2)).mono fun _ _ h=>⟨h.1,h.2 ▸ qj _⟩
 have t:Hid (Ir.isShaped f x=((Ir.shapeOf f x).2.2 && ((x.args.length:Int) == (Ir.shapeOf f x).1) && ((x.to.length:Int) == (Ir.shapeOf f x).2.1) && (bits .andNot .i64 x.flags (Ir.flagsOf x.op) == 0) && !x.to.any (Ir.outside f.blocks.length))):=by show _=_;rfl
 obtain⟨s,J⟩:=xJ (Ir.shapeOf f x);obtain⟨m,I⟩:=xJ (Ir.flagsOf x.op);rw[J,I]at t;rw[J]at q;rw[I]at r;obtain⟨s1,s2,X⟩:=s;dsimp only at t q;clear J I hvt;obtain⟨W,u⟩:=xJ ((w.alloc (.cells #[vp,.int .i64 f.ret,.slice As f.slots.length cs,.slice Ab f.blocks.length cb] 25)).alloc (.cells #[.int .i64 x.op,.int .i64 x.width,.int .i64 x.flags,.slice Aa x.args.length ca,.int .u32 x.imm,.slice At x.to.length ct] 50));have j:Gr w W:=by rw[<-u];exact((qj w).alloc _).alloc _
 have R:W.heap.size=w.heap.size+2:=by rw[<-u];simp
 have O:Hid (∀w',Gr W w'->w'.cell? ⟨w.heap.size,3,none⟩=some (.slice Ab f.blocks.length cb)):=by intro w' g;refine(g.cell w.heap.size 3 (by omega)).trans ?_;rw[<-u];exact(((qj _).alloc _).cell w.heap.size 3 (by simp)).trans (px _ _ _ _ _ _ (heap_alloc_new w _))
 have l:Hid (∀w' o,Gr W w'->w'.cell? ⟨w.heap.size+1,o,none⟩=(#[.int .i64 x.op,.int .i64 x.width,.int .i64 x.flags,.slice Aa x.args.length ca,.int .u32 x.imm,.slice At x.to.length ct]:Array Value)[o]?):=by intro w' o g;refine(g.cell (w.heap.size+1) o (by omega)).trans ?_;rw[<-u];exact px _ _ _ _ _ _ (heap_alloc2_new w _ _)
 have Y:=O.out W (qj _);have Z:W.cell? ⟨w.heap.size+1,0,none⟩=some (.int .i64 x.op):=l.out W 0 (qj _);have d1:W.cell? ⟨w.heap.size+1,1,none⟩=some (.int .i64 x.width):=l.out W 1 (qj _);have d2:W.cell? ⟨w.heap.size+1,2,none⟩=some (.int .i64 x.flags):=l.out W 2 (qj _);have d3:W.cell? ⟨w.heap.size+1,3,none⟩=some (.slice Aa x.args.length ca):=l.out W 3 (qj _);have d4:W.cell? ⟨w.heap.size+1,4,none⟩=some (.int .u32 x.imm):=l.out W 4 (qj _);have d5:W.cell? ⟨w.heap.size+1,5,none⟩=some (.slice At x.to.length ct):=l.out W 5 (qj _)
 have e0:W.cell? ⟨w.heap.size,0,none⟩=some vp:=by rw[<-u];exact(((qj _).alloc _).cell w.heap.size 0 (by simp)).trans (px _ _ _ _ _ _ (heap_alloc_new w _))
 have e1:W.cell? ⟨w.heap.size,1,none⟩=some (.int .i64 f.ret):=by rw[<-u];exact(((qj _).alloc _).cell w.heap.size 1 (by simp)).trans (px _ _ _ _ _ _ (heap_alloc_new w _))
 have e2:W.cell? ⟨w.heap.size,2,none⟩=some (.slice As f.slots.length cs):=by rw[<-u];exact(((qj _).alloc _).cell w.heap.size 2 (by simp)).trans (px _ _ _ _ _ _ (heap_alloc_new w _))
 obtain⟨E,y⟩:∃E,((x.args.length:Int) == s1)=E:=⟨_,rfl⟩;obtain⟨F,A⟩:∃F,((x.to.length:Int) == s2)=F:=⟨_,rfl⟩;obtain⟨G,B⟩:∃G,(bits .andNot .i64 x.flags m == 0)=G:=⟨_,rfl⟩;have T:((x.args.length:Int) != s1)=!E:=by rw[bne,y]
 have U:((x.to.length:Int) != s2)=!F:=by rw[bne,A]
 have V:(bits .andNot .i64 x.flags m != 0)=!G:=by rw[bne,B]
 rw[y,A,B]at t;clear y A B
 cases X with
 | false =>
  have p:Hid (Ir.isShaped f x=false):=by show _=_;rw[t.out];simp
  go_enter func51, ntmps51
  go_wp2_with (go_at_call 82;refine(q.out _ j).mono ?_;rintro e d ⟨rfl,g1⟩);go_quiet (fail);go_wp2;go_ret;exact⟨dc (by rw[p.out]),((j.trans g1).alloc _).drewN _⟩
 | true =>
  cases E with
  | false =>
   have p:Hid (Ir.isShaped f x=false):=by show _=_;rw[t.out];simp
   go_enter func51, ntmps51
   go_wp2_with (go_at_call 82;refine(q.out _ j).mono ?_;rintro e d ⟨rfl,g1⟩;have K:∀o,(d.alloc o).cell? ⟨w.heap.size+1,0,none⟩=some (.int .i64 x.op):=fun o=>l.out _ 0 (g1.alloc o);have L:∀o,(d.alloc o).cell? ⟨w.heap.size+1,2,none⟩=some (.int .i64 x.flags):=fun o=>l.out _ 2 (g1.alloc o);have M:∀o,(d.alloc o).cell? ⟨w.heap.size+1,3,none⟩=some (.slice Aa x.args.length ca):=fun o=>l.out _ 3 (g1.alloc o);have N:∀o,(d.alloc o).cell? ⟨w.heap.size+1,5,none⟩=some (.slice At x.to.length ct):=fun o=>l.out _ 5 (g1.alloc o));go_quiet (first|fail|(go_at_call 83;exact dn (r.out _)));go_wp2;go_ret;exact⟨dc (by rw[p.out]),((j.trans g1).alloc _).drewN _⟩
  | true =>
   cases F with
   | false =>
    have p:Hid (Ir.isShaped f x=false):=by show _=_;rw[t.out];simp
    go_enter func51, ntmps51
    go_wp2_with (go_at_call 82;refine(q.out _ j).mono ?_;rintro e d ⟨rfl,g1⟩;have K:∀o,(d.alloc o).cell? ⟨w.heap.size+1,0,none⟩=some (.int .i64 x.op):=fun o=>l.out _ 0 (g1.alloc o);have L:∀o,(d.alloc o).cell? ⟨w.heap.size+1,2,none⟩=some (.int .i64 x.flags):=fun o=>l.out _ 2 (g1.alloc o);have M:∀o,(d.alloc o).cell? ⟨w.heap.size+1,3,none⟩=some (.slice Aa x.args.length ca):=fun o=>l.out _ 3 (g1.alloc o);have N:∀o,(d.alloc o).cell? ⟨w.heap.size+1,5,none⟩=some (.slice At x.to.length ct):=fun o=>l.out _ 5 (g1.alloc o));go_quiet (first|fail|(go_at_call 83;exact dn (r.out _)));go_wp2;go_ret;exact⟨dc (by rw[p.out]),((j.trans g1).alloc _).drewN _⟩
   | true =>
    cases G with
    | false =>
     have p:Hid (Ir.isShaped f x=false):=by show _=_;rw[t.out];simp
     go_enter func51, ntmps51
     go_wp2_with (go_at_call 82;refine(q.out _ j).mono ?_;rintro e d ⟨rfl,g1⟩;have K:∀o,(d.alloc o).cell? ⟨w.heap.size+1,0,none⟩=some (.int .i64 x.op):=fun o=>l.out _ 0 (g1.alloc o);have L:∀o,(d.alloc o).cell? ⟨w.heap.size+1,2,none⟩=some (.int .i64 x.flags):=fun o=>l.out _ 2 (g1.alloc o);have M:∀o,(d.alloc o).cell? ⟨w.heap.size+1,3,none⟩=some (.slice Aa x.args.length ca):=fun o=>l.out _ 3 (g1.alloc o);have N:∀o,(d.alloc o).cell? ⟨w.heap.size+1,5,none⟩=some (.slice At x.to.length ct):=fun o=>l.out _ 5 (g1.alloc o));go_quiet (first|fail|(go_at_call 83;exact dn (r.out _)));go_wp2;go_ret;exact⟨dc (by rw[p.out]),((j.trans g1).alloc _).drewN _⟩
    | true =>
     have p:Hid (Ir.isShaped f x=!x.to.any (Ir.outside f.blocks.length)):=by show _=_;rw[t.out];simp
     obtain⟨q4,D⟩:=xJ (x.to.any (Ir.outside f.blocks.length));rw[D]at p C;clear D
     go_enter func51, ntmps51
     go_wp2_with (go_at_call 82;refine(q.out _ j).mono ?_;rintro e d ⟨rfl,g1⟩;have K:∀o,(d.alloc o).cell? ⟨w.heap.size+1,0,none⟩=some (.int .i64 x.op):=fun o=>l.out _ 0 (g1.alloc o);have L:∀o,(d.alloc o).cell? ⟨w.heap.size+1,2,none⟩=some (.int .i64 x.flags):=fun o=>l.out _ 2 (g1.alloc o);have M:∀o,(d.alloc o).cell? ⟨w.heap.size+1,3,none⟩=some (.slice Aa x.args.length ca):=fun o=>l.out _ 3 (g1.alloc o);have N:∀o,(d.alloc o).cell? ⟨w.heap.size+1,5,none⟩=some (.slice At x.to.length ct):=fun o=>l.out _ 5 (g1.alloc o));go_quiet (first|fail|(go_at_call 83;exact dn (r.out _)));go_wp2_with (go_at_call 77;refine(C.out _ (((j.trans g1).alloc _).drewN _) (fun Q g2=>O.out Q (((g1.alloc _).drewN _).trans g2))).mono ?_;rintro e w3 ⟨rfl,g3⟩);go_ret;exact⟨dc (by rw[p.out]),(((j.trans g1).alloc _).drewN _).trans g3⟩
theorem mN (n:Nat)(h:n<18446744073709551616):(IntKind.i64.wrap (n:Int) == 0)=(n == 0):=by
 have e:IntKind.i64.wrap (n:Int)=0↔n=0:=by
  unfold IntKind.wrap;simp only[IntKind.signed,IntKind.bits];constructor
  ·intro q;split at q<;>omega
  ·rintro rfl;decide
 by_cases q:n=0
 ·rw[beq_iff_eq.2 q,beq_iff_eq.2 (e.2 q)]
 ·rw[beq_eq_false_iff_ne.2 q,beq_eq_false_iff_ne.2 (fun c=>q (e.1 c))]
theorem iU (m i:Nat)(hi:i<64):(BitVec.ofNat 64 m)[i]=m.testBit i:=by rw[<-BitVec.getLsbD_eq_getElem,BitVec.getLsbD_ofNat];simp[hi]
theorem ga (z:Int)(m:Nat):(bits .andNot .i64 z m == 0)=true↔∀i,i<64->(BitVec.ofInt 64 z).getLsbD i=true->m.testBit i=true:=by
 unfold bits;rw[mN _ (BitVec.isLt _),beq_iff_eq];constructor
 ·intro h i d g;have h0:(BitVec.ofInt 64 z &&& ~~~BitVec.ofInt 64 (m:Int))=0#64:=BitVec.eq_of_toNat_eq h;have:=congrArg (fun b=>b.getLsbD i) h0;simp[g,d]at this
  rwa [iU m i d]at this
 ·intro h
  have h0:(BitVec.ofInt 64 z &&& ~~~BitVec.ofInt 64 (m:Int))=0#64:=by apply BitVec.eq_of_getLsbD_eq;intro i d;simp[d];intro g;rw[iU m i d];exact h i d (by simpa[d] using g)
  exact congrArg BitVec.toNat h0
theorem ge (z:Int)(n:Nat)(h0:-9223372036854775808<=z)(h1:z<=9223372036854775807)(hz:∀i,i<64->(BitVec.ofInt 64 z).getLsbD i=true->i<n)(hn:n<=62):0<=z/\z<2 ^ n:=by
 have d:(BitVec.ofInt 64 z).toNat<2 ^ n:=by
  apply Nat.lt_pow_two_of_testBit;intro i q;by_cases l:i<64
  ·cases hb:(BitVec.ofInt 64 z).toNat.testBit i with
   | false=>rfl
   | true=>have:=hz i l hb;omega
  ·exact Nat.testBit_lt_two_pow (Nat.lt_of_lt_of_le (BitVec.isLt _) (Nat.pow_le_pow_right (by omega) (by omega)))
 have p:(2:Nat) ^ n<=2 ^ 62:=Nat.pow_le_pow_right (by omega) hn;rw[BitVec.toNat_ofInt]at d;have g:(2:Nat) ^ 62=4611686018427387904:=by decide
 have j:((2 ^ 64:Nat):Int)=18446744073709551616:=by decide
 rw[j]at d;rw[g]at p;have m:((2:Int) ^ n)=((2 ^ n:Nat):Int):=by simp
 rw[m];omega
theorem nR (z:Int)(h0:-9223372036854775808<=z)(h1:z<=9223372036854775807):(bits .andNot .i64 z (3:Nat) == 0)=(decide (0<=z) && decide (z<=3)):=by
 rw[Bool.eq_iff_iff,ga];simp only[pD,decide_eq_true_eq];constructor
 ·intro h
  have:=ge z 2 h0 h1 (fun i g d=>by
    have:=h i g d
    rcases (by omega:i=0\/i=1\/2<=i) with rfl|rfl|q
    · omega
    · omega
    · rw[Nat.testBit_lt_two_pow (Nat.lt_of_lt_of_le (by decide:3<2 ^ 2) (Nat.pow_le_pow_right (by omega) q))]at this;cases this) (by omega)
  omega
 ·rintro⟨j,l⟩ i g d;rcases (by omega:z=0\/z=1\/z=2\/z=3) with rfl|rfl|rfl|rfl
  all_goals
   rcases (by omega:i=0\/i=1\/2<=i) with rfl|rfl|q
   ·first|decide|(simp at d)
   ·first|decide|(simp at d)
   ·exfalso;simp only[BitVec.ofInt_ofNat]at d;rw[BitVec.getLsbD_ofNat,Nat.testBit_lt_two_pow (Nat.lt_of_lt_of_le (by decide:_<2 ^ 2) (Nat.pow_le_pow_right (by omega) q))]at d;simp at d
theorem lB (z:Int)(k:Nat)(hk:k<62)(h0:-9223372036854775808<=z)(h1:z<=9223372036854775807):(bits .andNot .i64 z ((2 ^ k:Nat):Int) == 0)=(decide (z=0) || decide (z=2 ^ k)):=by
 rw[Bool.eq_iff_iff,ga];simp only[Bool.or_eq_true,decide_eq_true_eq,Nat.testBit_two_pow];constructor
 ·intro h;have g:=ge z (k+1) h0 h1 (fun i j g=>by have:=h i j g;omega) (by omega);obtain⟨n,rfl⟩:=pg g.1;have e:(BitVec.ofInt 64 (n:Int))=BitVec.ofNat 64 n:=BitVec.ofInt_natCast 64 n;simp only[e,BitVec.getLsbD_ofNat,pD,decide_eq_true_eq]at h
  have l:n=0\/n=2 ^ k:=by
   cases hq:n.testBit k with
   | true =>
    right;apply Nat.eq_of_testBit_eq;intro i;rw[Nat.testBit_two_pow];by_cases j:k=i
    ·subst j;simp[hq]
    ·simp only[j,decide_false]
     cases hz:n.testBit i with
     | false=>rfl
     | true =>
      by_cases d:i<64
      ·exact absurd (h i d ⟨d,hz⟩) j
      ·rw[Nat.testBit_lt_two_pow (Nat.lt_of_lt_of_le (by omega:n<2 ^ 63) (Nat.pow_le_pow_right (by omega) (by omega)))]at hz;cases hz
   | false =>
    left;apply Nat.eq_of_testBit_eq;intro i;rw[Nat.zero_testBit]
    cases hz:n.testBit i with
    | false=>rfl
    | true =>
     by_cases d:i<64
     ·have:=h i d ⟨d,hz⟩;subst this;rw[hz]at hq;cases hq
     ·rw[Nat.testBit_lt_two_pow (Nat.lt_of_lt_of_le (by omega:n<2 ^ 63) (Nat.pow_le_pow_right (by omega) (by omega)))]at hz;cases hz
  rcases l with rfl|rfl
  ·left;rfl
  ·right;simp
 ·rintro (rfl|rfl) i j g
  ·simp at g
  ·have e:(BitVec.ofInt 64 ((2:Int) ^ k))=BitVec.ofNat 64 (2 ^ k):=by
    rw[<-BitVec.ofInt_natCast 64 (2 ^ k)];simp
   rw[e,BitVec.getLsbD_ofNat,Nat.testBit_two_pow]at g;simp at g;exact g.2
theorem nQ (z:Int)(h0:-9223372036854775808<=z)(h1:z<=9223372036854775807):(bits .andNot .i64 z 0 == 0)=decide (z=0):=by
 rw[Bool.eq_iff_iff];have h:=ga z 0;rw[show ((0:Nat):Int)=0 from rfl]at h;rw[h];simp only[Nat.zero_testBit,decide_eq_true_eq];constructor
 ·intro q;have:=ge z 0 h0 h1 (fun i g d=>by cases q i g d) (by omega);simp at this;omega
 ·rintro rfl i g d;simp at d
theorem mG (l:List Int)(n:Nat):(!l.any (Ir.outside n))=l.all (fun z=>decide (0<=z) && decide (z<(n:Int))):=by
 induction l with
 | nil=>rfl
 | cons a r ih =>
  rw[List.any_cons,List.all_cons,Bool.not_or,ih];congr 1;unfold Ir.outside;grind
theorem lu (op:Int)(h:op<0\/32<op):Ir.classOf op=0:=by
 unfold Ir.classOf
 simp only[show ¬op=0 by omega,show ¬op=14 by omega,show ¬op=15 by omega,show ¬(op=16\/op=17) by omega,show ¬op=18 by omega,show ¬(op=19\/op=20) by omega,show ¬op=21 by omega,show ¬(op=22\/op=23) by omega,show ¬op=24 by omega,show ¬op=25 by omega,show ¬op=26 by omega,
   show ¬op=27 by omega,show ¬op=28 by omega,show ¬op=29 by omega,show ¬op=30 by omega,show ¬op=31 by omega,show ¬op=32 by omega,show ¬(1<=op/\op<=13) by omega,if_false]
theorem jP (f:Fn)(x:Ins)(h:x.op<0\/32<x.op):(Ir.shapeOf f x).2.2=false:=by unfold Ir.shapeOf;rw[lu x.op h];rfl
theorem iJ (a t:Int)(ok:Bool)(x:Ins)(ha:0<=a)(ht:0<=t):Ref.counts (a,t,ok) x=(((x.args.length:Int) == a) && ((x.to.length:Int) == t)):=by unfold Ref.counts;rw[Bool.eq_iff_iff];simp;omega
theorem dX (f:Fn)(x:Ins)(a t:Int)(p q m:Bool)(hi:Ir.shapeOf f x=(a,t,p))(hr:Ref.shape f x=(a,t,q))(ha:0<=a)(ht:0<=t)(h30:x.op≠30)(hm:(bits .andNot .i64 x.flags (Ir.flagsOf x.op) == 0)=m)(hpq:(p && m)=q) :
  Ir.isShaped f x=Ref.argument f x:=by
 unfold Ir.isShaped Ref.argument;rw[hi,hr,hm,iJ _ _ _ _ ha ht,mG,<-hpq];simp only[h30,ne_eq,not_false_eq_true,decide_true,Bool.true_or,Bool.and_true];generalize (x.to.all fun z=>decide (0<=z) && decide (z<(f.blocks.length:Int)))=T;cases p<;>cases m<;>simp
theorem jx (f:Fn)(x:Ins)(hr:0<=f.ret)(h0:-9223372036854775808<=x.flags)(h1:x.flags<=9223372036854775807):Ir.isShaped f x=Ref.argument f x:=by
 by_cases r:x.op<0\/32<x.op
 ·unfold Ir.isShaped Ref.argument;rw[jP f x r,gC f x r];rfl
 have d:=nQ x.flags h0 h1;have g:(bits .andNot .i64 x.flags 3 == 0)=(decide (0<=x.flags) && decide (x.flags<=3)):=nR x.flags h0 h1;have j:(bits .andNot .i64 x.flags 4 == 0)=(decide (x.flags=0) || decide (x.flags=4)):=lB x.flags 2 (by omega) h0 h1;have l:(bits .andNot .i64 x.flags 8 == 0)=(decide (x.flags=0) || decide (x.flags=8)):=lB x.flags 3 (by omega) h0 h1;rcases (by omega:(x.op=0\/x.op=22\/x.op=23\/x.op=24\/x.op=32)\/(x.op=1\/x.op=2\/x.op=3\/x.op=4\/x.op=5\/x.op=6\/x.op=7\/x.op=8\/x.op=9\/x.op=10\/x.op=11\/x.op=12\/x.op=13\/x.op=14\/x.op=19\/x.op=20\/x.op=25\/x.op=27)\/(x.op=15)\/(x.op=16\/x.op=17\/x.op=18\/x.op=21\/x.op=26)\/(x.op=29)\/x.op=31\/x.op=28\/x.op=30) with h|h|h|h|h|h|h|h
 ·rcases h with h|h|h|h|h;all_goals refine dX f x 0 0 _ _ _ (by unfold Ir.shapeOf Ir.classOf;rw[h];rfl) (by unfold Ref.shape;rw[h];rfl) (by decide) (by decide) (by omega) ((congrArg (fun o=>bits .andNot .i64 x.flags (Ir.flagsOf o) == 0) h).trans (by first|exact d|exact g|exact j|exact l)) ?_
  all_goals grind [Ref.arith,Ref.arith0,Ref.plain,Ref.plain0,Ref.isWordOf,Ref.isMem]
 ·rcases h with h|h|h|h|h|h|h|h|h|h|h|h|h|h|h|h|h|h;all_goals refine dX f x 2 0 _ _ _ (by unfold Ir.shapeOf Ir.classOf;rw[h];rfl) (by unfold Ref.shape;rw[h];rfl) (by decide) (by decide) (by omega) ((congrArg (fun o=>bits .andNot .i64 x.flags (Ir.flagsOf o) == 0) h).trans (by first|exact d|exact g|exact j|exact l)) ?_
  all_goals grind [Ref.arith,Ref.arith0,Ref.plain,Ref.plain0,Ref.isWordOf,Ref.isMem]
 ·all_goals refine dX f x 3 0 _ _ _ (by unfold Ir.shapeOf Ir.classOf;rw[h];rfl) (by unfold Ref.shape;rw[h];rfl) (by decide) (by decide) (by omega) ((congrArg (fun o=>bits .andNot .i64 x.flags (Ir.flagsOf o) == 0) h).trans (by first|exact d|exact g|exact j|exact l)) ?_
  all_goals grind [Ref.arith,Ref.arith0,Ref.plain,Ref.plain0,Ref.isWordOf,Ref.isMem]
 ·rcases h with h|h|h|h|h;all_goals refine dX f x 1 0 _ _ _ (by unfold Ir.shapeOf Ir.classOf;rw[h];rfl) (by unfold Ref.shape;rw[h];rfl) (by decide) (by decide) (by omega) ((congrArg (fun o=>bits .andNot .i64 x.flags (Ir.flagsOf o) == 0) h).trans (by first|exact d|exact g|exact j|exact l)) ?_
  all_goals grind [Ref.arith,Ref.arith0,Ref.plain,Ref.plain0,Ref.isWordOf,Ref.isMem]
 ·all_goals refine dX f x 0 1 _ _ _ (by unfold Ir.shapeOf Ir.classOf;rw[h];rfl) (by unfold Ref.shape;rw[h];rfl) (by decide) (by decide) (by omega) ((congrArg (fun o=>bits .andNot .i64 x.flags (Ir.flagsOf o) == 0) h).trans (by first|exact d|exact g|exact j|exact l)) ?_
  all_goals grind [Ref.arith,Ref.arith0,Ref.plain,Ref.plain0,Ref.isWordOf,Ref.isMem]
 ·have e:(if f.ret<1 then f.ret else 1)=if 0<f.ret then 1 else 0:=by split<;>split<;>omega
  refine dX f x (if 0<f.ret then 1 else 0) 0 (decide (x.width=0) && decide (x.imm=0)) (decide (x.width=0) && Ref.plain x) (decide (x.flags=0)) (by rw[<-e];unfold Ir.shapeOf Ir.classOf;rw[h];rfl) (by unfold Ref.shape;rw[h];rfl) (by split<;>decide) (by decide) (by omega) (by rw[h];exact d) ?_;simp[Ref.plain,Ref.plain0];grind
 ·unfold Ir.isShaped Ref.argument;have m:Ir.shapeOf f x=((x.to.length:Int),(x.to.length:Int),(Ref.isWidth x.width || decide (x.width=33)) && decide (x.imm=0) && decide (0<x.to.length)):=by unfold Ir.shapeOf Ir.classOf;rw[h];rfl
  have q:Ref.shape f x=(-1,-1,(Ref.isWidth x.width || decide (x.width=33)) && Ref.plain x && decide (0<x.args.length)):=by unfold Ref.shape;rw[h];rfl
  have p:(bits .andNot .i64 x.flags (Ir.flagsOf x.op) == 0)=decide (x.flags=0):=by rw[h];exact d
  rw[m,q,p,mG];generalize (x.to.all fun z=>decide (0<=z) && decide (z<(f.blocks.length:Int)))=T;unfold Ref.counts;rw[Bool.eq_iff_iff];simp[h,Ref.plain,Ref.plain0];grind
 ·unfold Ir.isShaped Ref.argument;have m:Ir.shapeOf f x=(1,2,decide (x.width=0) && decide (x.imm=0) && (decide (x.to.length≠2) || decide (x.to.getD 0 0≠x.to.getD 1 0))):=by unfold Ir.shapeOf Ir.classOf;rw[h];rfl
  have q:Ref.shape f x=(1,2,decide (x.width=0) && Ref.plain x):=by unfold Ref.shape;rw[h];rfl
  have p:(bits .andNot .i64 x.flags (Ir.flagsOf x.op) == 0)=decide (x.flags=0):=by rw[h];exact d
  rw[m,q,p,mG,iJ _ _ _ _ (by decide) (by decide)];generalize (x.to.all fun z=>decide (0<=z) && decide (z<(f.blocks.length:Int)))=T;generalize x.to.getD 0 0=a;generalize x.to.getD 1 0=b;rw[Bool.eq_iff_iff];simp[h,Ref.plain,Ref.plain0];grind

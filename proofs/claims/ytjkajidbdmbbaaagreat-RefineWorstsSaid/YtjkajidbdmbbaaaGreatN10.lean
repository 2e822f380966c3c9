import Derived.Test.YtjkajidbdmbbaaaGreatN07
import Derived.Test.YtjkajidbdmbbaaaGreatN08
import Derived.Test.YtjkajidbdmbbaaaGreatN09
import Derived.Deep.QuietTactic
set_option linter.unusedSimpArgs false
set_option linter.unusedVariables false
set_option maxRecDepth 100000
set_option maxHeartbeats 16000000
open Go.Proofs.Tryz
namespace Go.Proofs.YtjkajidbdmbbaaaGreat
open Ref Rn Wd Ir Rf
open Go.RowKit
theorem gy (n:Int):0<=ir n/\ir n<=18:=by
 unfold ir
 repeat' split
 all_goals omega
theorem ny (f:Fn)(x:Ins)(vp vb:Value)(As Aa At:Option Addr)(cs ca ct:Nat)(w:World)(hb:0<=x.i/\x.i<4294967296/\f.s.length<=17592186044416/\x.to.length<=17592186044416)(hvt:IntsAt w.heap.size w (.slice At x.to.length ct) x.to) :
  Calls prog 93 #[.agg #[vp,.int .i64 f.ret,.slice As f.s.length cs,vb],.agg #[.int .i64 x.op,.int .i64 x.w,.int .i64 x.g,.slice Aa x.args.length ca,.int .u32 x.i,.slice At x.to.length ct]] w fun e w' =>
   e=.returned (.tuple #[.agg #[.int .i64 (zV f x).1,.int .i64 (zV f x).2.1],.bool (zV f x).2.2])/\Gr w w':=by
 have d:=gy x.op;rcases (by omega:ir x.op=0\/ir x.op=1\/ir x.op=2\/ir x.op=3\/ir x.op=4\/ir x.op=5\/ir x.op=6\/ir x.op=7\/ir x.op=8\/ir x.op=9\/ir x.op=10\/ir x.op=11\/ir x.op=12\/ir x.op=13\/ir x.op=14\/ir x.op=15\/ir x.op=16\/ir x.op=17\/ir x.op=18) with h|h|h|h|h|h|h|h|h|h|h|h|h|h|h|h|h|h|h
 ·exact se f x vp vb As Aa At cs ca ct w hb h
 ·exact sf f x vp vb As Aa At cs ca ct w hb h
 ·exact sh f x vp vb As Aa At cs ca ct w hb h
 ·exact sn f x vp vb As Aa At cs ca ct w hb h
 ·exact so f x vp vb As Aa At cs ca ct w hb h
 ·exact su f x vp vb As Aa At cs ca ct w hb h
 ·exact sw f x vp vb As Aa At cs ca ct w hb h
 ·exact sx f x vp vb As Aa At cs ca ct w hb h
 ·exact sy f x vp vb As Aa At cs ca ct w hb h
 ·exact sA f x vp vb As Aa At cs ca ct w hb h
 ·exact pG f x vp vb As Aa At cs ca ct w hb h
 ·exact pH f x vp vb As Aa At cs ca ct w hb h
 ·exact pI f x vp vb As Aa At cs ca ct w hb h
 ·exact pJ f x vp vb As Aa At cs ca ct w hb h
 ·exact pK f x vp vb As Aa At cs ca ct w hb h
 ·exact pL f x vp vb As Aa At cs ca ct w hb h
 ·exact pM f x vp vb As Aa At cs ca ct w hb hvt h
 ·exact pN f x vp vb As Aa At cs ca ct w hb h
 ·exact pO f x vp vb As Aa At cs ca ct w hb h
theorem kF (n:Int)(B:Nat)(A:Option Addr)(len c:Nat)(w:World)(hc:w.cell? ⟨B,3,none⟩=some (.slice A len c)) :
  Calls prog 95 #[.int .i64 n,.pointer (some ⟨B,0,none⟩)] w (RS (.bool (BE len n)) w):=by
 go_enter func95, ntmps95
 go_wp2;all_goals go_ret
 all_goals exact⟨cZ (by unfold BE;grind),rfl⟩
def Ir.DL (f:Fn)(x:Ins):Bool :=
 (zV f x).2.2 && ((x.args.length:Int) == (zV f x).1) && ((x.to.length:Int) == (zV f x).2.1) && (bits .andNot .i64 x.g (Ei x.op) == 0) && !x.to.any (BE f.b.length)
theorem lI (f:Fn)(x:Ins)(vp:Value)(As Aa At Ab:Option Addr)(cs ca ct cb:Nat)(w:World)(hb:0<=x.i/\x.i<4294967296/\f.s.length<=17592186044416/\x.to.length<=17592186044416)(hvt:IntsAt w.heap.size w (.slice At x.to.length ct) x.to) :
  Calls prog 63 #[.agg #[vp,.int .i64 f.ret,.slice As f.s.length cs,.slice Ab f.b.length cb],.agg #[.int .i64 x.op,.int .i64 x.w,.int .i64 x.g,.slice Aa x.args.length ca,.int .u32 x.i,.slice At x.to.length ct]] w fun e w' =>
   e=.returned (.bool (DL f x))/\Gr w w':=by
 have r:Hid (∀d,Gr w d->Calls prog 93 #[.agg #[vp,.int .i64 f.ret,.slice As f.s.length cs,.slice Ab f.b.length cb],.agg #[.int .i64 x.op,.int .i64 x.w,.int .i64 x.g,.slice Aa x.args.length ca,.int .u32 x.i,.slice At x.to.length ct]] d fun e w' =>
     e=.returned (.tuple #[.agg #[.int .i64 (zV f x).1,.int .i64 (zV f x).2.1],.bool (zV f x).2.2])/\Gr d w') :=
  fun d j=>ny f x vp _ As Aa At cs ca ct d hb (hvt.gr j)
 have t:Hid (∀d,Calls prog 94 #[.int .i64 x.op] d (RS (.int .i64 (Ei x.op)) d)):=fun d=>mN x.op d
 have D:Hid (∀d,Gr w d->(∀W,Gr d W->W.cell? ⟨w.heap.size,3,none⟩=some (.slice Ab f.b.length cb))->Calls prog 88 #[.slice At x.to.length ct,.func (.func 95) #[] #[.pointer (some ⟨w.heap.size,0,none⟩)]] d fun e w' =>
     e=.returned (.bool (x.to.any (BE f.b.length)))/\Gr d w'):=by
  intro d j J;refine dM _ _ (enters_of func95 (by kernel_rfl) rfl) _ _ _ _ (hvt.gr j) ?_;intro z _ W I;exact(kF z w.heap.size Ab f.b.length cb W (J W I)).mono fun _ _ h=>⟨h.1,h.2 ▸ yO _⟩
 have u:Hid (DL f x=((zV f x).2.2 && ((x.args.length:Int) == (zV f x).1) && ((x.to.length:Int) == (zV f x).2.1) && (bits .andNot .i64 x.g (Ei x.op) == 0) && !x.to.any (BE f.b.length))):=by show _=_;rfl
 obtain⟨s,L⟩:=xJ (zV f x);obtain⟨m,K⟩:=xJ (Ei x.op);rw[L,K]at u;rw[L]at r;rw[K]at t;obtain⟨R,S,ok⟩:=s;dsimp only at u r;clear L K hvt;obtain⟨W,y⟩:=xJ ((w.alloc (.cells #[vp,.int .i64 f.ret,.slice As f.s.length cs,.slice Ab f.b.length cb] 36)).alloc (.cells #[.int .i64 x.op,.int .i64 x.w,.int .i64 x.g,.slice Aa x.args.length ca,.int .u32 x.i,.slice At x.to.length ct] 68));have l:Gr w W:=by rw[<-y];exact((yO w).alloc _).alloc _
 have X:W.heap.size=w.heap.size+2:=by rw[<-y];simp
 have B0:Hid (∀w',Gr W w'->w'.cell? ⟨w.heap.size,3,none⟩=some (.slice Ab f.b.length cb)):=by intro w' g;refine(g.cell w.heap.size 3 (by omega)).trans ?_;rw[<-y];exact(((yO _).alloc _).cell w.heap.size 3 (by simp)).trans (yo _ _ _ _ _ _ (heap_alloc_new w _))
 have p:Hid (∀w' o,Gr W w'->w'.cell? ⟨w.heap.size+1,o,none⟩=(#[.int .i64 x.op,.int .i64 x.w,.int .i64 x.g,.slice Aa x.args.length ca,.int .u32 x.i,.slice At x.to.length ct]:Array Value)[o]?):=by intro w' o g;refine(g.cell (w.heap.size+1) o (by omega)).trans ?_;rw[<-y];exact yo _ _ _ _ _ _ (heap_alloc2_new w _ _)
 have c0:=B0.out W (yO _);have d0:W.cell? ⟨w.heap.size+1,0,none⟩=some (.int .i64 x.op):=p.out W 0 (yO _);have d1:W.cell? ⟨w.heap.size+1,1,none⟩=some (.int .i64 x.w):=p.out W 1 (yO _);have d2:W.cell? ⟨w.heap.size+1,2,none⟩=some (.int .i64 x.g):=p.out W 2 (yO _);have d3:W.cell? ⟨w.heap.size+1,3,none⟩=some (.slice Aa x.args.length ca):=p.out W 3 (yO _);have d4:W.cell? ⟨w.heap.size+1,4,none⟩=some (.int .u32 x.i):=p.out W 4 (yO _);have d5:W.cell? ⟨w.heap.size+1,5,none⟩=some (.slice At x.to.length ct):=p.out W 5 (yO _)
 have e0:W.cell? ⟨w.heap.size,0,none⟩=some vp:=by rw[<-y];exact(((yO _).alloc _).cell w.heap.size 0 (by simp)).trans (yo _ _ _ _ _ _ (heap_alloc_new w _))
 have e1:W.cell? ⟨w.heap.size,1,none⟩=some (.int .i64 f.ret):=by rw[<-y];exact(((yO _).alloc _).cell w.heap.size 1 (by simp)).trans (yo _ _ _ _ _ _ (heap_alloc_new w _))
 have e2:W.cell? ⟨w.heap.size,2,none⟩=some (.slice As f.s.length cs):=by rw[<-y];exact(((yO _).alloc _).cell w.heap.size 2 (by simp)).trans (yo _ _ _ _ _ _ (heap_alloc_new w _))
 obtain⟨F,A⟩:∃F,((x.args.length:Int) == R)=F:=⟨_,rfl⟩;obtain⟨G,B⟩:∃G,((x.to.length:Int) == S)=G:=⟨_,rfl⟩;obtain⟨H,C⟩:∃H,(bits .andNot .i64 x.g m == 0)=H:=⟨_,rfl⟩;have Y:((x.args.length:Int) != R)=!F:=by rw[bne,A]
 have Z:((x.to.length:Int) != S)=!G:=by rw[bne,B]
 have aa:(bits .andNot .i64 x.g m != 0)=!H:=by rw[bne,C]
 rw[A,B,C]at u;clear A B C
 cases ok with
 | false =>
  have q:Hid (DL f x=false):=by show _=_;rw[u.out];simp
  go_enter func63, ntmps63
  go_wp2_with (go_at_call 93;refine(r.out _ l).mono ?_;rintro e d ⟨rfl,j⟩);go_quiet (fail);go_wp2;go_ret;exact⟨cZ (by rw[q.out]),((l.trans j).alloc _).drewN _⟩
 | true =>
  cases F with
  | false =>
   have q:Hid (DL f x=false):=by show _=_;rw[u.out];simp
   go_enter func63, ntmps63
   go_wp2_with (go_at_call 93;refine(r.out _ l).mono ?_;rintro e d ⟨rfl,j⟩;have M:∀o,(d.alloc o).cell? ⟨w.heap.size+1,0,none⟩=some (.int .i64 x.op):=fun o=>p.out _ 0 (j.alloc o);have N:∀o,(d.alloc o).cell? ⟨w.heap.size+1,2,none⟩=some (.int .i64 x.g):=fun o=>p.out _ 2 (j.alloc o);have O:∀o,(d.alloc o).cell? ⟨w.heap.size+1,3,none⟩=some (.slice Aa x.args.length ca):=fun o=>p.out _ 3 (j.alloc o);have Q:∀o,(d.alloc o).cell? ⟨w.heap.size+1,5,none⟩=some (.slice At x.to.length ct):=fun o=>p.out _ 5 (j.alloc o));go_quiet (first|fail|(go_at_call 94;exact dq (t.out _)));go_wp2;go_ret;exact⟨cZ (by rw[q.out]),((l.trans j).alloc _).drewN _⟩
  | true =>
   cases G with
   | false =>
    have q:Hid (DL f x=false):=by show _=_;rw[u.out];simp
    go_enter func63, ntmps63
    go_wp2_with (go_at_call 93;refine(r.out _ l).mono ?_;rintro e d ⟨rfl,j⟩;have M:∀o,(d.alloc o).cell? ⟨w.heap.size+1,0,none⟩=some (.int .i64 x.op):=fun o=>p.out _ 0 (j.alloc o);have N:∀o,(d.alloc o).cell? ⟨w.heap.size+1,2,none⟩=some (.int .i64 x.g):=fun o=>p.out _ 2 (j.alloc o);have O:∀o,(d.alloc o).cell? ⟨w.heap.size+1,3,none⟩=some (.slice Aa x.args.length ca):=fun o=>p.out _ 3 (j.alloc o);have Q:∀o,(d.alloc o).cell? ⟨w.heap.size+1,5,none⟩=some (.slice At x.to.length ct):=fun o=>p.out _ 5 (j.alloc o));go_quiet (first|fail|(go_at_call 94;exact dq (t.out _)));go_wp2;go_ret;exact⟨cZ (by rw[q.out]),((l.trans j).alloc _).drewN _⟩
   | true =>
    cases H with
    | false =>
     have q:Hid (DL f x=false):=by show _=_;rw[u.out];simp
     go_enter func63, ntmps63
     go_wp2_with (go_at_call 93;refine(r.out _ l).mono ?_;rintro e d ⟨rfl,j⟩;have M:∀o,(d.alloc o).cell? ⟨w.heap.size+1,0,none⟩=some (.int .i64 x.op):=fun o=>p.out _ 0 (j.alloc o);have N:∀o,(d.alloc o).cell? ⟨w.heap.size+1,2,none⟩=some (.int .i64 x.g):=fun o=>p.out _ 2 (j.alloc o);have O:∀o,(d.alloc o).cell? ⟨w.heap.size+1,3,none⟩=some (.slice Aa x.args.length ca):=fun o=>p.out _ 3 (j.alloc o);have Q:∀o,(d.alloc o).cell? ⟨w.heap.size+1,5,none⟩=some (.slice At x.to.length ct):=fun o=>p.out _ 5 (j.alloc o));go_quiet (first|fail|(go_at_call 94;exact dq (t.out _)));go_wp2;go_ret;exact⟨cZ (by rw[q.out]),((l.trans j).alloc _).drewN _⟩
    | true =>
     have q:Hid (DL f x=!x.to.any (BE f.b.length)):=by show _=_;rw[u.out];simp
     obtain⟨q4,E⟩:=xJ (x.to.any (BE f.b.length));rw[E]at q D;clear E
     go_enter func63, ntmps63
     go_wp2_with (go_at_call 93;refine(r.out _ l).mono ?_;rintro e d ⟨rfl,j⟩;have M:∀o,(d.alloc o).cell? ⟨w.heap.size+1,0,none⟩=some (.int .i64 x.op):=fun o=>p.out _ 0 (j.alloc o);have N:∀o,(d.alloc o).cell? ⟨w.heap.size+1,2,none⟩=some (.int .i64 x.g):=fun o=>p.out _ 2 (j.alloc o);have O:∀o,(d.alloc o).cell? ⟨w.heap.size+1,3,none⟩=some (.slice Aa x.args.length ca):=fun o=>p.out _ 3 (j.alloc o);have Q:∀o,(d.alloc o).cell? ⟨w.heap.size+1,5,none⟩=some (.slice At x.to.length ct):=fun o=>p.out _ 5 (j.alloc o));go_quiet (first|fail|(go_at_call 94;exact dq (t.out _)));go_wp2_with (go_at_call 88;refine(D.out _ (((l.trans j).alloc _).drewN _) (fun T I=>B0.out T (((j.alloc _).drewN _).trans I))).mono ?_;rintro e w3 ⟨rfl,U⟩);go_ret;exact⟨cZ (by rw[q.out]),(((l.trans j).alloc _).drewN _).trans U⟩
theorem sY (n:Nat)(h:n<18446744073709551616):(IntKind.i64.wrap (n:Int) == 0)=(n == 0):=by
 have e:IntKind.i64.wrap (n:Int)=0↔n=0:=by
  unfold IntKind.wrap;simp only[IntKind.signed,IntKind.bits];constructor
  ·intro q;split at q<;>omega
  ·rintro rfl;decide
 by_cases q:n=0
 ·rw[beq_iff_eq.2 q,beq_iff_eq.2 (e.2 q)]
 ·rw[beq_eq_false_iff_ne.2 q,beq_eq_false_iff_ne.2 (fun c=>q (e.1 c))]
theorem lQ (m i:Nat)(hi:i<64):(BitVec.ofNat 64 m)[i]=m.testBit i:=by rw[<-BitVec.getLsbD_eq_getElem,BitVec.getLsbD_ofNat];simp[hi]
theorem iH (z:Int)(m:Nat):(bits .andNot .i64 z m == 0)=true↔∀i,i<64->(BitVec.ofInt 64 z).getLsbD i=true->m.testBit i=true:=by
 unfold bits;rw[sY _ (BitVec.isLt _),beq_iff_eq];constructor
 ·intro h i d j;have g:(BitVec.ofInt 64 z &&& ~~~BitVec.ofInt 64 (m:Int))=0#64:=BitVec.eq_of_toNat_eq h;have:=congrArg (fun b=>b.getLsbD i) g;simp[j,d]at this
  rwa [lQ m i d]at this
 ·intro h
  have g:(BitVec.ofInt 64 z &&& ~~~BitVec.ofInt 64 (m:Int))=0#64:=by apply BitVec.eq_of_getLsbD_eq;intro i d;simp[d];intro j;rw[lQ m i d];exact h i d (by simpa[d] using j)
  exact congrArg BitVec.toNat g
theorem iU (z:Int)(n:Nat)(h0:-9223372036854775808<=z)(h1:z<=9223372036854775807)(hz:∀i,i<64->(BitVec.ofInt 64 z).getLsbD i=true->i<n)(hn:n<=62):0<=z/\z<2 ^ n:=by
 have d:(BitVec.ofInt 64 z).toNat<2 ^ n:=by
  apply Nat.lt_pow_two_of_testBit;intro i q;by_cases l:i<64
  ·cases hb:(BitVec.ofInt 64 z).toNat.testBit i with
   | false=>rfl
   | true=>have:=hz i l hb;omega
  ·exact Nat.testBit_lt_two_pow (Nat.lt_of_lt_of_le (BitVec.isLt _) (Nat.pow_le_pow_right (by omega) (by omega)))
 have p:(2:Nat) ^ n<=2 ^ 62:=Nat.pow_le_pow_right (by omega) hn;rw[BitVec.toNat_ofInt]at d;have g:(2:Nat) ^ 62=4611686018427387904:=by decide
 have j:((2 ^ 64:Nat):Int)=18446744073709551616:=by decide
 rw[j]at d;rw[g]at p;have m:((2:Int) ^ n)=((2 ^ n:Nat):Int):=by simp
 rw[m];omega
theorem vc (z:Int)(h0:-9223372036854775808<=z)(h1:z<=9223372036854775807):(bits .andNot .i64 z (3:Nat) == 0)=(decide (0<=z) && decide (z<=3)):=by
 rw[Bool.eq_iff_iff,iH];simp only[yu,decide_eq_true_eq];constructor
 ·intro h
  have:=iU z 2 h0 h1 (fun i g d=>by
    have:=h i g d
    rcases (by omega:i=0\/i=1\/2<=i) with rfl|rfl|q
    · omega
    · omega
    · rw[Nat.testBit_lt_two_pow (Nat.lt_of_lt_of_le (by decide:3<2 ^ 2) (Nat.pow_le_pow_right (by omega) q))]at this;cases this) (by omega)
  omega
 ·rintro⟨j,l⟩ i g d;rcases (by omega:z=0\/z=1\/z=2\/z=3) with rfl|rfl|rfl|rfl
  all_goals
   rcases (by omega:i=0\/i=1\/2<=i) with rfl|rfl|q
   ·first|decide|(simp at d)
   ·first|decide|(simp at d)
   ·exfalso;simp only[BitVec.ofInt_ofNat]at d;rw[BitVec.getLsbD_ofNat,Nat.testBit_lt_two_pow (Nat.lt_of_lt_of_le (by decide:_<2 ^ 2) (Nat.pow_le_pow_right (by omega) q))]at d;simp at d
theorem qV (z:Int)(k:Nat)(hk:k<62)(h0:-9223372036854775808<=z)(h1:z<=9223372036854775807):(bits .andNot .i64 z ((2 ^ k:Nat):Int) == 0)=(decide (z=0) || decide (z=2 ^ k)):=by
 rw[Bool.eq_iff_iff,iH];simp only[Bool.or_eq_true,decide_eq_true_eq,Nat.testBit_two_pow];constructor
 ·intro h;have g:=iU z (k+1) h0 h1 (fun i j g=>by have:=h i j g;omega) (by omega);obtain⟨n,rfl⟩:=xZ g.1;have e:(BitVec.ofInt 64 (n:Int))=BitVec.ofNat 64 n:=BitVec.ofInt_natCast 64 n;simp only[e,BitVec.getLsbD_ofNat,yu,decide_eq_true_eq]at h
  have l:n=0\/n=2 ^ k:=by
   cases hq:n.testBit k with
   | true =>
    right;apply Nat.eq_of_testBit_eq;intro i;rw[Nat.testBit_two_pow];by_cases j:k=i
    ·subst j;simp[hq]
    ·simp only[j,decide_false]
     cases hz:n.testBit i with
     | false=>rfl
     | true =>
      by_cases d:i<64
      ·exact absurd (h i d ⟨d,hz⟩) j
      ·rw[Nat.testBit_lt_two_pow (Nat.lt_of_lt_of_le (by omega:n<2 ^ 63) (Nat.pow_le_pow_right (by omega) (by omega)))]at hz;cases hz
   | false =>
    left;apply Nat.eq_of_testBit_eq;intro i;rw[Nat.zero_testBit]
    cases hz:n.testBit i with
    | false=>rfl
    | true =>
     by_cases d:i<64
     ·have:=h i d ⟨d,hz⟩;subst this;rw[hz]at hq;cases hq
     ·rw[Nat.testBit_lt_two_pow (Nat.lt_of_lt_of_le (by omega:n<2 ^ 63) (Nat.pow_le_pow_right (by omega) (by omega)))]at hz;cases hz
  rcases l with rfl|rfl
  ·left;rfl
  ·right;simp
 ·rintro (rfl|rfl) i j g
  ·simp at g
  ·have e:(BitVec.ofInt 64 ((2:Int) ^ k))=BitVec.ofNat 64 (2 ^ k):=by
    rw[<-BitVec.ofInt_natCast 64 (2 ^ k)];simp
   rw[e,BitVec.getLsbD_ofNat,Nat.testBit_two_pow]at g;simp at g;exact g.2
theorem uZ (z:Int)(h0:-9223372036854775808<=z)(h1:z<=9223372036854775807):(bits .andNot .i64 z 0 == 0)=decide (z=0):=by
 rw[Bool.eq_iff_iff];have h:=iH z 0;rw[show ((0:Nat):Int)=0 from rfl]at h;rw[h];simp only[Nat.zero_testBit,decide_eq_true_eq];constructor
 ·intro q;have:=iU z 0 h0 h1 (fun i g d=>by cases q i g d) (by omega);simp at this;omega
 ·rintro rfl i g d;simp at d
theorem sK (l:List Int)(n:Nat):(!l.any (BE n))=l.all (fun z=>decide (0<=z) && decide (z<(n:Int))):=by
 induction l with
 | nil=>rfl
 | cons a r ih =>
  rw[List.any_cons,List.all_cons,Bool.not_or,ih];congr 1;unfold BE;grind
theorem qD (op:Int)(h:op<0\/32<op):ir op=0:=by
 unfold ir
 simp only[show ¬op=0 by omega,show ¬op=14 by omega,show ¬op=15 by omega,show ¬(op=16\/op=17) by omega,show ¬op=18 by omega,show ¬(op=19\/op=20) by omega,show ¬op=21 by omega,show ¬(op=22\/op=23) by omega,show ¬op=24 by omega,show ¬op=25 by omega,show ¬op=26 by omega,
   show ¬op=27 by omega,show ¬op=28 by omega,show ¬op=29 by omega,show ¬op=30 by omega,show ¬op=31 by omega,show ¬op=32 by omega,show ¬(1<=op/\op<=13) by omega,if_false]
theorem nA (f:Fn)(x:Ins)(h:x.op<0\/32<x.op):(zV f x).2.2=false:=by unfold zV;rw[qD x.op h];rfl
theorem li (a t:Int)(ok:Bool)(x:Ins)(ha:0<=a)(ht:0<=t):Dj (a,t,ok) x=(((x.args.length:Int) == a) && ((x.to.length:Int) == t)):=by unfold Dj;rw[Bool.eq_iff_iff];simp;omega
theorem eA (f:Fn)(x:Ins)(a t:Int)(p q m:Bool)(hi:zV f x=(a,t,p))(hr:zY f x=(a,t,q))(ha:0<=a)(ht:0<=t)(h30:x.op≠30)(hm:(bits .andNot .i64 x.g (Ei x.op) == 0)=m)(hpq:(p && m)=q) :
  DL f x=zm f x:=by
 unfold DL zm;rw[hi,hr,hm,li _ _ _ _ ha ht,sK,<-hpq];simp only[h30,ne_eq,not_false_eq_true,decide_true,Bool.true_or,Bool.and_true];generalize (x.to.all fun z=>decide (0<=z) && decide (z<(f.b.length:Int)))=T;cases p<;>cases m<;>simp
theorem mT (f:Fn)(x:Ins)(hr:0<=f.ret)(h0:-9223372036854775808<=x.g)(h1:x.g<=9223372036854775807):DL f x=zm f x:=by
 by_cases q:x.op<0\/32<x.op
 ·unfold DL zm;rw[nA f x q,jo f x q];rfl
 have d:=uZ x.g h0 h1;have g:(bits .andNot .i64 x.g 3 == 0)=(decide (0<=x.g) && decide (x.g<=3)):=vc x.g h0 h1;have j:(bits .andNot .i64 x.g 4 == 0)=(decide (x.g=0) || decide (x.g=4)):=qV x.g 2 (by omega) h0 h1;have f8:(bits .andNot .i64 x.g 8 == 0)=(decide (x.g=0) || decide (x.g=8)):=qV x.g 3 (by omega) h0 h1;rcases (by omega:(x.op=0\/x.op=22\/x.op=23\/x.op=24\/x.op=32)\/(x.op=1\/x.op=2\/x.op=3\/x.op=4\/x.op=5\/x.op=6\/x.op=7\/x.op=8\/x.op=9\/x.op=10\/x.op=11\/x.op=12\/x.op=13\/x.op=14\/x.op=19\/x.op=20\/x.op=25\/x.op=27)\/(x.op=15)\/(x.op=16\/x.op=17\/x.op=18\/x.op=21\/x.op=26)\/(x.op=29)\/x.op=31\/x.op=28\/x.op=30) with h|h|h|h|h|h|h|h
 ·rcases h with h|h|h|h|h;all_goals refine eA f x 0 0 _ _ _ (by unfold zV ir;rw[h];rfl) (by unfold zY;rw[h];rfl) (by decide) (by decide) (by omega) ((congrArg (fun o=>bits .andNot .i64 x.g (Ei o) == 0) h).trans (by first|exact d|exact g|exact j|exact f8)) ?_
  all_goals grind [Gq,Ge,Ej,E5,Ew,Ea]
 ·rcases h with h|h|h|h|h|h|h|h|h|h|h|h|h|h|h|h|h|h;all_goals refine eA f x 2 0 _ _ _ (by unfold zV ir;rw[h];rfl) (by unfold zY;rw[h];rfl) (by decide) (by decide) (by omega) ((congrArg (fun o=>bits .andNot .i64 x.g (Ei o) == 0) h).trans (by first|exact d|exact g|exact j|exact f8)) ?_
  all_goals grind [Gq,Ge,Ej,E5,Ew,Ea]
 ·all_goals refine eA f x 3 0 _ _ _ (by unfold zV ir;rw[h];rfl) (by unfold zY;rw[h];rfl) (by decide) (by decide) (by omega) ((congrArg (fun o=>bits .andNot .i64 x.g (Ei o) == 0) h).trans (by first|exact d|exact g|exact j|exact f8)) ?_
  all_goals grind [Gq,Ge,Ej,E5,Ew,Ea]
 ·rcases h with h|h|h|h|h;all_goals refine eA f x 1 0 _ _ _ (by unfold zV ir;rw[h];rfl) (by unfold zY;rw[h];rfl) (by decide) (by decide) (by omega) ((congrArg (fun o=>bits .andNot .i64 x.g (Ei o) == 0) h).trans (by first|exact d|exact g|exact j|exact f8)) ?_
  all_goals grind [Gq,Ge,Ej,E5,Ew,Ea]
 ·all_goals refine eA f x 0 1 _ _ _ (by unfold zV ir;rw[h];rfl) (by unfold zY;rw[h];rfl) (by decide) (by decide) (by omega) ((congrArg (fun o=>bits .andNot .i64 x.g (Ei o) == 0) h).trans (by first|exact d|exact g|exact j|exact f8)) ?_
  all_goals grind [Gq,Ge,Ej,E5,Ew,Ea]
 ·have e:(if f.ret<1 then f.ret else 1)=if 0<f.ret then 1 else 0:=by split<;>split<;>omega
  refine eA f x (if 0<f.ret then 1 else 0) 0 (decide (x.w=0) && decide (x.i=0)) (decide (x.w=0) && Ej x) (decide (x.g=0)) (by rw[<-e];unfold zV ir;rw[h];rfl) (by unfold zY;rw[h];rfl) (by split<;>decide) (by decide) (by omega) (by rw[h];exact d) ?_;simp[Ej,E5];grind
 ·unfold DL zm;have l:zV f x=((x.to.length:Int),(x.to.length:Int),(yS x.w || decide (x.w=33)) && decide (x.i=0) && decide (0<x.to.length)):=by unfold zV ir;rw[h];rfl
  have p:zY f x=(-1,-1,(yS x.w || decide (x.w=33)) && Ej x && decide (0<x.args.length)):=by unfold zY;rw[h];rfl
  have m:(bits .andNot .i64 x.g (Ei x.op) == 0)=decide (x.g=0):=by rw[h];exact d
  rw[l,p,m,sK];generalize (x.to.all fun z=>decide (0<=z) && decide (z<(f.b.length:Int)))=T;unfold Dj;rw[Bool.eq_iff_iff];simp[h,Ej,E5];grind
 ·unfold DL zm;have l:zV f x=(1,2,decide (x.w=0) && decide (x.i=0) && (decide (x.to.length≠2) || decide (x.to.getD 0 0≠x.to.getD 1 0))):=by unfold zV ir;rw[h];rfl
  have p:zY f x=(1,2,decide (x.w=0) && Ej x):=by unfold zY;rw[h];rfl
  have m:(bits .andNot .i64 x.g (Ei x.op) == 0)=decide (x.g=0):=by rw[h];exact d
  rw[l,p,m,sK,li _ _ _ _ (by decide) (by decide)];generalize (x.to.all fun z=>decide (0<=z) && decide (z<(f.b.length:Int)))=T;generalize x.to.getD 0 0=a;generalize x.to.getD 1 0=b;rw[Bool.eq_iff_iff];simp[h,Ej,E5];grind

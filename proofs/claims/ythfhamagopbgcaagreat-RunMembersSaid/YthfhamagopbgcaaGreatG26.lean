/- Parts: Bi Bj. -/
import Derived.Test.YthfhamagopbgcaaGreatG24
import Derived.Test.YthfhamagopbgcaaGreatG25
namespace Go.Proofs.YthfhamagopbgcaaGreat
set_option linter.unusedSimpArgs false
set_option linter.unusedVariables false
open Go.RowKit

section
variable (a b:Int) (w:World)
theorem op1_any (ha:-4611686018427387904<a∧a<4611686018427387904) (hb:-4611686018427387904<b∧b<4611686018427387904):Calls Tryz.prog 222 #[.int .i64 a,.int .i64 b] w fun e w'=>e=.returned (.int .i64 (a+b))∧w=w':=by
 obtain ⟨a1,a2⟩:=ha
 obtain ⟨b1,b2⟩:=hb
 go_enter Tryz.func222, Tryz.ntmps222
 go_wp2
 go_ret
 exact ⟨rfl,rfl⟩
theorem op3_any (ha:-4611686018427387904<a∧a<4611686018427387904) (hb:-4611686018427387904<b∧b<4611686018427387904):Calls Tryz.prog 224 #[.int .i64 a,.int .i64 b] w fun e w'=>e=.returned (.int .i64 (a-b))∧w=w':=by
 obtain ⟨a1,a2⟩:=ha
 obtain ⟨b1,b2⟩:=hb
 go_enter Tryz.func224, Tryz.ntmps224
 go_wp2
 go_ret
 exact ⟨rfl,rfl⟩
end
/-- What the program's product says: 2^62 where it is not below. -/
def mul62 (a b:Int):Int:=if 4611686018427387904≤a * b∨a * b≤-4611686018427387904 then 4611686018427387904 else a * b
set_option maxRecDepth 100000 in
theorem op5_any (a b:Int) (w:World) (ha:-4294967296<a∧a<4294967296) (hb:-4294967296<b∧b<4294967296):Calls Tryz.prog 226 #[.int .i64 a,.int .i64 b] w fun e w'=>e=.returned (.int .i64 (mul62 a b))∧w=w':=by
 have key:∀ (x y:Int) (m n:Nat),(x=m∨x=-m)→(y=n∨y=-n)→((m * n:Nat):Int)=x * y∨((m * n:Nat):Int)=-(x * y):=by
  rintro x y m n (rfl | rfl) (rfl | rfl)
  ·left;simp
  ·right;simp [Int.mul_neg]
  ·right;simp [Int.neg_mul]
  ·left;simp [Int.neg_mul,Int.mul_neg]
 obtain ⟨m,hm⟩:∃ m:Nat,a=m∨a=-m:=⟨a.natAbs,by omega⟩
 obtain ⟨n,hn⟩:∃ n:Nat,b=n∨b=-n:=⟨b.natAbs,by omega⟩
 have hmm:m<4294967296:=by omega
 have hnn:n<4294967296:=by omega
 have hp:m * n<18446744073709551616:=Nat.lt_of_le_of_lt (Nat.mul_le_mul (Nat.le_of_lt_succ (by omega:m<4294967295+1)) (Nat.le_of_lt_succ (by omega:n<4294967295+1))) (by decide)
 have HK:=Lib.hid (key a b m n hm hn)
 obtain ⟨p,hpe⟩:∃ p,m * n=p:=⟨_,rfl⟩
 have CM:Hid (∀ w1,Calls Tryz.prog 227 #[.int .u64 m,.int .u64 n] w1 fun e w'=>e=.returned (.tuple #[.int .u64 0,.int .u64 (p:Int)])∧w1=w'):=fun w1=>by
  refine (Tryz.bits_Mul64 m n (by omega) (by omega) w1).mono ?_
  rintro e w' ⟨rfl,rfl⟩
  rw [hpe] at hp ⊢
  rw [Nat.div_eq_of_lt hp,Nat.mod_eq_of_lt hp]
  exact ⟨rfl,rfl⟩
 rw [hpe] at hp HK
 have hp0:0≤(p:Int):=by omega
 have hp1:(p:Int)<18446744073709551616:=by omega
 have HM:=Lib.hid hm
 have HN:=Lib.hid hn
 clear hpe key hm hn ha hb hp
 obtain ⟨M,hM⟩:∃ M:Int,(m:Int)=M:=⟨_,rfl⟩
 obtain ⟨N,hN⟩:∃ N:Int,(n:Int)=N:=⟨_,rfl⟩
 obtain ⟨q,hq⟩:∃ q:Int,(p:Int)=q:=⟨_,rfl⟩
 have m1:0≤M:=by omega
 have m2:M<4294967296:=by omega
 have n1:0≤N:=by omega
 have n2:N<4294967296:=by omega
 rw [hM,hN,hq] at CM
 rw [hM] at HM
 rw [hN] at HN
 rw [hq] at HK hp0 hp1
 clear hM hN hq hmm hnn
 have HR:Hid (mul62 a b=if 4611686018427387904≤q then 4611686018427387904 else a * b):=by
  show _=_
  unfold mul62
  have:=HK.out
  split <;> split <;> omega
 have ea:max a (-a)=M:=by have:=HM.out;omega
 have eb:max b (-b)=N:=by have:=HN.out;omega
 have a1:-4294967296<a:=by have:=HM.out;omega
 have a2:a<4294967296:=by have:=HM.out;omega
 have b1:-4294967296<b:=by have:=HN.out;omega
 have b2:b<4294967296:=by have:=HN.out;omega
 by_cases hb62:4611686018427387904≤q
 ·have HRR:Hid (mul62 a b=4611686018427387904):=by show _=_;rw [HR.out,if_pos hb62]
  go_enter Tryz.func226, Tryz.ntmps226
  go_wp2_with (go_at_call 227;(with_reducible refine (CM.out _).mono ?_);rintro e w1 ⟨rfl,rfl⟩)
  go_ret
  exact ⟨ret_int HRR.out.symm,rfl⟩
 ·have HRR:Hid (mul62 a b=a * b):=by show _=_;rw [HR.out,if_neg hb62]
  have hw:IntKind.i64.wrap (a * b)=a * b:=IntWalk.i64_in _ (by have:=HK.out;omega)
  have hb63:q<4611686018427387904:=by omega
  clear hb62
  go_enter Tryz.func226, Tryz.ntmps226
  go_wp2_with (go_at_call 227;(with_reducible refine (CM.out _).mono ?_);rintro e w1 ⟨rfl,rfl⟩)
  go_ret
  exact ⟨ret_int HRR.out.symm,rfl⟩
/-- Where there is no signed quotient. -/
def noQ (n a b:Int):Prop:=b=0∨(Wd.sg n a=-Wd.sz (n-1)∧Wd.sg n b=-1)
theorem sg_zero {n b:Int} (hn:Wd.Wid n) (hb:Wd.Word n b):Wd.sg n b=0↔b=0:=by
 have h1:=Wd.sz_half hn
 have h2:=Wd.sz_pos (n-1)
 obtain ⟨h3,h4⟩:=hb
 unfold Wd.sg
 split <;> omega
/-- The halves, in the walk's words. -/
theorem half_facts {n:Int} (hn:Wd.Wid n):∃ k:Nat,n-1=(k:Int)∧(2:Int) ^ k=Wd.sz (n-1)∧k<64∧0<Wd.sz (n-1)∧Wd.sz (n-1)≤2147483648:=by
 obtain ⟨h1,h2⟩:=hn
 obtain ⟨k,hk⟩:=Int.eq_ofNat_of_zero_le (show 0≤n-1 by omega)
 refine ⟨k,hk,by unfold Wd.sz;rw [hk,Int.toNat_natCast],by omega,Wd.sz_pos _,?_⟩
 have:=Wd.sz_le (n:=n-1) (m:=31) (by omega)
 have e:Wd.sz 31=2147483648:=by decide
 omega
set_option maxRecDepth 100000 in
theorem quotient_no (n a b:Int) (w:World) (hn:Wd.Wid n) (ha:Wd.Word n a) (hb:Wd.Word n b) (hq:noQ n a b):Calls Tryz.prog 233 #[.int .i64 n,.int .u32 a,.int .u32 b] w fun e w'=>e=.returned (.tuple #[.int .i64 0,.int .i64 0,.bool false])∧w=w':=by
 have CA:=Lib.hid fun w1=>bsigned_any n a w1 hn ha
 have CB:=Lib.hid fun w1=>bsigned_any n b w1 hn hb
 have hq:(Wd.sg n b=0)∨(Wd.sg n b=-1∧Wd.sg n a=-Wd.sz (n-1)):=by
  rcases hq with h | ⟨h1,h2⟩
  ·exact .inl ((sg_zero hn hb).2 h)
  ·exact .inr ⟨h2,h1⟩
 obtain ⟨k,ek,eh,hk,h1,h2⟩:=half_facts hn
 obtain ⟨n1,n2⟩:=id hn
 obtain ⟨h,hh⟩:∃ h,Wd.sz (n-1)=h:=⟨_,rfl⟩
 obtain ⟨x,hx⟩:∃ x,Wd.sg n a=x:=⟨_,rfl⟩
 obtain ⟨y,hy⟩:∃ y,Wd.sg n b=y:=⟨_,rfl⟩
 rw [hh] at eh h1 h2 hq
 rw [hx] at CA hq
 rw [hy] at CB hq
 clear hh hx hy ha hb hn
 rcases hq with rfl | ⟨rfl,rfl⟩
 ·go_enter Tryz.func233, Tryz.ntmps233
  go_wp2_with (go_at_call 209;first | ((with_reducible refine (CA.out _).mono ?_);rintro e w1 ⟨rfl,rfl⟩) | ((with_reducible refine (CB.out _).mono ?_);rintro e w1 ⟨rfl,rfl⟩))
  exact bodyPost_ret (v:=.tuple #[.int .i64 0,.int .i64 0,.bool false]) (by simp [results,Tryz.results233,go_sem]) rfl ⟨rfl,rfl⟩
 ·go_enter Tryz.func233, Tryz.ntmps233
  go_wp2_with (go_at_call 209;first | ((with_reducible refine (CA.out _).mono ?_);rintro e w1 ⟨rfl,rfl⟩) | ((with_reducible refine (CB.out _).mono ?_);rintro e w1 ⟨rfl,rfl⟩))
  exact bodyPost_ret (v:=.tuple #[.int .i64 0,.int .i64 0,.bool false]) (by simp [results,Tryz.results233,go_sem]) rfl ⟨rfl,rfl⟩
set_option maxRecDepth 100000 in
theorem quotient_yes (n a b:Int) (w:World) (hn:Wd.Wid n) (ha:Wd.Word n a) (hb:Wd.Word n b) (hq:¬ noQ n a b):Calls Tryz.prog 233 #[.int .i64 n,.int .u32 a,.int .u32 b] w fun e w'=>e=.returned (.tuple #[.int .i64 ((Wd.sg n a).tdiv (Wd.sg n b)),.int .i64 ((Wd.sg n a).tmod (Wd.sg n b)),.bool true])∧Gr w w':=by
 have CA:=Lib.hid fun w1=>bsigned_any n a w1 hn ha
 have CB:=Lib.hid fun w1=>bsigned_any n b w1 hn hb
 have hq:Wd.sg n b≠0∧¬ (Wd.sg n b=-1∧Wd.sg n a=-Wd.sz (n-1)):=by
  unfold noQ at hq
  refine ⟨fun h=>hq (.inl ((sg_zero hn hb).1 h)),fun h=>hq (.inr ⟨h.2,h.1⟩)⟩
 have ra:=Wd.sg_range hn ha
 obtain ⟨k,ek,eh,hk,h1,h2⟩:=half_facts hn
 obtain ⟨n1,n2⟩:=id hn
 obtain ⟨h,hh⟩:∃ h,Wd.sz (n-1)=h:=⟨_,rfl⟩
 obtain ⟨x,hx⟩:∃ x,Wd.sg n a=x:=⟨_,rfl⟩
 obtain ⟨y,hy⟩:∃ y,Wd.sg n b=y:=⟨_,rfl⟩
 rw [hh] at eh h1 h2 hq ra
 rw [hx] at CA hq ra ⊢
 rw [hy] at CB hq ⊢
 clear hh hx hy ha hb hn
 obtain ⟨q1,q2⟩:=hq
 have d1:(y == 0)=false:=by simpa using q1
 have hdiv:=Int.natAbs_tdiv_le_natAbs x y
 have hmod:(x.tmod y).natAbs≤x.natAbs:=by rw [Int.natAbs_tmod];exact Nat.mod_le _ _
 have w1:IntKind.i64.wrap (x.tdiv y)=x.tdiv y:=IntWalk.i64_in _ (by omega)
 have w2:IntKind.i64.wrap (x.tmod y)=x.tmod y:=IntWalk.i64_in _ (by omega)
 by_cases hy1:y=-1
 ·have d3:(x == -h)=false:=by simp;intro e;exact q2 ⟨hy1,e⟩
  have d2:(y == -1)=true:=by simp [hy1]
  clear q2 hdiv hmod hy1
  go_enter Tryz.func233, Tryz.ntmps233
  go_wp2_with (go_at_call 209;first | ((with_reducible refine (CA.out _).mono ?_);rintro e w1 ⟨rfl,rfl⟩) | ((with_reducible refine (CB.out _).mono ?_);rintro e w1 ⟨rfl,rfl⟩))
  go_quiet ((fail))
  all_goals go_wp2
  all_goals exact bodyPost_ret (v:=.tuple #[.int .i64 (x.tdiv y),.int .i64 (x.tmod y),.bool true]) (by simp [results,Tryz.results233,go_sem]) rfl ⟨rfl,(Gr.refl w).drewN _⟩
 ·have d2:(y == -1)=false:=by simpa using hy1
  clear q2 hdiv hmod hy1
  go_enter Tryz.func233, Tryz.ntmps233
  go_wp2_with (go_at_call 209;first | ((with_reducible refine (CA.out _).mono ?_);rintro e w1 ⟨rfl,rfl⟩) | ((with_reducible refine (CB.out _).mono ?_);rintro e w1 ⟨rfl,rfl⟩))
  go_quiet ((fail))
  all_goals go_wp2
  all_goals exact bodyPost_ret (v:=.tuple #[.int .i64 (x.tdiv y),.int .i64 (x.tmod y),.bool true]) (by simp [results,Tryz.results233,go_sem]) rfl ⟨rfl,(Gr.refl w).drewN _⟩
end Go.Proofs.YthfhamagopbgcaaGreat
namespace Go.Proofs.YthfhamagopbgcaaGreat
set_option linter.unusedSimpArgs false
set_option linter.unusedVariables false
open Go.RowKit

theorem op8_any (n a b:Int) (w:World) (ha:0≤a∧a<4294967296) (hb:0<b∧b<4294967296):Calls Tryz.prog 230 #[.int .i64 n,.int .u32 a,.int .u32 b] w fun e w'=>e=.returned (.bool (decide (a % b≠0)))∧w=w':=by
 obtain ⟨a1,a2⟩:=ha
 obtain ⟨b1,b2⟩:=hb
 have c0:(b == 0)=false:=by simp;omega
 have q1:0≤a % b:=Int.emod_nonneg _ (by omega)
 have q2:a % b<b:=Int.emod_lt_of_pos _ (by omega)
 go_enter Tryz.func230, Tryz.ntmps230
 go_wp2_with (fail)
 go_ret
 exact ⟨ret_bool (by rw [Bool.eq_iff_iff];simp),rfl⟩
theorem op11_any (n a b:Int) (w:World) (hn:Wd.Wid n) (ha:Wd.Word n a) (hb:Wd.Word n b) (hq:¬ noQ n a b):Calls Tryz.prog 234 #[.int .i64 n,.int .u32 a,.int .u32 b] w fun e w'=>e=.returned (.bool (decide ((Wd.sg n a).tmod (Wd.sg n b)≠0)))∧Gr w w':=by
 have CQ:=Lib.hid fun w1=>quotient_yes n a b w1 hn ha hb hq
 obtain ⟨x,hx⟩:∃ x,(Wd.sg n a).tdiv (Wd.sg n b)=x:=⟨_,rfl⟩
 obtain ⟨y,hy⟩:∃ y,(Wd.sg n a).tmod (Wd.sg n b)=y:=⟨_,rfl⟩
 rw [hx,hy] at CQ
 rw [hy]
 clear hn ha hb hq hx hy
 go_enter Tryz.func234, Tryz.ntmps234
 go_wp2_with (go_at_call 233;(with_reducible refine (CQ.out _).mono ?_);rintro e w1 ⟨rfl,g1⟩)
 go_ret
 exact ⟨ret_bool (by rw [Bool.eq_iff_iff];simp),g1⟩
theorem op12_yes (n a b:Int) (w:World) (hn:Wd.Wid n) (ha:Wd.Word n a) (hb:Wd.Word n b) (hq:¬ noQ n a b):Calls Tryz.prog 235 #[.int .i64 n,.int .u32 a,.int .u32 b] w fun e w'=>e=.returned (.tuple #[.int .u32 ((Wd.sg n a).tmod (Wd.sg n b) % Wd.sz n),.bool true])∧Gr w w':=by
 have CQ:=Lib.hid fun w1=>quotient_yes n a b w1 hn ha hb hq
 have CM:=Lib.hid fun w1=>bmask_any n w1 hn
 have HW:=Lib.hid (Wd.wrap_mask ((Wd.sg n a).tmod (Wd.sg n b)) hn)
 obtain ⟨x,hx⟩:∃ x,(Wd.sg n a).tdiv (Wd.sg n b)=x:=⟨_,rfl⟩
 obtain ⟨y,hy⟩:∃ y,(Wd.sg n a).tmod (Wd.sg n b)=y:=⟨_,rfl⟩
 obtain ⟨s,hs⟩:∃ s,Wd.sz n-1=s:=⟨_,rfl⟩
 rw [hx,hy] at CQ
 rw [hs] at CM HW
 rw [hy] at HW ⊢
 clear hn ha hb hq hx hy hs
 go_enter Tryz.func235, Tryz.ntmps235
 go_wp2_with (first
   | (go_at_call 233;(with_reducible refine (CQ.out _).mono ?_);rintro e w1 ⟨rfl,g1⟩)
   | (go_at_call 71;(with_reducible refine (CM.out _).mono ?_);rintro e w1 ⟨rfl,rfl⟩))
 go_ret2
 rw [← HW.out]
 exact ⟨rfl,g1⟩
theorem op12_no (n a b:Int) (w:World) (hn:Wd.Wid n) (ha:Wd.Word n a) (hb:Wd.Word n b) (hq:noQ n a b):Calls Tryz.prog 235 #[.int .i64 n,.int .u32 a,.int .u32 b] w fun e w'=>(∃ z,e=.returned (.tuple #[.int .u32 z,.bool false]))∧Gr w w':=by
 have CQ:=Lib.hid fun w1=>quotient_no n a b w1 hn ha hb hq
 have CM:=Lib.hid fun w1=>bmask_any n w1 hn
 obtain ⟨s,hs⟩:∃ s,Wd.sz n-1=s:=⟨_,rfl⟩
 rw [hs] at CM
 clear hn ha hb hq hs
 by_cases hz:b=0
 ·subst hz
  go_enter Tryz.func235, Tryz.ntmps235
  go_wp2_with (first
    | (go_at_call 233;(with_reducible refine (CQ.out _).mono ?_);rintro e w1 ⟨rfl,rfl⟩)
    | (go_at_call 71;(with_reducible refine (CM.out _).mono ?_);rintro e w1 ⟨rfl,rfl⟩))
  go_ret2
  exact ⟨⟨_,rfl⟩,Gr.refl _⟩
 ·have hz1:(b == 0)=false:=by simpa using hz
  clear hz
  go_enter Tryz.func235, Tryz.ntmps235
  go_wp2_with (first
    | (go_at_call 233;(with_reducible refine (CQ.out _).mono ?_);rintro e w1 ⟨rfl,rfl⟩)
    | (go_at_call 71;(with_reducible refine (CM.out _).mono ?_);rintro e w1 ⟨rfl,rfl⟩))
  go_ret2
  exact ⟨⟨_,rfl⟩,Gr.refl _⟩
theorem op10_yes (n a b:Int) (w:World) (hn:Wd.Wid n) (ha:Wd.Word n a) (hb:Wd.Word n b) (hq:¬ noQ n a b):Calls Tryz.prog 232 #[.int .i64 n,.int .u32 a,.int .u32 b] w fun e w'=>e=.returned (.tuple #[.int .u32 ((Wd.sg n a).tdiv (Wd.sg n b) % Wd.sz n),.bool true])∧Gr w w':=by
 have CQ:=Lib.hid fun w1=>quotient_yes n a b w1 hn ha hb hq
 have CM:=Lib.hid fun w1=>bmask_any n w1 hn
 have HW:=Lib.hid (Wd.wrap_mask ((Wd.sg n a).tdiv (Wd.sg n b)) hn)
 obtain ⟨x,hx⟩:∃ x,(Wd.sg n a).tdiv (Wd.sg n b)=x:=⟨_,rfl⟩
 obtain ⟨y,hy⟩:∃ y,(Wd.sg n a).tmod (Wd.sg n b)=y:=⟨_,rfl⟩
 obtain ⟨s,hs⟩:∃ s,Wd.sz n-1=s:=⟨_,rfl⟩
 rw [hx,hy] at CQ
 rw [hs] at CM HW
 rw [hx] at HW ⊢
 clear hn ha hb hq hx hy hs
 go_enter Tryz.func232, Tryz.ntmps232
 go_wp2_with (first
   | (go_at_call 233;(with_reducible refine (CQ.out _).mono ?_);rintro e w1 ⟨rfl,g1⟩)
   | (go_at_call 71;(with_reducible refine (CM.out _).mono ?_);rintro e w1 ⟨rfl,rfl⟩))
 go_ret2
 rw [← HW.out]
 exact ⟨rfl,g1⟩
theorem op10_no (n a b:Int) (w:World) (hn:Wd.Wid n) (ha:Wd.Word n a) (hb:Wd.Word n b) (hq:noQ n a b):Calls Tryz.prog 232 #[.int .i64 n,.int .u32 a,.int .u32 b] w fun e w'=>(∃ z,e=.returned (.tuple #[.int .u32 z,.bool false]))∧Gr w w':=by
 have CQ:=Lib.hid fun w1=>quotient_no n a b w1 hn ha hb hq
 have CM:=Lib.hid fun w1=>bmask_any n w1 hn
 have CA:=Lib.hid fun w1=>bsigned_any n a w1 hn ha
 obtain ⟨s,hs⟩:∃ s,Wd.sz n-1=s:=⟨_,rfl⟩
 obtain ⟨x,hx⟩:∃ x,Wd.sg n a=x:=⟨_,rfl⟩
 rw [hs] at CM
 rw [hx] at CA
 clear hn ha hb hq hs hx
 by_cases hz:b=0
 ·subst hz
  by_cases hx:x<0
  all_goals
   go_enter Tryz.func232, Tryz.ntmps232
   go_wp2_with (first
     | (go_at_call 233;(with_reducible refine (CQ.out _).mono ?_);rintro e w1 ⟨rfl,rfl⟩)
     | (go_at_call 209;(with_reducible refine (CA.out _).mono ?_);rintro e w1 ⟨rfl,rfl⟩)
     | (go_at_call 71;(with_reducible refine (CM.out _).mono ?_);rintro e w1 ⟨rfl,rfl⟩))
   go_ret2
   exact ⟨⟨_,rfl⟩,Gr.refl _⟩
 ·have hz1:(b == 0)=false:=by simpa using hz
  have hz2:(b != 0)=true:=by simpa using hz
  clear hz
  go_enter Tryz.func232, Tryz.ntmps232
  go_wp2_with (first
    | (go_at_call 233;(with_reducible refine (CQ.out _).mono ?_);rintro e w1 ⟨rfl,rfl⟩))
  go_ret2
  exact ⟨⟨_,rfl⟩,Gr.refl _⟩
theorem op17_any (a b:Int) (w:World) (ha:-4294967296<a∧a<4294967296) (hb:0≤b∧b<32) (hz:-9223372036854775808≤a * 2 ^ b.toNat∧a * 2 ^ b.toNat≤9223372036854775807):Calls Tryz.prog 241 #[.int .i64 a,.int .i64 b] w fun e w'=>e=.returned (.int .i64 (a * 2 ^ b.toNat))∧w=w':=by
 obtain ⟨k,rfl⟩:=Int.eq_ofNat_of_zero_le hb.1
 have hk:k<64:=by omega
 rw [Int.toNat_natCast] at *
 have HZ:=Lib.hid hz
 clear hb hz ha
 go_enter Tryz.func241, Tryz.ntmps241
 go_wp2
 go_ret
 exact ⟨ret_int (by have:=HZ.out;unfold wrap64;omega),rfl⟩
set_option maxRecDepth 100000 in
set_option maxHeartbeats 4000000 in
theorem op19_any (n a b:Int) (w:World) (ha:0≤a∧a<4294967296) (hb:0≤b∧b<32):Calls Tryz.prog 243 #[.int .i64 n,.int .u32 a,.int .u32 b] w fun e w'=>e=.returned (.bool (decide (a % 2 ^ b.toNat≠0)))∧w=w':=by
 obtain ⟨a1,a2⟩:=ha
 obtain ⟨b1,b2⟩:=hb
 rcases (by omega:b=0∨b=1∨b=2∨b=3∨b=4∨b=5∨b=6∨b=7∨b=8∨b=9∨b=10∨b=11∨b=12∨b=13∨b=14∨b=15∨b=16∨b=17∨b=18∨b=19∨b=20∨b=21∨b=22∨b=23∨b=24∨b=25∨b=26∨b=27∨b=28∨b=29∨b=30∨b=31) with rfl | rfl | rfl | rfl | rfl | rfl | rfl | rfl | rfl | rfl | rfl | rfl | rfl | rfl | rfl | rfl | rfl | rfl | rfl | rfl | rfl | rfl | rfl | rfl | rfl | rfl | rfl | rfl | rfl | rfl | rfl | rfl
 all_goals
  go_enter Tryz.func243, Tryz.ntmps243
  go_wp2_with (fail)
  go_ret
  refine ⟨ret_bool ?_,rfl⟩
  rw [Bool.eq_iff_iff]
  simp
  try omega
set_option maxRecDepth 100000 in
set_option maxHeartbeats 4000000 in
theorem op21_any (n a b:Int) (w:World) (ha:0≤a∧a<4294967296) (hb:0≤b∧b<32):Calls Tryz.prog 246 #[.int .i64 n,.int .u32 a,.int .u32 b] w fun e w'=>e=.returned (.bool (decide (a % 2 ^ b.toNat≠0)))∧w=w':=by
 obtain ⟨a1,a2⟩:=ha
 obtain ⟨b1,b2⟩:=hb
 rcases (by omega:b=0∨b=1∨b=2∨b=3∨b=4∨b=5∨b=6∨b=7∨b=8∨b=9∨b=10∨b=11∨b=12∨b=13∨b=14∨b=15∨b=16∨b=17∨b=18∨b=19∨b=20∨b=21∨b=22∨b=23∨b=24∨b=25∨b=26∨b=27∨b=28∨b=29∨b=30∨b=31) with rfl | rfl | rfl | rfl | rfl | rfl | rfl | rfl | rfl | rfl | rfl | rfl | rfl | rfl | rfl | rfl | rfl | rfl | rfl | rfl | rfl | rfl | rfl | rfl | rfl | rfl | rfl | rfl | rfl | rfl | rfl | rfl
 all_goals
  go_enter Tryz.func246, Tryz.ntmps246
  go_wp2_with (fail)
  go_ret
  refine ⟨ret_bool ?_,rfl⟩
  rw [Bool.eq_iff_iff]
  simp
  try omega
theorem op20_out (n a b:Int) (w:World) (hn:Wd.Wid n) (ha:Wd.Word n a) (hb:0≤b∧b<4294967296) (hbn:n≤b):Calls Tryz.prog 244 #[.int .i64 n,.int .u32 a,.int .u32 b] w fun e w'=>(∃ z,e=.returned (.tuple #[.int .u32 z,.bool false]))∧w=w':=by
 have CS:=Lib.hid fun w1=>bsign_any n a w1 hn ha
 obtain ⟨x,hx⟩:∃ x,(if Wd.sg n a<0 then Wd.sz n-1 else 0)=x:=⟨_,rfl⟩
 rw [hx] at CS
 obtain ⟨b1,b2⟩:=hb
 clear hn ha hx
 go_enter Tryz.func244, Tryz.ntmps244
 go_wp2_with (go_at_call 245;(with_reducible refine (CS.out _).mono ?_);rintro e w1 ⟨rfl,rfl⟩)
 go_ret2
 exact ⟨⟨_,rfl⟩,rfl⟩
set_option maxRecDepth 100000 in
set_option maxHeartbeats 4000000 in
theorem op20_in (n a b:Int) (w:World) (hn:Wd.Wid n) (ha:Wd.Word n a) (hb:0≤b) (hbn:b<n):Calls Tryz.prog 244 #[.int .i64 n,.int .u32 a,.int .u32 b] w fun e w'=>e=.returned (.tuple #[.int .u32 (Wd.sg n a / 2 ^ b.toNat % Wd.sz n),.bool true])∧w=w':=by
 have CM:=Lib.hid fun w1=>bmask_any n w1 hn
 have CS:=Lib.hid fun w1=>bsigned_any n a w1 hn ha
 have HW:=Lib.hid (Wd.wrap_mask (Wd.sg n a / 2 ^ b.toNat) hn)
 obtain ⟨n1,n2⟩:=id hn
 obtain ⟨s,hs⟩:∃ s,Wd.sz n-1=s:=⟨_,rfl⟩
 obtain ⟨x,hx⟩:∃ x,Wd.sg n a=x:=⟨_,rfl⟩
 rw [hs] at CM HW
 rw [hx] at CS HW ⊢
 obtain ⟨z,hz⟩:∃ z,x / 2 ^ b.toNat % Wd.sz n=z:=⟨_,rfl⟩
 rw [hz] at HW ⊢
 clear hn ha hs hx hz
 rcases (by omega:b=0∨b=1∨b=2∨b=3∨b=4∨b=5∨b=6∨b=7∨b=8∨b=9∨b=10∨b=11∨b=12∨b=13∨b=14∨b=15∨b=16∨b=17∨b=18∨b=19∨b=20∨b=21∨b=22∨b=23∨b=24∨b=25∨b=26∨b=27∨b=28∨b=29∨b=30∨b=31) with rfl | rfl | rfl | rfl | rfl | rfl | rfl | rfl | rfl | rfl | rfl | rfl | rfl | rfl | rfl | rfl | rfl | rfl | rfl | rfl | rfl | rfl | rfl | rfl | rfl | rfl | rfl | rfl | rfl | rfl | rfl | rfl
 all_goals
  go_enter Tryz.func244, Tryz.ntmps244
  go_wp2_with (first
    | (go_at_call 209;(with_reducible refine (CS.out _).mono ?_);rintro e w1 ⟨rfl,rfl⟩)
    | (go_at_call 71;(with_reducible refine (CM.out _).mono ?_);rintro e w1 ⟨rfl,rfl⟩))
  go_ret2
  refine ⟨?_,rfl⟩
  rw [← HW.out]
  simp
end Go.Proofs.YthfhamagopbgcaaGreat

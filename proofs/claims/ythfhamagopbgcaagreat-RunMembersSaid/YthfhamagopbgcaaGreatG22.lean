/- Parts: Da Db Dc. -/
import Derived.Test.YthfhamagopbgcaaGreatG19
import Derived.Test.YthfhamagopbgcaaGreatG00
import Derived.Test.YthfhamagopbgcaaGreatProg
import Derived.BigQuiet
import Derived.Lib.Hide
import Derived.IntWalk
namespace Go.Proofs.YthfhamagopbgcaaGreat
set_option linter.unusedSimpArgs false
set_option linter.unusedVariables false
open Go.RowKit

theorem ret_u32 {a b:Int} (h:a=b):Ending.returned (.int .u32 a)=.returned (.int .u32 b):=by rw [h]
theorem ret_bool' {a b:Bool} (h:a=b):Ending.returned (.bool a)=.returned (.bool b):=by rw [h]
theorem sz_bound {n:Int} (h:n≤62):Wd.sz n≤4611686018427387904:=by
 have:=Wd.sz_le (n:=n) (m:=62) (by omega)
 have e:Wd.sz 62=4611686018427387904:=by decide
 omega
theorem d1isWidth_any (n:Int) (w:World):Calls Tryz.prog 78 #[.int .i64 n] w fun e w'=>e=.returned (.bool (Wd.widB n))∧w=w':=by
 go_enter Tryz.func78, Tryz.ntmps78
 go_wp2
 all_goals go_ret
 all_goals exact ⟨ret_bool' (by unfold Wd.widB;grind),rfl⟩
theorem d1size_any (n:Int) (w:World) (h0:0≤n) (h1:n≤62):Calls Tryz.prog 79 #[.int .i64 n] w fun e w'=>e=.returned (.int .i64 (Wd.sz n))∧w=w':=by
 obtain ⟨k,rfl⟩:=Int.eq_ofNat_of_zero_le h0
 have hb:=sz_bound h1
 have hp:=Wd.sz_pos (k:Int)
 unfold Wd.sz at *
 rw [Int.toNat_natCast] at *
 have hk:k<64:=by omega
 go_enter Tryz.func79, Tryz.ntmps79
 go_wp2
 go_ret
 exact ⟨ret_int (by omega),rfl⟩
end Go.Proofs.YthfhamagopbgcaaGreat
namespace Go.Proofs.YthfhamagopbgcaaGreat
set_option linter.unusedSimpArgs false
set_option linter.unusedVariables false
open Go.RowKit

theorem Sign_any (n x:Int) (w:World) (hn:Wd.Wid n) (h0:0≤x) (h1:x<4294967296):Calls Tryz.prog 174 #[.int .i64 n,.int .u32 x] w fun e w'=>e=.returned (.int .i64 (Wd.sg n x))∧w=w':=by
 obtain ⟨hn1,hn2⟩:=hn
 have C1:=Lib.hid fun w1=>d1size_any (n-1) w1 (by omega) (by omega)
 have C2:=Lib.hid fun w1=>d1size_any n w1 (by omega) (by omega)
 have b2:=Wd.sz_32 ⟨hn1,hn2⟩
 have p1:=Wd.sz_pos (n-1)
 have p2:=Wd.sz_pos n
 have HS:Hid (Wd.sg n x=if Wd.sz (n-1)≤x then x-Wd.sz n else x):=rfl
 obtain ⟨s1,hs1⟩:∃ s,Wd.sz (n-1)=s:=⟨_,rfl⟩
 obtain ⟨s2,hs2⟩:∃ s,Wd.sz n=s:=⟨_,rfl⟩
 rw [hs1] at C1 HS p1
 rw [hs2] at C2 HS p2 b2
 clear hs1 hs2
 by_cases h:s1≤x
 all_goals
  go_enter Tryz.func174, Tryz.ntmps174
  go_wp2_with (first
    | (go_at_call 79;(with_reducible refine (C1.out _).mono ?_);rintro e w1 ⟨rfl,rfl⟩)
    | (go_at_call 79;(with_reducible refine (C2.out _).mono ?_);rintro e w1 ⟨rfl,rfl⟩))
  go_ret
  refine ⟨ret_int ?_,rfl⟩
  rw [HS.out]
  first | (rw [if_pos h]) | (rw [if_neg (by omega)])
theorem wrapn_any (n x:Int) (w:World) (hn:Wd.Wid n) (h0:-4611686018427387904≤x) (h1:x≤4611686018427387904):Calls Tryz.prog 202 #[.int .i64 n,.int .i64 x] w fun e w'=>e=.returned (.int .u32 (x % Wd.sz n))∧w=w':=by
 obtain ⟨hn1,hn2⟩:=hn
 have C2:=Lib.hid fun w1=>d1size_any n w1 (by omega) (by omega)
 have b2:=Wd.sz_32 ⟨hn1,hn2⟩
 have p2:=Wd.sz_pos n
 obtain ⟨s2,hs2⟩:∃ s,Wd.sz n=s:=⟨_,rfl⟩
 rw [hs2] at C2 p2 b2 ⊢
 clear hs2
 have HT:=Lib.hid (Wd.tmod_fix x s2 p2)
 have q1:x.tmod s2<s2:=Int.tmod_lt_of_pos x p2
 have q2:-s2<x.tmod s2:=by
  have:=Int.tmod_lt_of_pos (-x) p2
  rw [Int.neg_tmod] at this;omega
 have hne:s2≠0:=by omega
 have hz:(s2 == 0)=false:=by simpa using hne
 have hb1:-9223372036854775808≤x.tmod s2:=by omega
 have q3:=Int.emod_nonneg x hne
 have q4:=Int.emod_lt_of_pos x p2
 obtain ⟨r,hr⟩:∃ r,x.tmod s2=r:=⟨_,rfl⟩
 obtain ⟨m,hm⟩:∃ m,x % s2=m:=⟨_,rfl⟩
 rw [hr] at HT q1 q2 hb1
 rw [hm] at HT q3 q4 ⊢
 have HR:Hid (IntKind.i64.wrap (x.tmod s2)=r):=by show _=_;rw [hr];exact IntWalk.i64_in _ (by omega)
 clear hm
 by_cases h:r<0
 ·have HM:Hid (r+s2=m):=by have:=HT.out;rw [if_pos h] at this;exact this
  go_enter Tryz.func202, Tryz.ntmps202
  go_wp2_with (go_at_call 79;(with_reducible refine (C2.out _).mono ?_);rintro e w1 ⟨rfl,rfl⟩)
  go_ret
  exact ⟨ret_u32 HM.out,rfl⟩
 ·have HM:Hid (r=m):=by have:=HT.out;rw [if_neg h] at this;exact this
  go_enter Tryz.func202, Tryz.ntmps202
  go_wp2_with (go_at_call 79;(with_reducible refine (C2.out _).mono ?_);rintro e w1 ⟨rfl,rfl⟩)
  go_ret
  exact ⟨ret_u32 HM.out,rfl⟩
theorem widB_true {n:Int} (h:Wd.Wid n):Wd.widB n=true:=by unfold Wd.widB;have:=h.1;have:=h.2;simp;omega
theorem widB_wid {n:Int} (h:Wd.widB n=true):Wd.Wid n:=by unfold Wd.widB at h;simp at h;exact h
theorem IsWord_any (n x:Int) (w:World) (h0:0≤x) (h1:x<4294967296):Calls Tryz.prog 43 #[.int .i64 n,.int .u32 x] w fun e w'=>e=.returned (.bool (Wd.wordB n x))∧w=w':=by
 have C1:=Lib.hid fun w1=>d1isWidth_any n w1
 by_cases hw:Wd.Wid n
 ·have hn1:=hw.1
  have hn2:=hw.2
  have C2:=Lib.hid fun w1=>d1size_any n w1 (by omega) (by omega)
  have hs:=widB_true hw
  have HE:Hid (Wd.wordB n x=decide (x<Wd.sz n)):=by show _=_;unfold Wd.wordB;rw [hs];rfl
  rw [hs] at C1
  obtain ⟨s2,hs2⟩:∃ s,Wd.sz n=s:=⟨_,rfl⟩
  rw [hs2] at C2 HE
  clear hs hs2 hw
  go_enter Tryz.func43, Tryz.ntmps43
  go_wp2_with (first
    | (go_at_call 78;(with_reducible refine (C1.out _).mono ?_);rintro e w1 ⟨rfl,rfl⟩)
    | (go_at_call 79;(with_reducible refine (C2.out _).mono ?_);rintro e w1 ⟨rfl,rfl⟩))
  go_ret
  exact ⟨ret_bool HE.out.symm,rfl⟩
 ·have hs:Wd.widB n=false:=by
   cases h:Wd.widB n with
   | false=>rfl
   | true=>exact absurd (widB_wid h) hw
  have HE:Hid (Wd.wordB n x=false):=by show _=_;unfold Wd.wordB;rw [hs];rfl
  rw [hs] at C1
  clear hs hw
  go_enter Tryz.func43, Tryz.ntmps43
  go_wp2_with (go_at_call 78;(with_reducible refine (C1.out _).mono ?_);rintro e w1 ⟨rfl,rfl⟩)
  go_ret
  exact ⟨ret_bool HE.out.symm,rfl⟩
theorem d1Of_any (n x:Int) (w:World) (hn:Wd.Wid n) (h0:-4611686018427387904≤x) (h1:x≤4611686018427387904):Calls Tryz.prog 171 #[.int .i64 n,.int .i64 x] w fun e w'=>e=.returned (.tuple #[.int .u32 (x % Wd.sz n),.int .i64 0])∧w=w':=by
 have C1:=Lib.hid fun w1=>d1isWidth_any n w1
 have C2:=Lib.hid fun w1=>wrapn_any n x w1 hn h0 h1
 rw [widB_true hn] at C1
 obtain ⟨m,hm⟩:∃ m,x % Wd.sz n=m:=⟨_,rfl⟩
 rw [hm] at C2 ⊢
 clear hm hn
 go_enter Tryz.func171, Tryz.ntmps171
 go_wp2_with (first
   | (go_at_call 78;(with_reducible refine (C1.out _).mono ?_);rintro e w1 ⟨rfl,rfl⟩)
   | (go_at_call 202;(with_reducible refine (C2.out _).mono ?_);rintro e w1 ⟨rfl,rfl⟩))
 go_ret2
 exact ⟨rfl,rfl⟩
theorem down_any (x:Int) (k:Nat) (w:World) (hk:k≤64) (h0:-4611686018427387904≤x) (h1:x≤4611686018427387904):Calls Tryz.prog 220 #[.int .i64 x,.int .i64 k] w fun e w'=>e=.returned (.int .i64 (x / 2 ^ k))∧w=w':=by
 have HB:Hid (∀ i:Nat,-4611686018427387904≤x / 2 ^ i∧x / 2 ^ i≤4611686018427387904):=fun i=>by
  have hp:(0:Int)<2 ^ i:=Int.pow_pos (by decide)
  rcases Int.le_total 0 x with h | h
  ·have:=Int.ediv_nonneg h (Int.le_of_lt hp);have:=Int.ediv_le_self (2 ^ i) h;omega
  ·have h2:x / 2 ^ i≤0:=by
    have:=Int.ediv_le_ediv hp h
    simpa using this
   have h3:x≤x / 2 ^ i:=by
    rw [Int.le_ediv_iff_mul_le hp]
    have:x * 2 ^ i≤x * 1:=Int.mul_le_mul_of_nonpos_left h (by omega)
    omega
   omega
 go_enter Tryz.func220, Tryz.ntmps220
 go_wp2
 go_loop [0,5] (fun s i=>∃ j:Nat,j≤k∧i=.int .i64 j∧s=.int .i64 (x / 2 ^ j)) (fun _ i=>k-(intOf i).toNat)
 case atStart=>exact ⟨0,Nat.zero_le _,rfl,by simp⟩
 case round =>
  obtain ⟨j,hj,rfl,rfl⟩:=hrel
  have HS:=Lib.hid (Wd.down_step x j)
  obtain ⟨b1,b2⟩:=HB.out j
  obtain ⟨y,hy⟩:∃ y,x / 2 ^ j=y:=⟨_,rfl⟩
  rw [hy] at HS b1 b2 ⊢
  by_cases hlt:j<k
  ·have z1:(j:Int)<(k:Int):=by omega
   clear hy hlt
   by_cases hneg:y<0
   all_goals
    go_wp2
    go_round
    case rel=>exact ⟨j+1,by omega,by go_num,by rw [← HS.out];first | (rw [if_pos hneg]) | (rw [if_neg (by omega)])⟩
    case measure=>simp [intOf] <;> omega
  ·obtain rfl:j=k:=by omega
   have HY:=Lib.hid hy
   clear hy
   go_wp2
   go_ret
   exact ⟨ret_int HY.out.symm,rfl⟩
end Go.Proofs.YthfhamagopbgcaaGreat
namespace Go.Proofs.YthfhamagopbgcaaGreat
set_option linter.unusedSimpArgs false
set_option linter.unusedVariables false
open Go.RowKit

theorem word_32 {n a:Int} (hn:Wd.Wid n) (h:Wd.Word n a):0≤a∧a<4294967296:=by
 have:=Wd.sz_32 hn
 have:=h.1
 have:=h.2
 omega
theorem wordB_true {n a:Int} (hn:Wd.Wid n) (h:Wd.Word n a):Wd.wordB n a=true:=by
 unfold Wd.wordB
 rw [widB_true hn]
 simpa using h.2
theorem two_ok (o n a b:Int) (w:World) (ho:1≤o∧o≤13) (hn:Wd.Wid n) (ha:Wd.Word n a) (hb:Wd.Word n b):Calls Tryz.prog 203 #[.int .i64 o,.int .i64 n,.int .u32 a,.int .u32 b] w fun e w'=>e=.returned (.int .i64 0)∧w=w':=by
 obtain ⟨a1,a2⟩:=word_32 hn ha
 obtain ⟨b1,b2⟩:=word_32 hn hb
 obtain ⟨o1,o2⟩:=ho
 have C1:=Lib.hid fun w1=>d1isWidth_any n w1
 have C2:=Lib.hid fun w1=>IsWord_any n a w1 a1 a2
 have C3:=Lib.hid fun w1=>IsWord_any n b w1 b1 b2
 rw [widB_true hn] at C1
 rw [wordB_true hn ha] at C2
 rw [wordB_true hn hb] at C3
 clear hn ha hb
 go_enter Tryz.func203, Tryz.ntmps203
 go_wp2_with (first
   | (go_at_call 78;(with_reducible refine (C1.out _).mono ?_);rintro e w1 ⟨rfl,rfl⟩)
   | (go_at_call 43;(with_reducible refine (C2.out _).mono ?_);rintro e w1 ⟨rfl,rfl⟩)
   | (go_at_call 43;(with_reducible refine (C3.out _).mono ?_);rintro e w1 ⟨rfl,rfl⟩))
 go_ret
 exact ⟨rfl,rfl⟩
/-- What do hands back. -/
def doRet (z:Option Int):Ending:=.returned (.tuple #[.int .u32 (z.getD 0),.bool z.isSome])
theorem mul_range {x y s:Int} (hs:0≤s) (hs2:s≤2147483648) (h1:-s≤x) (h2:x≤s) (h3:-s≤y) (h4:y≤s):-4611686018427387904≤x * y∧x * y≤4611686018427387904:=by
 have hx:x.natAbs≤2147483648:=by omega
 have hy:y.natAbs≤2147483648:=by omega
 have hm:(x * y).natAbs≤2147483648 * 2147483648:=by rw [Int.natAbs_mul];exact Nat.mul_le_mul hx hy
 omega
theorem sg_cong {n a:Int}:∃ k,Wd.sg n a=a-Wd.sz n * k:=by
 unfold Wd.sg
 split
 ·exact ⟨1,by omega⟩
 ·exact ⟨0,by omega⟩
theorem mul_mod {n a b:Int}:(Wd.sg n a * Wd.sg n b) % Wd.sz n=(a * b) % Wd.sz n:=by
 obtain ⟨k,hk⟩:=@sg_cong n a
 obtain ⟨j,hj⟩:=@sg_cong n b
 rw [hk,hj,Int.mul_emod,Int.sub_mul_emod_self_left,Int.sub_mul_emod_self_left,← Int.mul_emod]
set_option maxHeartbeats 2000000 in
theorem do_low (o n a b:Int) (w:World) (ho:o=1∨o=2∨o=3) (hn:Wd.Wid n) (ha:Wd.Word n a) (hb:Wd.Word n b):Calls Tryz.prog 204 #[.int .i64 o,.int .i64 n,.int .u32 a,.int .u32 b] w fun e w'=>e=doRet (Wd.op o n a b)∧w=w':=by
 obtain ⟨a1,a2⟩:=word_32 hn ha
 obtain ⟨b1,b2⟩:=word_32 hn hb
 have hh:=Wd.sz_half hn
 have h32:=Wd.sz_32 hn
 have hp:=Wd.sz_pos (n-1)
 obtain ⟨x1,x2⟩:=Wd.sg_range hn ha
 obtain ⟨y1,y2⟩:=Wd.sg_range hn hb
 obtain ⟨m1,m2⟩:=mul_range (s:=Wd.sz (n-1)) (by omega) (by omega) x1 (Int.le_of_lt x2) y1 (Int.le_of_lt y2)
 have CS:=Lib.hid fun w1=>Sign_any n a w1 hn a1 a2
 have CT:=Lib.hid fun w1=>Sign_any n b w1 hn b1 b2
 have CA:=Lib.hid fun w1=>wrapn_any n (a+b) w1 hn (by omega) (by omega)
 have CB:=Lib.hid fun w1=>wrapn_any n (a-b) w1 hn (by omega) (by omega)
 have CM:=Lib.hid fun w1=>wrapn_any n (Wd.sg n a * Wd.sg n b) w1 hn m1 m2
 rw [mul_mod] at CM
 have HE1:Hid (Wd.op 1 n a b=some ((a+b) % Wd.sz n)):=rfl
 have HE2:Hid (Wd.op 2 n a b=some ((a-b) % Wd.sz n)):=rfl
 have HE3:Hid (Wd.op 3 n a b=some ((a * b) % Wd.sz n)):=rfl
 obtain ⟨x,hx⟩:∃ x,Wd.sg n a=x:=⟨_,rfl⟩
 obtain ⟨y,hy⟩:∃ y,Wd.sg n b=y:=⟨_,rfl⟩
 rw [hx] at CS CM x1 x2 m1 m2
 rw [hy] at CT CM y1 y2 m1 m2
 obtain ⟨r1,hr1⟩:∃ y,(a+b) % Wd.sz n=y:=⟨_,rfl⟩
 obtain ⟨r2,hr2⟩:∃ y,(a-b) % Wd.sz n=y:=⟨_,rfl⟩
 obtain ⟨r3,hr3⟩:∃ y,(a * b) % Wd.sz n=y:=⟨_,rfl⟩
 rw [hr1] at CA HE1
 rw [hr2] at CB HE2
 rw [hr3] at CM HE3
 have HEA:Hid (∀ z,Wd.op o n a b=some z→doRet (Wd.op o n a b)=.returned (.tuple #[.int .u32 z,.bool true])):=fun z h=>by rw [h];rfl
 clear hx hy hr1 hr2 hr3 hn ha hb hh h32 hp x1 x2 y1 y2
 rcases ho with rfl | rfl | rfl
 all_goals
  go_enter Tryz.func204, Tryz.ntmps204
  go_wp2_with (first
    | (go_at_call 174;(with_reducible refine (CS.out _).mono ?_);rintro e w1 ⟨rfl,rfl⟩)
    | (go_at_call 174;(with_reducible refine (CT.out _).mono ?_);rintro e w1 ⟨rfl,rfl⟩)
    | (go_at_call 202;(with_reducible refine (CA.out _).mono ?_);rintro e w1 ⟨rfl,rfl⟩)
    | (go_at_call 202;(with_reducible refine (CB.out _).mono ?_);rintro e w1 ⟨rfl,rfl⟩)
    | (go_at_call 202;(with_reducible refine (CM.out _).mono ?_);rintro e w1 ⟨rfl,rfl⟩))
  go_ret2
  first
   | exact ⟨(HEA.out _ HE1.out).symm,rfl⟩
   | exact ⟨(HEA.out _ HE2.out).symm,rfl⟩
   | exact ⟨(HEA.out _ HE3.out).symm,rfl⟩
end Go.Proofs.YthfhamagopbgcaaGreat

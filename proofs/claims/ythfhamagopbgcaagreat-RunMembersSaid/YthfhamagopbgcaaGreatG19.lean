/- Parts: Wd Wf We Zv Sa. -/
import Derived.WalkKit
import Derived.Test.YthfhamagopbgcaaGreatG00
namespace Go.Proofs.YthfhamagopbgcaaGreat
set_option linter.unusedSimpArgs false
set_option linter.unusedVariables false
open Go.RowKit
theorem wrap_u32 (z:Int):IntKind.u32.wrap z=z % 4294967296:=by
 unfold IntKind.wrap
 simp [IntKind.signed,IntKind.bits]
namespace Wd

/-- 2^n. -/
def sz (n:Int):Int:=2 ^ n.toNat
/-- The signed value of a word. -/
def sg (n a:Int):Int:=if sz (n-1)≤a then a-sz n else a
def Wid (n:Int):Prop:=1≤n∧n≤32
def Word (n a:Int):Prop:=0≤a∧a<sz n
def widB (n:Int):Bool:=decide (1≤n) && decide (n≤32)
def wordB (n a:Int):Bool:=widB n && decide (a<sz n)
/-- The word that an operation makes, if there is one. -/
def op (o n a b:Int):Option Int :=
 if o=1 then some ((a+b) % sz n)
 else if o=2 then some ((a-b) % sz n)
 else if o=3 then some ((a * b) % sz n)
 else if o=4 then (if b=0 then none else some (a / b))
 else if o=5 then (if b=0 then none else some (a % b))
 else if o=6 then (if b=0∨(sg n a=-sz (n-1)∧sg n b=-1) then none else some ((sg n a).tdiv (sg n b) % sz n))
 else if o=7 then (if b=0∨(sg n a=-sz (n-1)∧sg n b=-1) then none else some ((sg n a).tmod (sg n b) % sz n))
 else if o=8 then some (bits .and .u32 a b)
 else if o=9 then some (bits .or .u32 a b)
 else if o=10 then some (bits .xor .u32 a b)
 else if n≤b then none
 else if o=11 then some (a * 2 ^ b.toNat % sz n)
 else if o=12 then some (a / 2 ^ b.toNat)
 else some (sg n a / 2 ^ b.toNat % sz n)
/-- Whether flags are broken, where there is a word. -/
def brk (o fl n a b:Int):Bool :=
 let u:=fl % 2 == 1
 let s:=fl / 2 % 2 == 1
 let e:=fl / 4 % 2 == 1
 let x:=sg n a
 let y:=sg n b
 if o=1 then u && decide (sz n≤a+b) || s && (decide (x+y < -sz (n-1)) || decide (sz (n-1)≤x+y))
 else if o=2 then u && decide (a<b) || s && (decide (x-y < -sz (n-1)) || decide (sz (n-1)≤x-y))
 else if o=3 then u && decide (sz n≤a * b) || s && (decide (x * y < -sz (n-1)) || decide (sz (n-1)≤x * y))
 else if o=11 then u && decide (sz n≤a * 2 ^ b.toNat) || s && (decide (x * 2 ^ b.toNat < -sz (n-1)) || decide (sz (n-1)≤x * 2 ^ b.toNat))
 else if o=4 then e && decide (a % b≠0)
 else if o=6 then e && decide (x.tmod y≠0)
 else if o=12∨o=13 then e && decide (a % 2 ^ b.toNat≠0)
 else false
def broken (o fl n a b:Int):Bool:=(op o n a b).isSome && brk o fl n a b
/-- A predicate of two numbers. -/
def cmpN (p a b:Int):Bool :=
 if p=0 then a == b else if p=1 then a != b
 else if p=2∨p=6 then decide (a<b) else if p=3∨p=7 then decide (a≤b)
 else if p=4∨p=8 then decide (b<a) else decide (b≤a)
def cmp (p n a b:Int):Bool:=if 6≤p then cmpN p (sg n a) (sg n b) else cmpN p a b
/-- A word made wider or narrower. -/
def ext (o frm tw x:Int):Int:=if o=16 then x else if o=17 then sg frm x % sz tw else x % sz tw
/-- Lane by lane, from the lane at a place on. -/
def lanes (o lane:Int):Nat→Int→Int→Int
 | 0,_,_=>0
 | k+1,a,b=>(if o=19 then a % sz lane+b % sz lane else a % sz lane-b % sz lane) % sz lane+sz lane * lanes o lane k (a / sz lane) (b / sz lane)
/-! ### Small laws -/
theorem sz_pos (n:Int):0<sz n:=by unfold sz;exact Int.pow_pos (by decide)
theorem sz_nat (n:Int):sz n=((2 ^ n.toNat:Nat):Int):=by unfold sz;simp
theorem sz_le {n m:Int} (h:n.toNat≤m.toNat):sz n≤sz m:=by
 rw [sz_nat,sz_nat];exact_mod_cast Nat.pow_le_pow_right (by decide) h
theorem sz_32 {n:Int} (h:Wid n):sz n≤4294967296:=by
 have:=sz_le (n:=n) (m:=32) (by have:=h.2;omega)
 have e:sz 32=4294967296:=by decide
 omega
theorem sz_half {n:Int} (h:Wid n):sz n=2 * sz (n-1):=by
 unfold sz
 have:n.toNat=(n-1).toNat+1:=by have:=h.1;omega
 rw [this,Int.pow_succ];omega
theorem sg_range {n a:Int} (hn:Wid n) (ha:Word n a):-sz (n-1)≤sg n a∧sg n a<sz (n-1):=by
 have h1:=sz_half hn
 obtain ⟨h2,h3⟩:=ha
 unfold sg
 split <;> omega
theorem mod_word {n:Int} (z:Int):Word n (z % sz n):=⟨Int.emod_nonneg _ (by have:=sz_pos n;omega),Int.emod_lt_of_pos _ (sz_pos n)⟩
theorem ofInt_nat (n:Nat) (h:n<4294967296):(BitVec.ofInt 32 (n:Int)).toNat=n:=by
 rw [BitVec.ofInt_natCast,BitVec.toNat_ofNat];exact Nat.mod_eq_of_lt h
theorem wrap_in (z:Int) (h0:0≤z) (h1:z<4294967296):IntKind.u32.wrap z=z:=by rw [wrap_u32];omega
theorem bits_word {n a b:Int} (hn:Wid n) (ha:Word n a) (hb:Word n b):Word n (bits .and .u32 a b)∧Word n (bits .or .u32 a b)∧Word n (bits .xor .u32 a b):=by
 obtain ⟨x,rfl⟩:=Int.eq_ofNat_of_zero_le ha.1
 obtain ⟨y,rfl⟩:=Int.eq_ofNat_of_zero_le hb.1
 have h32:=sz_32 hn
 have hx:x<2 ^ n.toNat:=by have:=ha.2;rw [sz_nat] at this;exact_mod_cast this
 have hy:y<2 ^ n.toNat:=by have:=hb.2;rw [sz_nat] at this;exact_mod_cast this
 have hp:(2 ^ n.toNat:Nat)≤4294967296:=by rw [sz_nat] at h32;generalize 2 ^ n.toNat=m at h32 ⊢;omega
 have key:∀ z:Nat,z<2 ^ n.toNat→Word n (IntKind.u32.wrap (z:Int)):=fun z hz=>by
  rw [wrap_in _ (by omega) (by omega)]
  exact ⟨by omega,by rw [sz_nat];exact_mod_cast hz⟩
 refine ⟨?_,?_,?_⟩
 ·show Word n (IntKind.u32.wrap (((BitVec.ofInt 32 (x:Int) &&& BitVec.ofInt 32 (y:Int)).toNat:Nat):Int))
  rw [BitVec.toNat_and,ofInt_nat _ (by omega),ofInt_nat _ (by omega)]
  exact key _ (Nat.lt_of_le_of_lt Nat.and_le_left hx)
 ·show Word n (IntKind.u32.wrap (((BitVec.ofInt 32 (x:Int) ||| BitVec.ofInt 32 (y:Int)).toNat:Nat):Int))
  rw [BitVec.toNat_or,ofInt_nat _ (by omega),ofInt_nat _ (by omega)]
  exact key _ (Nat.or_lt_two_pow hx hy)
 ·show Word n (IntKind.u32.wrap (((BitVec.ofInt 32 (x:Int) ^^^ BitVec.ofInt 32 (y:Int)).toNat:Nat):Int))
  rw [BitVec.toNat_xor,ofInt_nat _ (by omega),ofInt_nat _ (by omega)]
  exact key _ (Nat.xor_lt_two_pow hx hy)
theorem op_word {o n a b z:Int} (hn:Wid n) (ha:Word n a) (hb:Word n b) (h:op o n a b=some z):Word n z:=by
 obtain ⟨b1,b2,b3⟩:=bits_word hn ha hb
 have hd:∀ k:Int,0≤k→0≤a / k∧a / k≤a:=fun k hk=>⟨Int.ediv_nonneg ha.1 hk,Int.ediv_le_self _ ha.1⟩
 have hq:∀ k:Int,0≤k→Word n (a / k):=fun k hk=>⟨(hd k hk).1,by have:=(hd k hk).2;have:=ha.2;omega⟩
 have hp:(0:Int)≤2 ^ b.toNat:=Int.le_of_lt (Int.pow_pos (by decide))
 have some_in:∀ {c:Prop} [Decidable c] {y:Int},(if c then none else some y)=some z→Word n y→Word n z:=fun h hy=>by
  split at h
  ·cases h
  ·injection h with h;rw [← h];exact hy
 unfold op at h
 by_cases h1:o=1
 ·rw [if_pos h1] at h;injection h with h;rw [← h];exact mod_word _
 rw [if_neg h1] at h
 by_cases h2:o=2
 ·rw [if_pos h2] at h;injection h with h;rw [← h];exact mod_word _
 rw [if_neg h2] at h
 by_cases h3:o=3
 ·rw [if_pos h3] at h;injection h with h;rw [← h];exact mod_word _
 rw [if_neg h3] at h
 by_cases h4:o=4
 ·rw [if_pos h4] at h;exact some_in h (hq b hb.1)
 rw [if_neg h4] at h
 by_cases h5:o=5
 ·rw [if_pos h5] at h
  by_cases hz:b=0
  ·rw [if_pos hz] at h;cases h
  ·rw [if_neg hz] at h
   injection h with h
   have q1:=Int.emod_nonneg a (b:=b) hz
   have q2:=Int.emod_lt_of_pos a (b:=b) (by have:=hb.1;omega)
   have:=hb.2
   exact ⟨by omega,by omega⟩
 rw [if_neg h5] at h
 by_cases h6:o=6
 ·rw [if_pos h6] at h;exact some_in h (mod_word _)
 rw [if_neg h6] at h
 by_cases h7:o=7
 ·rw [if_pos h7] at h;exact some_in h (mod_word _)
 rw [if_neg h7] at h
 by_cases h8:o=8
 ·rw [if_pos h8] at h;injection h with h;rw [← h];exact b1
 rw [if_neg h8] at h
 by_cases h9:o=9
 ·rw [if_pos h9] at h;injection h with h;rw [← h];exact b2
 rw [if_neg h9] at h
 by_cases h10:o=10
 ·rw [if_pos h10] at h;injection h with h;rw [← h];exact b3
 rw [if_neg h10] at h
 by_cases hnb:n≤b
 ·rw [if_pos hnb] at h;cases h
 rw [if_neg hnb] at h
 by_cases h11:o=11
 ·rw [if_pos h11] at h;injection h with h;rw [← h];exact mod_word _
 rw [if_neg h11] at h
 by_cases h12:o=12
 ·rw [if_pos h12] at h;injection h with h;rw [← h];exact hq _ hp
 rw [if_neg h12] at h
 injection h with h;rw [← h];exact mod_word _
/-! ### The document's ways -/
theorem tmod_fix (x s:Int) (hs:0<s):(if x.tmod s<0 then x.tmod s+s else x.tmod s)=x % s:=by
 have h1:=Int.mul_tdiv_add_tmod x s
 have h2:x.tmod s<s:=Int.tmod_lt_of_pos x hs
 have h3:-s<x.tmod s:=by
  rcases Int.le_total 0 x with h | h
  ·have:=Int.tmod_nonneg s h;omega
  ·have:=Int.tmod_lt_of_pos (-x) hs
   rw [Int.neg_tmod] at this;omega
 have key:∀ (q r:Int),x=s * q+r→0≤r→r<s→r=x % s:=fun q r e h0 hlt=>by
  rw [e,Int.mul_add_emod_self_left,Int.emod_eq_of_lt h0 hlt]
 split
 ·exact key (x.tdiv s-1) _ (by rw [Int.mul_sub];omega) (by omega) (by omega)
 ·exact key (x.tdiv s) _ h1.symm (by omega) h2
theorem down_step (x:Int) (k:Nat):(if x / 2 ^ k<0 then -((1-x / 2 ^ k) / 2) else x / 2 ^ k / 2)=x / 2 ^ (k+1):=by
 have e:x / 2 ^ (k+1)=x / 2 ^ k / 2:=by rw [Int.pow_succ,Int.ediv_ediv_of_nonneg (Int.le_of_lt (Int.pow_pos (by decide)))]
 rw [e]
 generalize x / 2 ^ k=y
 split <;> omega
theorem shl_step (a n:Int) (k:Nat):2 * (a * 2 ^ k % sz n) % sz n=a * 2 ^ (k+1) % sz n:=by
 rw [Int.mul_emod,Int.emod_emod_of_dvd _ (Int.dvd_refl _),← Int.mul_emod,Int.pow_succ]
 congr 1
 rw [Int.mul_comm 2,Int.mul_assoc]
/-- Bit by bit. -/
def bw (o:Int) (x y:Nat):Nat:=if o=8 then x &&& y else if o=9 then x ||| y else x ^^^ y
def bt (o:Int) (p q:Int):Int:=if o=8 then p * q else if o=9 then max p q else (p+q) % 2
theorem bw_step (o:Int) (x y i:Nat):((bw o x y % 2 ^ (i+1):Nat):Int)=((bw o x y % 2 ^ i:Nat):Int)+bt o ((x:Int) / 2 ^ i % 2) ((y:Int) / 2 ^ i % 2) * 2 ^ i:=by
 have hb:((bw o x y).testBit i).toNat=(bt o ((x:Int) / 2 ^ i % 2) ((y:Int) / 2 ^ i % 2)).toNat∧0≤bt o ((x:Int) / 2 ^ i % 2) ((y:Int) / 2 ^ i % 2):=by
  have hx:(x:Int) / 2 ^ i % 2=((x.testBit i).toNat:Nat):=by rw [Nat.toNat_testBit];simp
  have hy:(y:Int) / 2 ^ i % 2=((y.testBit i).toNat:Nat):=by rw [Nat.toNat_testBit];simp
  rw [hx,hy]
  unfold bw bt
  by_cases h8:o=8
  ·rw [if_pos h8,if_pos h8,Nat.testBit_and]
   cases x.testBit i <;> cases y.testBit i <;> decide
  ·rw [if_neg h8,if_neg h8]
   by_cases h9:o=9
   ·rw [if_pos h9,if_pos h9,Nat.testBit_or]
    cases x.testBit i <;> cases y.testBit i <;> decide
   ·rw [if_neg h9,if_neg h9,Nat.testBit_xor]
    cases x.testBit i <;> cases y.testBit i <;> decide
 rw [Nat.pow_succ,Nat.mod_mul,← Nat.toNat_testBit,hb.1]
 push_cast
 rw [Int.toNat_of_nonneg hb.2,Int.mul_comm]
theorem bw_bits (o:Int) {x y n:Nat} (hn:n≤32) (hx:x<2 ^ n) (hy:y<2 ^ n):((bw o x y % 2 ^ n:Nat):Int)=if o=8 then bits .and .u32 (x:Int) (y:Int) else if o=9 then bits .or .u32 (x:Int) (y:Int) else bits .xor .u32 (x:Int) (y:Int):=by
 have hp:2 ^ n≤4294967296:=by
  have:=Nat.pow_le_pow_right (show 0<2 by decide) hn
  have e:2 ^ 32=4294967296:=by decide
  omega
 have key:∀ z:Nat,z<2 ^ n→IntKind.u32.wrap (z:Int)=((z % 2 ^ n:Nat):Int):=fun z hz=>by
  rw [wrap_in _ (by omega) (by omega),Nat.mod_eq_of_lt hz]
 unfold bw
 by_cases h8:o=8
 ·rw [if_pos h8,if_pos h8]
  show _=IntKind.u32.wrap (((BitVec.ofInt 32 (x:Int) &&& BitVec.ofInt 32 (y:Int)).toNat:Nat):Int)
  rw [BitVec.toNat_and,ofInt_nat _ (by omega),ofInt_nat _ (by omega)]
  exact (key _ (Nat.lt_of_le_of_lt Nat.and_le_left hx)).symm
 ·rw [if_neg h8,if_neg h8]
  by_cases h9:o=9
  ·rw [if_pos h9,if_pos h9]
   show _=IntKind.u32.wrap (((BitVec.ofInt 32 (x:Int) ||| BitVec.ofInt 32 (y:Int)).toNat:Nat):Int)
   rw [BitVec.toNat_or,ofInt_nat _ (by omega),ofInt_nat _ (by omega)]
   exact (key _ (Nat.or_lt_two_pow hx hy)).symm
  ·rw [if_neg h9,if_neg h9]
   show _=IntKind.u32.wrap (((BitVec.ofInt 32 (x:Int) ^^^ BitVec.ofInt 32 (y:Int)).toNat:Nat):Int)
   rw [BitVec.toNat_xor,ofInt_nat _ (by omega),ofInt_nat _ (by omega)]
   exact (key _ (Nat.xor_lt_two_pow hx hy)).symm
end Wd
end Go.Proofs.YthfhamagopbgcaaGreat
namespace Go.Proofs.YthfhamagopbgcaaGreat
set_option linter.unusedSimpArgs false
set_option linter.unusedVariables false
open Go.RowKit
namespace Wd
theorem mask_and {n x:Int} (hn:Wid n) (h0:0≤x) (h1:x<4294967296):bits .and .u32 x (sz n-1)=x % sz n:=by
 obtain ⟨y,rfl⟩:=Int.eq_ofNat_of_zero_le h0
 have hy:y<4294967296:=by omega
 have h32:=sz_32 hn
 have hp:=sz_pos n
 rw [sz_nat] at h32 hp ⊢
 generalize hm:n.toNat=m at h32 hp ⊢
 have hs:((2 ^ m:Nat):Int)-1=((2 ^ m-1:Nat):Int):=by
  have:=Nat.two_pow_pos m
  omega
 have hq:2 ^ m-1<4294967296:=by
  generalize 2 ^ m=q at h32 hp ⊢
  omega
 rw [hs]
 show IntKind.u32.wrap (((BitVec.ofInt 32 (y:Int) &&& BitVec.ofInt 32 ((2 ^ m-1:Nat):Int)).toNat:Nat):Int)=_
 rw [BitVec.toNat_and,ofInt_nat _ hy,ofInt_nat _ hq,Nat.and_two_pow_sub_one_eq_mod,wrap_in _ (by omega) (by have:=Nat.mod_le y (2 ^ m);omega)]
 simp
theorem sz_dvd {n:Int} (hn:Wid n):sz n ∣ 4294967296:=by
 have e:(4294967296:Int)=2 ^ 32:=by decide
 rw [e]
 unfold sz
 have h:=hn.2
 exact ⟨2 ^ (32-n.toNat),by rw [← Int.pow_add];congr 1;omega⟩
theorem mod_mod {n:Int} (z:Int) (hn:Wid n):z % 4294967296 % sz n=z % sz n:=Int.emod_emod_of_dvd z (sz_dvd hn)
/-- A word of 32 bits under a mask. -/
theorem wrap_mask {n:Int} (z:Int) (hn:Wid n):bits .and .u32 (z % 4294967296) (sz n-1)=z % sz n:=by
 rw [mask_and hn (by omega) (by omega),mod_mod z hn]
end Wd
end Go.Proofs.YthfhamagopbgcaaGreat
namespace Go.Proofs.YthfhamagopbgcaaGreat
set_option linter.unusedSimpArgs false
set_option linter.unusedVariables false
open Go.RowKit
namespace Wd
def lane1 (o S x y:Int):Int:=(if o=19 then x % S+y % S else x % S-y % S) % S
theorem lane1_range (o S x y:Int) (hS:0<S):0≤lane1 o S x y∧lane1 o S x y<S:=⟨Int.emod_nonneg _ (by omega),Int.emod_lt_of_pos _ hS⟩
theorem div_pow (a S:Int) (hS:0<S) (k:Nat):a / S / S ^ k=a / S ^ (k+1):=by
 rw [Int.ediv_ediv_of_nonneg (Int.le_of_lt hS),Int.pow_succ,Int.mul_comm]
theorem lanes_succ (o l:Int) (k:Nat) (a b:Int):lanes o l (k+1) a b=lane1 o (sz l) a b+sz l * lanes o l k (a / sz l) (b / sz l):=rfl
theorem lanes_step (o l:Int) (k:Nat):∀ a b:Int,lanes o l (k+1) a b=lanes o l k a b+lane1 o (sz l) (a / sz l ^ k) (b / sz l ^ k) * sz l ^ k:=by
 have hS:=sz_pos l
 induction k with
 | zero=>intro a b;rw [lanes_succ];simp [lanes]
 | succ k ih =>
  intro a b
  rw [lanes_succ,ih,lanes_succ o l k a b,div_pow _ _ hS,div_pow _ _ hS,Int.mul_add,Int.pow_succ (sz l) k,Int.add_assoc]
  congr 2
  rw [← Int.mul_assoc,Int.mul_comm (sz l) (lane1 _ _ _ _),Int.mul_assoc,Int.mul_comm (sz l) (sz l ^ k)]
theorem lanes_range (o l:Int) (k:Nat) (a b:Int):0≤lanes o l k a b∧lanes o l k a b<sz l ^ k:=by
 have hS:=sz_pos l
 induction k generalizing a b with
 | zero=>simp [lanes]
 | succ k ih =>
  obtain ⟨h1,h2⟩:=ih (a / sz l) (b / sz l)
  obtain ⟨h3,h4⟩:=lane1_range o (sz l) a b hS
  rw [lanes_succ,Int.pow_succ,Int.mul_comm (sz l ^ k)]
  have h5:0≤sz l * lanes o l k (a / sz l) (b / sz l):=Int.mul_nonneg (by omega) h1
  have h6:sz l * (lanes o l k (a / sz l) (b / sz l)+1)≤sz l * sz l ^ k:=Int.mul_le_mul_of_nonneg_left (by omega) (by omega)
  rw [Int.mul_add] at h6
  omega
theorem sz_pow (m k:Nat):sz (m:Int) ^ k=sz ((m * k:Nat):Int):=by
 unfold sz
 rw [Int.toNat_natCast,Int.toNat_natCast,Int.pow_mul]
end Wd
end Go.Proofs.YthfhamagopbgcaaGreat
namespace Go.Proofs.YthfhamagopbgcaaGreat
set_option linter.unusedSimpArgs false
set_option linter.unusedVariables false
namespace Ref

/-- Pairs in ascending order of their first numbers, those from 0 to n - 1. -/
def sortP (n:Nat) (L:List (Int × Int)):List (Int × Int):=(List.range n).flatMap fun b:Nat=>L.filter fun p=>decide (p.1=(b:Int))
/-- No two first numbers are the same, but for those below 0. -/
def Apart (L:List (Int × Int)):Prop:=L.Pairwise fun a b=>a.1=b.1→a.1<0

/-! ### Where values and blocks go -/
theorem total_append (a b:List (List Ins)):total (a++b)=total a+total b:=by simp [total]
theorem number_next (f:Fn) {b:Nat} {l:List Ins} (h:f.blocks[b]?=some l):number f (b+1)=number f b+l.length:=by
 unfold number
 rw [total_take_succ _ _ _ h];omega
theorem total_take_le (bs:List (List Ins)):∀ (i j:Nat),i≤j→total (bs.take i)≤total (bs.take j):=by
 intro i j h
 have:bs.take j=bs.take i++(bs.drop i).take (j-i):=by
  rw [show j=i+(j-i) by omega,List.take_add,show i+(j-i)-i=j-i by omega]
 rw [this,total_append];omega
theorem number_le (f:Fn) {b c:Nat} {l:List Ins} (h:f.blocks[b]?=some l) (hc:b<c):number f b+l.length≤number f c:=by
 have h1:=number_next f h
 have h2:=total_take_le f.blocks (b+1) c (by omega)
 unfold number at h1 ⊢
 omega
theorem number_count (f:Fn) {b:Nat} {l:List Ins} (h:f.blocks[b]?=some l):number f b+l.length≤count f:=by
 have hb:=(List.getElem?_eq_some_iff.1 h).1
 unfold count
 exact number_le f h hb
/-- The number of the first value behind some blocks. -/
def start (f:Fn) (o:List Nat):Nat:=f.params.length+(o.map fun b=>(f.blocks.getD b []).length).sum
/-- The new number of a value; -1 if it is left out. -/
def numFrom (f:Fn) (v:Int):List Nat→Nat→Int
 | [],_=>-1
 | b::r,n=>if (number f b:Int)≤v∧v<number f b+(f.blocks.getD b []).length then n+(v-number f b) else numFrom f v r (n+(f.blocks.getD b []).length)
def num (f:Fn) (o:List Nat) (v:Int):Int:=if v<f.params.length then v else numFrom f v o f.params.length
/-- The new number of a block; -1 if it is left out. -/
def toFrom (b:Int):List Nat→Nat→Int
 | [],_=>-1
 | c::r,k=>if b=c then k else toFrom b r (k+1)
def toOf (o:List Nat) (b:Int):Int:=toFrom b o 0
def phiL (f:Fn) (o:List Nat) (x:Ins):List (Int × Int):=(x.to.zip x.args).map fun p=>(toOf o p.1,num f o p.2)
def renum (f:Fn) (o:List Nat) (x:Ins):Ins :=
 if x.op=28 then ⟨x.op,x.width,x.flags,(sortP f.blocks.length (phiL f o x)).map (·.2),x.imm,(sortP f.blocks.length (phiL f o x)).map (·.1)⟩
 else ⟨x.op,x.width,x.flags,x.args.map (num f o),x.imm,x.to.map (toOf o)⟩
/-- Some blocks in a new order. -/
def moved (f:Fn) (o:List Nat):Fn:={ f with blocks:=o.map fun b=>(f.blocks.getD b []).map (renum f o) }

theorem toFrom_get:∀ (o:List Nat) (k j c:Nat),o[j]?=some c→o.Nodup→toFrom c o k=(k+j:Nat)
 | [],k,j,c,h,_=>by simp at h
 | d::r,k,0,c,h,_=>by
  simp at h;subst h
  simp [toFrom]
 | d::r,k,j+1,c,h,hn=>by
  obtain ⟨h1,h2⟩:=List.nodup_cons.1 hn
  have hm:c ∈ r:=List.mem_of_getElem? (by simpa using h)
  rw [toFrom,if_neg (fun e=>h1 (by have e':c=d:=by omega
                                   exact e' ▸ hm)),toFrom_get r (k+1) j c (by simpa using h) h2]
  omega
theorem toOf_get {o:List Nat} (hn:o.Nodup) {k b:Nat} (h:o[k]?=some b):toOf o b=k:=by
 unfold toOf;rw [toFrom_get o 0 k b h hn];simp
theorem toOf_mem {o:List Nat} (hn:o.Nodup) {b:Nat} (h:b ∈ o):∃ k:Nat,o[k]?=some b∧toOf o b=k:=by
 obtain ⟨k,hk⟩:=List.getElem?_of_mem h
 exact ⟨k,hk,toOf_get hn hk⟩
theorem getD_some {f:Fn} {b:Nat} {l:List Ins} (h:f.blocks[b]?=some l):f.blocks.getD b []=l:=by
 rw [List.getD_eq_getElem?_getD,h];rfl
theorem numFrom_at (f:Fn) {b i:Nat} {l:List Ins} (hl:f.blocks[b]?=some l) (hi:i<l.length):∀ (o:List Nat) (n k:Nat),o.Nodup→(∀ c ∈ o,c<f.blocks.length)→o[k]?=some b →
  numFrom f ((number f b+i:Nat):Int) o n=((n+((o.take k).map fun b=>(f.blocks.getD b []).length).sum+i:Nat):Int)
 | [],n,k,_,_,h=>by simp at h
 | c::r,n,0,_,_,h=>by
  simp at h;subst h
  rw [numFrom,getD_some hl,if_pos (by omega)]
  simp;omega
 | c::r,n,k+1,hn,hc,h=>by
  obtain ⟨h1,h2⟩:=List.nodup_cons.1 hn
  have hm:b ∈ r:=List.mem_of_getElem? (by simpa using h)
  have hne:c≠b:=fun e=>h1 (e ▸ hm)
  obtain ⟨lc,hlc⟩:∃ lc,f.blocks[c]?=some lc:=⟨_,List.getElem?_eq_getElem (hc c (by simp))⟩
  have hout:¬ ((number f c:Int)≤((number f b+i:Nat):Int)∧((number f b+i:Nat):Int)<number f c+(f.blocks.getD c []).length):=by
   rw [getD_some hlc]
   rcases Nat.lt_or_gt_of_ne hne with q | q
   ·have:=number_le f hlc q;omega
   ·have:=number_le f hl q;omega
  rw [numFrom,if_neg hout,numFrom_at f hl hi r _ k h2 (fun d hd=>hc d (by simp [hd])) (by simpa using h)]
  simp;omega
/-- What an order of blocks must be. -/
structure Ord (f:Fn) (o:List Nat):Prop where
 nodup:o.Nodup
 lt:∀ b ∈ o,b<f.blocks.length
 first:o[0]?=some 0
theorem num_at {f:Fn} {o:List Nat} (ho:Ord f o) {b i k:Nat} {l:List Ins} (hl:f.blocks[b]?=some l) (hi:i<l.length) (hk:o[k]?=some b):num f o ((number f b+i:Nat):Int)=((start f (o.take k)+i:Nat):Int):=by
 unfold num
 rw [if_neg (by unfold number;omega),numFrom_at f hl hi o _ k ho.nodup ho.lt hk]
 unfold start;rfl
/-- The moved function's blocks. -/
theorem moved_blk {f:Fn} {o:List Nat} (ho:Ord f o) {k b:Nat} (hk:o[k]?=some b):∃ l,f.blocks[b]?=some l∧(moved f o).blocks[k]?=some (l.map (renum f o)):=by
 have hb:=ho.lt b (List.mem_of_getElem? hk)
 refine ⟨_,List.getElem?_eq_getElem hb,?_⟩
 unfold moved
 simp only [List.getElem?_map,hk,Option.map_some]
 rw [getD_some (List.getElem?_eq_getElem hb)]
theorem whereFrom_at:∀ (bs:List (List Ins)) (b n j i:Nat) (l:List Ins),bs[j]?=some l→i<l.length→whereFrom ((n+total (bs.take j)+i:Nat):Int) bs b n=(((b+j:Nat):Int),(i:Int))
 | [],b,n,j,i,l,h,_=>by simp at h
 | c::r,b,n,0,i,l,h,hi=>by
  simp at h;subst h
  simp only [List.take_zero,total,List.map_nil,List.sum_nil,Nat.add_zero]
  rw [whereFrom,if_pos (by omega)]
  simp;omega
 | c::r,b,n,j+1,i,l,h,hi=>by
  rw [List.take_succ_cons,total_cons]
  rw [whereFrom,if_neg (by omega),show n+(c.length+total (r.take j))+i=(n+c.length)+total (r.take j)+i by omega,whereFrom_at r (b+1) (n+c.length) j i l (by simpa using h) hi]
  rw [show b+1+j=b+(j+1) by omega]
theorem whereIs_at (f:Fn) {b i:Nat} {l:List Ins} (h:f.blocks[b]?=some l) (hi:i<l.length):whereIs f ((number f b+i:Nat):Int)=((b:Int),(i:Int)):=by
 have:=whereFrom_at f.blocks 0 f.params.length b i l h hi
 rw [Nat.zero_add] at this
 exact this
theorem kind_at (f:Fn) {b i:Nat} {l:List Ins} {x:Ins} (h:f.blocks[b]?=some l) (hx:l[i]?=some x):kind f ((number f b+i:Nat):Int)=x.width:=by
 have hi:=(List.getElem?_eq_some_iff.1 hx).1
 have hc:=number_count f h
 unfold kind
 rw [if_neg (by omega),if_neg (by unfold number;omega),whereIs_at f h hi]
 unfold insAt?
 simp only [Int.toNat_natCast,h,Option.bind_some,hx,Option.map_some,Option.getD_some]
/-- A value's home is kept, or it is a parameter. -/
def Kept (f:Fn) (o:List Nat) (v:Int):Prop:=(0≤v∧v<f.params.length)∨∃ (k b i:Nat) (l:List Ins) (x:Ins),o[k]?=some b∧f.blocks[b]?=some l∧l[i]?=some x∧v=((number f b+i:Nat):Int)
end Ref
end Go.Proofs.YthfhamagopbgcaaGreat

namespace Go.Proofs.YthfhamagopbgcaaGreat
set_option linter.unusedSimpArgs false
set_option linter.unusedVariables false
namespace Ref

theorem phisFrom_iff (g:List (List Int)):∀ (bs:List (List Ins)) (b:Nat),phisFrom g bs b=true↔∀ j l,bs[j]?=some l→∀ x ∈ l,x.op=28→x.to=before g ((b+j:Nat):Int)
 | [],b=>by simp [phisFrom]
 | l::r,b=>by
  unfold phisFrom
  rw [Bool.and_eq_true,phisFrom_iff g r (b+1),List.all_eq_true]
  constructor
  ·rintro ⟨h1,h2⟩ j l' hl x hx ho
   cases j with
   | zero =>
    simp at hl;subst hl
    have:=h1 x hx
    rw [sameInts_eq] at this
    simpa [ho] using this
   | succ j =>
    have:=h2 j l' (by simpa using hl) x hx ho
    rw [this];congr 1;omega
  ·intro h
   refine ⟨fun x hx=>?_,fun j l' hl x hx ho=>?_⟩
   ·rw [sameInts_eq]
    by_cases ho:x.op=28
    ·have:=h 0 l rfl x hx ho
     simp [ho,this]
    ·simp [ho]
   ·have:=h (j+1) l' (by simpa using hl) x hx ho
    rw [this];congr 1;omega
theorem argsFrom_iff (f:Fn) (g:List (List Int)) (inn:List Bool) (b i:Nat) (x:Ins):∀ (vs:List Int) (k:Nat),argsFrom f g inn b i x vs k=true↔∀ j v,vs[j]?=some v→argOk f g inn b i x v (x.to.getD (k+j) 0)=true
 | [],k=>by simp [argsFrom]
 | v::r,k=>by
  unfold argsFrom
  rw [Bool.and_eq_true,argsFrom_iff f g inn b i x r (k+1)]
  constructor
  ·rintro ⟨h1,h2⟩ j u hu
   cases j with
   | zero=>simp at hu;subst hu;exact h1
   | succ j =>
    have:=h2 j u (by simpa using hu)
    rwa [show k+1+j=k+(j+1) by omega] at this
  ·intro h
   refine ⟨h 0 v rfl,fun j u hu=>?_⟩
   have:=h (j+1) u (by simpa using hu)
   rwa [show k+(j+1)=k+1+j by omega] at this
theorem insFrom_iff (f:Fn) (g:List (List Int)) (inn:List Bool) (b:Nat):∀ (l:List Ins) (i:Nat),insFrom f g inn b l i=true↔∀ j x,l[j]?=some x→argsFrom f g inn b (i+j) x x.args 0=true
 | [],i=>by simp [insFrom]
 | y::r,i=>by
  unfold insFrom
  rw [Bool.and_eq_true,insFrom_iff f g inn b r (i+1)]
  constructor
  ·rintro ⟨h1,h2⟩ j x hx
   cases j with
   | zero=>simp at hx;subst hx;exact h1
   | succ j =>
    have:=h2 j x (by simpa using hx)
    rwa [show i+1+j=i+(j+1) by omega] at this
  ·intro h
   refine ⟨h 0 y rfl,fun j x hx=>?_⟩
   have:=h (j+1) x (by simpa using hx)
   rwa [show i+(j+1)=i+1+j by omega] at this
theorem blksFrom_iff (f:Fn) (g:List (List Int)) (inn:List Bool):∀ (bs:List (List Ins)) (b:Nat),blksFrom f g inn bs b=true↔∀ j l,bs[j]?=some l→inn.getD (b+j) false=true→insFrom f g inn (b+j) l 0=true
 | [],b=>by simp [blksFrom]
 | l::r,b=>by
  unfold blksFrom
  rw [Bool.and_eq_true,blksFrom_iff f g inn r (b+1)]
  constructor
  ·rintro ⟨h1,h2⟩ j l' hl hin
   cases j with
   | zero =>
    simp at hl;subst hl
    rw [Nat.add_zero] at hin ⊢
    rw [hin] at h1
    simpa using h1
   | succ j =>
    have:=h2 j l' (by simpa using hl)
    rw [show b+1+j=b+(j+1) by omega] at this
    exact this hin
  ·intro h
   refine ⟨?_,fun j l' hl hin=>?_⟩
   ·have:=h 0 l rfl
    rw [Nat.add_zero] at this
    cases hb:inn.getD b false with
    | false=>rfl
    | true=>simpa using this hb
   ·have:=h (j+1) l' (by simpa using hl)
    rw [show b+(j+1)=b+1+j by omega] at this
    exact this hin
/-- Validity, rule by rule. -/
structure Val (f:Fn):Prop where
 size:f.params.length≤3∧f.slots.length≤2∧1≤f.blocks.length∧f.blocks.length≤10∧total f.blocks≤40
 ret:0≤f.ret∧f.ret≤32
 head:f.params.all isWidth=true∧f.slots.all isSlot=true
 arg:∀ l ∈ f.blocks,∀ x ∈ l,argument f x=true
 laid:∀ l ∈ f.blocks,laid l=true
 entry:before (graph f) 0=[]
 phi:∀ (b:Nat) (l:List Ins),f.blocks[b]?=some l→∀ x ∈ l,x.op=28→x.to=before (graph f) (b:Int)
 typ:∀ l ∈ f.blocks,∀ x ∈ l,typed f x=true
 st:∀ (b:Nat) (l:List Ins),f.blocks[b]?=some l→(reached (graph f) (-1)).getD b false=true→∀ (i:Nat) x,l[i]?=some x→∀ (k:Nat) v,x.args[k]?=some v→argOk f (graph f) (reached (graph f) (-1)) b i x v (x.to.getD k 0)=true
theorem rules_iff (f:Fn):rules f=true↔(∀ l ∈ f.blocks,laid l=true)∧before (graph f) 0=[]∧(∀ (b:Nat) (l:List Ins),f.blocks[b]?=some l→∀ x ∈ l,x.op=28→x.to=before (graph f) (b:Int)):=by
 unfold rules
 rw [Bool.and_eq_true,Bool.and_eq_true,phisFrom_iff,List.all_eq_true,List.isEmpty_iff,and_assoc]
 simp only [Nat.zero_add]
theorem stated_iff (f:Fn):stated f=true↔∀ (b:Nat) (l:List Ins),f.blocks[b]?=some l→(reached (graph f) (-1)).getD b false=true→∀ (i:Nat) x,l[i]?=some x→∀ (k:Nat) v,x.args[k]?=some v→argOk f (graph f) (reached (graph f) (-1)) b i x v (x.to.getD k 0)=true:=by
 unfold stated
 rw [blksFrom_iff]
 simp only [Nat.zero_add,insFrom_iff,argsFrom_iff]
theorem all_all {f:Fn} {p:Ins→Bool}:(f.blocks.all fun l=>l.all p)=true↔∀ l ∈ f.blocks,∀ x ∈ l,p x=true:=by
 simp only [List.all_eq_true]
theorem val_iff (f:Fn):validate f=0↔Val f:=by
 have key:validate f=0↔¬ (3<f.params.length∨2<f.slots.length∨f.blocks.length<1∨10<f.blocks.length)∧¬ 40<total f.blocks∧¬ (f.ret<0∨32<f.ret)∧¬ f.params.all isWidth=false∧¬ f.slots.all isSlot=false ∧
   ¬ (f.blocks.all (fun l=>l.all (argument f))=false)∧¬ rules f=false∧¬ (f.blocks.all (fun l=>l.all (typed f))=false)∧¬ stated f=false:=by
  unfold validate
  by_cases h1:3<f.params.length∨2<f.slots.length∨f.blocks.length<1∨10<f.blocks.length
  ·rw [if_pos h1];exact ⟨fun h=>by omega,fun h=>absurd h1 h.1⟩
  rw [if_neg h1]
  by_cases h2:40<total f.blocks
  ·rw [if_pos h2];exact ⟨fun h=>by omega,fun h=>absurd h2 h.2.1⟩
  rw [if_neg h2]
  by_cases h3:f.ret<0∨32<f.ret
  ·rw [if_pos h3];exact ⟨fun h=>by omega,fun h=>absurd h3 h.2.2.1⟩
  rw [if_neg h3]
  by_cases h4:f.params.all isWidth=false
  ·rw [if_pos h4];exact ⟨fun h=>by omega,fun h=>absurd h4 h.2.2.2.1⟩
  rw [if_neg h4]
  by_cases h5:f.slots.all isSlot=false
  ·rw [if_pos h5];exact ⟨fun h=>by omega,fun h=>absurd h5 h.2.2.2.2.1⟩
  rw [if_neg h5]
  by_cases h6:f.blocks.all (fun l=>l.all (argument f))=false
  ·rw [if_pos h6];exact ⟨fun h=>by omega,fun h=>absurd h6 h.2.2.2.2.2.1⟩
  rw [if_neg h6]
  by_cases h7:rules f=false
  ·rw [if_pos h7];exact ⟨fun h=>by omega,fun h=>absurd h7 h.2.2.2.2.2.2.1⟩
  rw [if_neg h7]
  by_cases h8:f.blocks.all (fun l=>l.all (typed f))=false
  ·rw [if_pos h8];exact ⟨fun h=>by omega,fun h=>absurd h8 h.2.2.2.2.2.2.2.1⟩
  rw [if_neg h8]
  by_cases h9:stated f=false
  ·rw [if_pos h9];exact ⟨fun h=>by omega,fun h=>absurd h9 h.2.2.2.2.2.2.2.2⟩
  rw [if_neg h9]
  exact ⟨fun _=>⟨h1,h2,h3,h4,h5,h6,h7,h8,h9⟩,fun _=>rfl⟩
 rw [key]
 simp only [Bool.not_eq_false,all_all,rules_iff,stated_iff]
 constructor
 ·rintro ⟨h1,h2,h3,h4,h5,h6,⟨h7,h8,h9⟩,h10,h11⟩
  exact ⟨⟨by omega,by omega,by omega,by omega,by omega⟩,⟨by omega,by omega⟩,⟨h4,h5⟩,h6,h7,h8,h9,h10,h11⟩
 ·rintro ⟨h1,h3,h4,h6,h7,h8,h9,h10,h11⟩
  exact ⟨by omega,by omega,by omega,h4.1,h4.2,h6,⟨h7,h8,h9⟩,h10,h11⟩

/-! ### The graph, and what comes before -/
theorem has_iff (l:List Int) (n:Int):has l n=true↔n ∈ l:=by
 unfold has
 rw [List.any_eq_true]
 constructor
 ·rintro ⟨z,hz,e⟩
  simp at e;subst e;exact hz
 ·intro h;exact ⟨n,h,by simp⟩
theorem mem_beforeFrom (v:Int):∀ (g:List (List Int)) (b:Nat) (z:Int),z ∈ beforeFrom v g b↔∃ j l,g[j]?=some l∧v ∈ l∧z=((b+j:Nat):Int)
 | [],b,z=>by simp [beforeFrom]
 | l::r,b,z=>by
  have ih:=mem_beforeFrom v r (b+1) z
  have hr:(∃ j l',r[j]?=some l'∧v ∈ l'∧z=((b+1+j:Nat):Int))↔∃ j l',(l::r)[j+1]?=some l'∧v ∈ l'∧z=((b+(j+1):Nat):Int):=by
   simp only [List.getElem?_cons_succ,show ∀ j,b+1+j=b+(j+1) from fun j=>by omega]
  rw [beforeFrom]
  constructor
  ·intro h
   split at h
   ·next hh =>
    rcases List.mem_cons.1 h with rfl | h
    ·exact ⟨0,l,rfl,(has_iff _ _).1 hh,by simp⟩
    ·obtain ⟨j,l',q⟩:=hr.1 (ih.1 h);exact ⟨j+1,l',q⟩
   ·obtain ⟨j,l',q⟩:=hr.1 (ih.1 h);exact ⟨j+1,l',q⟩
  ·rintro ⟨j,l',q1,q2,q3⟩
   cases j with
   | zero =>
    simp at q1;subst q1
    rw [if_pos ((has_iff _ _).2 q2)]
    exact List.mem_cons.2 (.inl (by simpa using q3))
   | succ j =>
    have:=ih.2 (hr.2 ⟨j,l',q1,q2,q3⟩)
    split
    ·exact List.mem_cons_of_mem _ this
    ·exact this
theorem asc_beforeFrom (v:Int):∀ (g:List (List Int)) (b:Nat),(beforeFrom v g b).Pairwise (fun a c=>a<c)
 | [],b=>by simp [beforeFrom]
 | l::r,b=>by
  rw [beforeFrom]
  split
  ·rw [List.pairwise_cons]
   refine ⟨fun z hz=>?_,asc_beforeFrom v r (b+1)⟩
   obtain ⟨j,l',-,-,e⟩:=(mem_beforeFrom v r (b+1) z).1 hz
   omega
  ·exact asc_beforeFrom v r (b+1)
theorem mem_before {g:List (List Int)} {v z:Int}:z ∈ before g v↔∃ j l,g[j]?=some l∧v ∈ l∧z=(j:Nat):=by
 unfold before
 rw [mem_beforeFrom]
 simp only [Nat.zero_add]
theorem asc_before (g:List (List Int)) (v:Int):(before g v).Pairwise (fun a c=>a<c):=asc_beforeFrom v g 0
theorem graph_at (f:Fn) {b:Nat} {l:List Ins} (h:f.blocks[b]?=some l):(graph f)[b]?=some ((l.getLast?.map (·.to)).getD []):=by
 unfold graph;rw [List.getElem?_map,h];rfl
theorem laid_last:∀ (l:List Ins) (p:Bool),l≠[]→laidFrom l p=true→∃ x,l.getLast?=some x∧isLast x.op=true
 | [],_,h,_=>absurd rfl h
 | [x],p,_,h=>by
  simp [laidFrom] at h
  exact ⟨x,rfl,h.1⟩
 | x::y::r,p,_,h=>by
  rw [laidFrom] at h
  simp only [Bool.and_eq_true] at h
  obtain ⟨z,hz,hl⟩:=laid_last (y::r) _ (by simp) h.2
  exact ⟨z,by rw [List.getLast?_cons_cons];exact hz,hl⟩
theorem last_of {l:List Ins} (h:laid l=true):∃ x,l.getLast?=some x∧isLast x.op=true∧x ∈ l:=by
 unfold laid at h
 rw [Bool.and_eq_true] at h
 obtain ⟨x,h1,h2⟩:=laid_last l true (by intro e;subst e;simp at h) h.2
 exact ⟨x,h1,h2,List.mem_of_getLast? h1⟩
theorem last_not_phi {op:Int} (h:isLast op=true):op≠28:=by
 unfold isLast at h;simp at h;omega
theorem arg_to {f:Fn} {x:Ins} (h:argument f x=true):∀ t ∈ x.to,0≤t∧t<f.blocks.length:=by
 unfold argument at h
 simp only [Bool.and_eq_true,List.all_eq_true,decide_eq_true_eq] at h
 exact h.1.2
theorem val_graph {f:Fn} (h:Val f) {b:Nat} {l:List Ins} (hl:f.blocks[b]?=some l):∃ x,x ∈ l∧x.op≠28∧l.getLast?=some x∧(graph f)[b]?=some x.to:=by
 obtain ⟨x,h1,h2,h3⟩:=last_of (h.laid l (List.mem_of_getElem? hl))
 refine ⟨x,h3,last_not_phi h2,h1,?_⟩
 rw [graph_at f hl,h1];rfl
theorem graph_len (f:Fn):(graph f).length=f.blocks.length:=by simp [graph]
theorem val_gok {f:Fn} (h:Val f):∀ l ∈ graph f,∀ t ∈ l,0≤t∧t<((graph f).length:Int):=by
 intro e he t ht
 obtain ⟨b,hb⟩:=List.getElem?_of_mem he
 have hlt:=(List.getElem?_eq_some_iff.1 hb).1
 rw [graph_len] at hlt ⊢
 obtain ⟨x,hx,-,-,hg⟩:=val_graph h (List.getElem?_eq_getElem hlt)
 rw [hb] at hg
 cases hg
 exact arg_to (h.arg _ (List.getElem_mem hlt) x hx) t ht
end Ref
end Go.Proofs.YthfhamagopbgcaaGreat

namespace Go.Proofs.YthfhamagopbgcaaGreat
set_option linter.unusedSimpArgs false
set_option linter.unusedVariables false
namespace Ref

/-! ### Sums over an order -/
theorem sum_perm_le (w:Nat→Nat):∀ (n:Nat) (o:List Nat),o.Nodup→(∀ b ∈ o,b<n)→(o.map w).sum≤((List.range n).map w).sum
 | 0,o,_,h=>by
  cases o with
  | nil=>simp
  | cons a r=>exact absurd (h a (by simp)) (by omega)
 | n+1,o,hn,h=>by
  rw [List.range_succ,List.map_append,List.sum_append]
  by_cases hm:n ∈ o
  ·have hp:=List.perm_cons_erase hm
   have hs:(o.map w).sum=w n+((o.erase n).map w).sum:=by
    rw [(hp.map w).sum_nat];simp
   have:=sum_perm_le w n (o.erase n) (hn.erase n) fun b hb=>by
    have h1:=h b (List.mem_of_mem_erase hb)
    have h2:b≠n:=fun e=>by subst e;exact hn.not_mem_erase hb
    omega
   rw [hs];simp;omega
  ·have:=sum_perm_le w n o hn fun b hb=>by
    have h1:=h b hb
    have h2:b≠n:=fun e=>hm (e ▸ hb)
    omega
   simp;omega
theorem sum_one (o:List Nat):(o.map fun _=>1).sum=o.length:=by
 induction o with
 | nil=>rfl
 | cons a r ih=>simp;omega
theorem total_range (bs:List (List Ins)):((List.range bs.length).map fun b=>(bs.getD b []).length).sum=total bs:=by
 unfold total
 congr 1
 apply List.ext_getElem?
 intro i
 simp only [List.getElem?_map]
 rcases Nat.lt_or_ge i bs.length with h | h
 ·rw [List.getElem?_eq_getElem (by simpa using h),List.getElem?_eq_getElem h]
  simp [List.getD_eq_getElem?_getD,h]
 ·rw [List.getElem?_eq_none (by simpa using h),List.getElem?_eq_none h]
  rfl
theorem Ord.short {f:Fn} {o:List Nat} (h:Ord f o):o.length≤f.blocks.length:=by
 have:=sum_perm_le (fun _=>1) f.blocks.length o h.nodup h.lt
 rw [sum_one,sum_one] at this
 simpa using this
theorem Ord.total {f:Fn} {o:List Nat} (h:Ord f o):Ref.total (moved f o).blocks≤Ref.total f.blocks:=by
 have:=sum_perm_le (fun b=>(f.blocks.getD b []).length) f.blocks.length o h.nodup h.lt
 rw [total_range] at this
 have e:Ref.total (moved f o).blocks=(o.map fun b=>(f.blocks.getD b []).length).sum:=by
  unfold Ref.total moved
  rw [List.map_map]
  congr 1
  exact List.map_congr_left fun b _=>by simp
 rw [e];exact this
/-! ### Ways -/
/-- The nodes to which a way leads: the least set. -/
structure IsRc (g:List (List Int)) (but:Int) (R:Nat→Prop):Prop where
 root:but≠0→R 0
 step:∀ (b:Nat) (t:Int),R b→t ∈ g.getD b []→(t.toNat:Int)≠but→R t.toNat
 least:∀ S:Nat→Prop,(but≠0→S 0)→(∀ (b:Nat) (t:Int),R b→S b→t ∈ g.getD b []→(t.toNat:Int)≠but→S t.toNat)→∀ i,R i→S i
def rc (g:List (List Int)) (but:Int) (i:Nat):Prop:=(reached g but).getD i false=true
def RcAll:Prop:=∀ (g:List (List Int)) (but:Int),1≤g.length→(∀ l ∈ g,∀ t ∈ l,0≤t∧t<(g.length:Int))→IsRc g but (rc g but)
theorem Val.rc (h:RcAll) {f:Fn} (hv:Val f) (but:Int):IsRc (graph f) but (Ref.rc (graph f) but) :=
 h _ _ (by rw [graph_len];exact hv.size.2.2.1) (val_gok hv)
/-- What the blocks that are kept must be. -/
structure Keeps (f:Fn) (o:List Nat):Prop extends Ord f o where
 closed:∀ b ∈ o,∀ t ∈ (graph f).getD b [],t.toNat ∈ o
 args:∀ b ∈ o,∀ l,f.blocks[b]?=some l→∀ (i:Nat) x,l[i]?=some x→x.op≠28→∀ v ∈ x.args,Kept f o v
 phiArgs:∀ b ∈ o,∀ l,f.blocks[b]?=some l→∀ (i:Nat) x,l[i]?=some x→x.op=28→∀ (j:Nat) t v,x.to[j]?=some t→x.args[j]?=some v→t.toNat ∈ o→Kept f o v
 phiSome:∀ b ∈ o,∀ l,f.blocks[b]?=some l→∀ x ∈ l,x.op=28→∃ t ∈ x.to,t.toNat ∈ o
theorem shape_phi (f:Fn) {x:Ins} (h:x.op=28):(shape f x).1=-1∧(shape f x).2.1=-1∧((shape f x).2.2=true→0<x.args.length):=by
 unfold shape
 simp [h]
theorem shape_to (f:Fn) {x:Ins} (h1:x.op≠28) (h2:x.op≠29) (h3:x.op≠30):(shape f x).2.1=0:=by
 unfold shape
 simp only [if_neg h1,if_neg h2,if_neg h3,apply_ite Prod.snd,apply_ite Prod.fst,ite_self]
theorem counts_iff (s:Int × Int × Bool) (x:Ins):counts s x=true↔(0≤s.1→(x.args.length:Int)=s.1)∧(s.1<0→x.args.length=x.to.length)∧(0≤s.2.1→(x.to.length:Int)=s.2.1):=by
 unfold counts
 simp only [Bool.not_eq_true',Bool.or_eq_false_iff,Bool.and_eq_false_iff,decide_eq_false_iff_not,Decidable.not_not]
 constructor
 ·rintro ⟨⟨h1,h2⟩,h3⟩
  exact ⟨fun h=>h1.resolve_left (fun q=>q h),fun h=>h2.resolve_left (fun q=>q h),fun h=>h3.resolve_left (fun q=>q h)⟩
 ·rintro ⟨h1,h2,h3⟩
  refine ⟨⟨?_,?_⟩,?_⟩
  ·by_cases h:0≤s.1
   ·exact .inr (h1 h)
   ·exact .inl h
  ·by_cases h:s.1<0
   ·exact .inr (h2 h)
   ·exact .inl h
  ·by_cases h:0≤s.2.1
   ·exact .inr (h3 h)
   ·exact .inl h
theorem argument_iff (f:Fn) (x:Ins):argument f x=true↔(shape f x).2.2=true∧counts (shape f x) x=true∧(∀ z ∈ x.to,0≤z∧z<f.blocks.length)∧(x.op=30→x.to.getD 0 0≠x.to.getD 1 0):=by
 unfold argument
 simp only [Bool.and_eq_true,Bool.or_eq_true,List.all_eq_true,decide_eq_true_eq,and_assoc]
 constructor
 ·rintro ⟨h1,h2,h3,h4⟩
  exact ⟨h1,h2,h3,fun e=>h4.resolve_left (fun q=>q e)⟩
 ·rintro ⟨h1,h2,h3,h4⟩
  refine ⟨h1,h2,h3,?_⟩
  by_cases e:x.op=30
  ·exact .inr (h4 e)
  ·exact .inl e
theorem laid_at:∀ (a:List Ins) (p:Bool) (x:Ins) (r:List Ins),laidFrom (a++x::r) p=true→isLast x.op=r.isEmpty
 | [],p,x,r,h=>by
  rw [List.nil_append,laidFrom] at h
  simp only [Bool.and_eq_true] at h
  simpa using h.1.1
 | y::a,p,x,r,h=>by
  rw [List.cons_append,laidFrom] at h
  simp only [Bool.and_eq_true] at h
  exact laid_at a _ x r h.2
/-- Only the last instruction and a Phi name blocks. -/
theorem to_last {f:Fn} (hv:Val f) {l:List Ins} (hl:l ∈ f.blocks) {x:Ins} (hx:x ∈ l) (ho:x.op≠28) {t:Int} (ht:t ∈ x.to):l.getLast?=some x:=by
 have ha:=(argument_iff f x).1 (hv.arg l hl x hx)
 have hop:x.op=29∨x.op=30:=by
  rcases Decidable.em (x.op=29) with h | h
  ·exact .inl h
  rcases Decidable.em (x.op=30) with h' | h'
  ·exact .inr h'
  have h0:=shape_to f ho h h'
  have h1:=((counts_iff _ _).1 ha.2.1).2.2 (by omega)
  rw [h0] at h1
  have:x.to=[]:=List.eq_nil_of_length_eq_zero (by omega)
  rw [this] at ht;simp at ht
 have hla:isLast x.op=true:=by unfold isLast;rcases hop with h | h <;> simp [h]
 obtain ⟨a,r,rfl⟩:=List.append_of_mem hx
 have hd:=hv.laid _ hl
 unfold laid at hd
 rw [Bool.and_eq_true] at hd
 have:=laid_at a true x r hd.2
 rw [hla] at this
 have hr:r=[]:=by simpa using this.symm
 subst hr
 simp
theorem to_graph {f:Fn} (hv:Val f) {b:Nat} {l:List Ins} (hl:f.blocks[b]?=some l) {x:Ins} (hx:x ∈ l) (ho:x.op≠28) {t:Int} (ht:t ∈ x.to):t ∈ (graph f).getD b []:=by
 have h1:=to_last hv (List.mem_of_getElem? hl) hx ho ht
 rw [List.getD_eq_getElem?_getD,graph_at f hl,h1]
 exact ht
theorem toOf_kept {o:List Nat} (hn:o.Nodup) {t:Int} (h0:0≤t) (h:t.toNat ∈ o):∃ k:Nat,o[k]?=some t.toNat∧toOf o t=k:=by
 obtain ⟨k,h1,h2⟩:=toOf_mem hn h
 exact ⟨k,h1,by rw [← h2];congr 1;omega⟩
theorem renum_no (f:Fn) (o:List Nat) {x:Ins} (h:x.op≠28):renum f o x=⟨x.op,x.width,x.flags,x.args.map (num f o),x.imm,x.to.map (toOf o)⟩:=by unfold renum;rw [if_neg h]
/-- A Phi's blocks are in ascending order, and there are as many values. -/
theorem phi_parts {f:Fn} (hv:Val f) {b:Nat} {l:List Ins} (hl:f.blocks[b]?=some l) {x:Ins} (hx:x ∈ l) (ho:x.op=28):x.args.length=x.to.length∧0<x.args.length∧x.to.Pairwise (fun a c=>a<c)∧∀ t ∈ x.to,0≤t∧t<f.blocks.length:=by
 have ha:=(argument_iff f x).1 (hv.arg l (List.mem_of_getElem? hl) x hx)
 obtain ⟨s1,s2,s3⟩:=shape_phi f ho
 refine ⟨((counts_iff _ _).1 ha.2.1).2.1 (by omega),s3 ha.1,?_,ha.2.2.1⟩
 rw [hv.phi b l hl x hx ho]
 exact asc_before _ _
theorem graph_moved {f:Fn} {o:List Nat} (hv:Val f) (ho:Ord f o) {k b:Nat} (hk:o[k]?=some b):(graph (moved f o))[k]?=some (((graph f).getD b []).map (toOf o)):=by
 obtain ⟨l,hl,hm⟩:=moved_blk ho hk
 obtain ⟨x,hx,h28,hlast,hg⟩:=val_graph hv hl
 rw [graph_at _ hm,List.getLast?_map,hlast,List.getD_eq_getElem?_getD,hg]
 simp [renum_no f o h28]
theorem getD_graph {f:Fn} (hv:Val f) {b:Nat} (hb:b<f.blocks.length):(graph f)[b]?=some ((graph f).getD b []):=by
 rw [List.getD_eq_getElem?_getD,List.getElem?_eq_getElem (by rw [graph_len];exact hb)];rfl
end Ref
end Go.Proofs.YthfhamagopbgcaaGreat

namespace Go.Proofs.YthfhamagopbgcaaGreat
set_option linter.unusedSimpArgs false
set_option linter.unusedVariables false
namespace Ref

theorem typed_iff (f:Fn) (x:Ins):typed f x=true↔(∀ v ∈ x.args,0≤kind f v)∧typedKinds f x (x.args.map (kind f))=true:=by
 unfold typed
 rw [Bool.and_eq_true,List.all_eq_true]
 simp only [decide_eq_true_eq]
theorem typedKinds_phi (f:Fn) {x:Ins} (h:x.op=28) (k:List Int):typedKinds f x k=k.all fun z=>decide (z=x.width):=by
 unfold typedKinds
 simp [h]
/-- The ways of the moved function are those of the function. -/
theorem rc_moved {f:Fn} {o:List Nat} (hv:Val f) (hk:Keeps f o) {but but':Int} (hbut:∀ k c:Nat,o[k]?=some c→((c:Int)=but↔(k:Int)=but')) {R R':Nat→Prop} (hR:IsRc (graph f) but R) (hR':IsRc (graph (moved f o)) but' R') {k c:Nat} (hc:o[k]?=some c):R' k↔R c:=by
 have h0:=hbut 0 0 hk.first
 have uniq:∀ {j k c:Nat},o[j]?=some c→o[k]?=some c→j=k:=fun {j k c} h1 h2=>by
  have e1:=toOf_get hk.nodup h1
  have e2:=toOf_get hk.nodup h2
  omega
 constructor
 ·intro h
  have:=hR'.least (fun i=>∃ d,o[i]?=some d∧R d) (fun hne=>⟨0,hk.first,hR.root (fun e=>hne (by have:=h0.1 (by omega);omega))⟩) (fun i t' _ ⟨d,hd,hRd⟩ ht' hne=>by
    rw [List.getD_eq_getElem?_getD,graph_moved hv hk.toOrd hd,Option.getD_some] at ht'
    obtain ⟨t,ht,rfl⟩:=List.mem_map.1 ht'
    have hto:=hk.closed d (List.mem_of_getElem? hd) t ht
    have htg:0≤t:=by
      have hd':=hk.lt d (List.mem_of_getElem? hd)
      exact (val_gok hv _ (List.mem_of_getElem? (getD_graph hv hd')) t ht).1
    obtain ⟨m,hm,he⟩:=toOf_kept hk.nodup htg hto
    rw [he,Int.toNat_natCast] at hne ⊢
    exact ⟨_,hm,hR.step d t hRd ht (fun e=>hne ((hbut m _ hm).1 e))⟩) k h
  obtain ⟨d,hd,hRd⟩:=this
  rw [hc] at hd
  cases hd
  exact hRd
 ·intro h
  have:=hR.least (fun d=>∃ i:Nat,o[i]?=some d∧R' i) (fun hne=>⟨0,hk.first,hR'.root (fun e=>hne (by have:=h0.2 (by omega);omega))⟩) (fun d t _ ⟨i,hd,hRi⟩ ht hne=>by
    have hto:=hk.closed d (List.mem_of_getElem? hd) t ht
    have htg:0≤t:=by
      have hd':=hk.lt d (List.mem_of_getElem? hd)
      exact (val_gok hv _ (List.mem_of_getElem? (getD_graph hv hd')) t ht).1
    obtain ⟨m,hm,he⟩:=toOf_kept hk.nodup htg hto
    refine ⟨m,hm,?_⟩
    have:=hR'.step i (toOf o t) hRi (by
      rw [List.getD_eq_getElem?_getD,graph_moved hv hk.toOrd hd,Option.getD_some]
      exact List.mem_map_of_mem ht) (by
      rw [he,Int.toNat_natCast]
      exact fun e=>hne ((hbut m _ hm).2 e))
    rwa [he,Int.toNat_natCast] at this) c h
  obtain ⟨i,hi,hRi⟩:=this
  rw [uniq hc hi]
  exact hRi
theorem get_uniq {o:List Nat} (hn:o.Nodup) {j k c:Nat} (h1:o[j]?=some c) (h2:o[k]?=some c):j=k:=by
 have e1:=toOf_get hn h1
 have e2:=toOf_get hn h2
 omega
end Ref
end Go.Proofs.YthfhamagopbgcaaGreat

namespace Go.Proofs.YthfhamagopbgcaaGreat
set_option linter.unusedSimpArgs false
set_option linter.unusedVariables false
namespace Ref

/-- A value of a valid function is a parameter or has a home. -/
theorem home_of (f:Fn) {v:Int} (h0:0≤v) (h1:v<count f):(0≤v∧v<f.params.length)∨∃ (b i:Nat) (l:List Ins) (x:Ins),f.blocks[b]?=some l∧l[i]?=some x∧v=((number f b+i:Nat):Int):=by
 rcases (by omega:v<f.params.length∨(f.params.length:Int)≤v) with h | h
 ·exact .inl ⟨h0,h⟩
 ·obtain ⟨j,i,l,x,h3,h4,h5,h6⟩:=whereIs_some f v h h1
  exact .inr ⟨j,i,l,x,h4,h5,by unfold number;omega⟩
theorem kind_in {f:Fn} {v:Int} (h:0≤kind f v):0≤v∧v<count f:=by
 unfold kind at h
 split at h
 ·omega
 ·omega
/-! ### Twice -/
/-- What a second order makes of the first one: the block b comes back to its place. -/
structure Back (f:Fn) (o p:List Nat):Prop where
 all:∀ b,b<f.blocks.length→b ∈ o
 len:p.length=f.blocks.length
 back:∀ b k:Nat,p[b]?=some k→o[k]?=some b
theorem Back.at {f:Fn} {o p:List Nat} (h:Back f o p) (hn:o.Nodup) {b k:Nat} (hk:o[k]?=some b) (hb:b<f.blocks.length):p[b]?=some k:=by
 obtain ⟨j,h1⟩:∃ j,p[b]?=some j:=⟨_,List.getElem?_eq_getElem (by rw [h.len];exact hb)⟩
 have h2:=h.back b _ h1
 rw [h1,get_uniq hn h2 hk]
/-! ### The blocks that are reached -/
def kept (f:Fn):List Nat:=(List.range f.blocks.length).filter fun b=>(reached (graph f) (-1)).getD b false
end Ref
end Go.Proofs.YthfhamagopbgcaaGreat

namespace Go.Proofs.YthfhamagopbgcaaGreat
set_option linter.unusedSimpArgs false
set_option linter.unusedVariables false
namespace Ref

def at0 (l:List Int) (v:Int):Int:=l.getD v.toNat 0
/-- Lists that say the new numbers of what is kept, and of all blocks. -/
structure Says (f:Fn) (o:List Nat) (nums tos:List Int):Prop where
 len:tos.length=f.blocks.length
 to:∀ t:Int,0≤t→t<f.blocks.length→at0 tos t=toOf o t
 num:∀ v:Int,Kept f o v→at0 nums v=num f o v
end Ref
end Go.Proofs.YthfhamagopbgcaaGreat

namespace Go.Proofs.YthfhamagopbgcaaGreat
set_option linter.unusedSimpArgs false
set_option linter.unusedVariables false
namespace Ref

end Ref
end Go.Proofs.YthfhamagopbgcaaGreat

namespace Go.Proofs.YthfhamagopbgcaaGreat
set_option linter.unusedSimpArgs false
set_option linter.unusedVariables false
namespace Ref

def Small (s:Int × Int × Bool):Prop:=0≤s.1∧s.1≤3∧0≤s.2.1∧s.2.1≤2
end Ref
end Go.Proofs.YthfhamagopbgcaaGreat
namespace Go.Proofs.YthfhamagopbgcaaGreat
set_option linter.unusedSimpArgs false
set_option linter.unusedVariables false
namespace Rn
open Ref

/-- A value: poison or not, a slot (0: none), a number. -/
structure V where
 p:Bool
 s:Int
 n:Int
 deriving Inhabited,DecidableEq
def zero:V:=⟨false,0,0⟩
def poison:V:=⟨true,0,0⟩
def word (n:Int):V:=⟨false,0,n⟩
/-- An outcome: its kind, what is returned, the memory. -/
structure Out where
 kind:Int
 ret:V
 mem:List (List Int)
 deriving Inhabited,DecidableEq
def undefd:Out:=⟨1,zero,[]⟩
def long:Out:=⟨2,zero,[]⟩
structure Inp where
 args:List Int
 mem:List (List Int)
 deriving Inhabited,DecidableEq
/-- Where a run is: the values, which there are, the memory, the widths of the choices made, the steps. -/
structure St where
 vals:List V
 had:List Bool
 mem:List (List Int)
 widths:List Int
 steps:Nat
 deriving Inhabited,DecidableEq
def St.get (s:St) (v:Int):V:=s.vals.getD v.toNat zero
def St.set (s:St) (v:Nat) (x:V):St:={ s with vals:=s.vals.set v x,had:=s.had.set v true }
def St.tick (s:St):St:={ s with steps:=s.steps+1 }
/-- What a choice is: its place among the choices, its width. -/
abbrev Pick:=Nat→Int→Int
def given (picks:List Int):Pick:=fun k n=>if k<picks.length then picks.getD k 0 % Wd.sz n else 0
def chosen (pick:Pick) (s:St) (n:Int):V:=word (pick s.widths.length n)
def St.chose (s:St) (n:Int):St:={ s with widths:=s.widths++[n] }

/-- Arithmetic; none where it is undefined. -/
def arith (o fl n:Int) (a b:V):Option V :=
 if (4≤o∧o≤7)∧((b.p=true∨b.n=0)∨(o=6∨o=7)∧Wd.sg n b.n=-1∧(a.p=true∨Wd.sg n a.n=-Wd.sz (n-1))) then none
 else if a.p=true∨b.p=true then some poison
 else match Wd.op o n a.n b.n with
  | none=>some poison
  | some z=>if Wd.brk o fl n a.n b.n=true then some poison else some (word z)
/-- The bytes of a slot behind a pointer, if they are in it. -/
def bytesAt (mem:List (List Int)) (p:V) (n:Nat):Option (List Int) :=
 if p.p=true∨(mem.getD (p.s-1).toNat []).length<p.n.toNat+n then none else some (((mem.getD (p.s-1).toNat []).drop p.n.toNat).take n)
/-- The number of bytes, the lowest one first. -/
def numB:List Int→Int
 | []=>0
 | b::r=>b+256 * numB r
def load (mem:List (List Int)) (p:V) (n:Nat):Option V :=
 (bytesAt mem p n).map fun l=>if l.any (fun b=>decide (b<0))=true then poison else word (numB l)
/-- The bytes of a value. -/
def bytesOf (x:V):Nat→Int→List Int
 | 0,_=>[]
 | k+1,z=>(if x.p=true then -1 else z % 256)::bytesOf x k (z / 256)
def overlay (l:List Int) (at_:Nat) (bs:List Int):List Int:=l.take at_++bs++l.drop (at_+bs.length)
def store (mem:List (List Int)) (p x:V) (n:Nat):Option (List (List Int)) :=
 if p.p=true∨(mem.getD (p.s-1).toNat []).length<p.n.toNat+n then none
 else some (mem.set (p.s-1).toNat (overlay (mem.getD (p.s-1).toNat []) p.n.toNat (bytesOf x n x.n)))
/-- A pointer moved by a word of so many bits. -/
def gep (slots:List Int) (fl k:Int) (p b:V):V :=
 if fl=8∧slots.getD (p.s-1).toNat 0<(p.n+Wd.sg k b.n) % 4294967296 then poison else ⟨false,p.s,(p.n+Wd.sg k b.n) % 4294967296⟩
def truth (b:Bool):V:=word (if b=true then 1 else 0)

/-- What one instruction does. -/
inductive Res
 | val (v:V)
 | on
 | go (t:Int)
 | fin (o:Out)
 deriving DecidableEq
/-- The result of an instruction that only makes a value of what is not poison. -/
def plain (f:Fn) (x:Ins) (l:List V) (ks:List Int):V :=
 if x.op=0 then word x.imm
 else if x.op=14 then truth (Wd.cmp x.imm (ks.getD 0 0) (l.getD 0 zero).n (l.getD 1 zero).n)
 else if x.op=16∨x.op=17∨x.op=18 then word (Wd.ext x.op (ks.getD 0 0) x.width (l.getD 0 zero).n)
 else if x.op=19∨x.op=20 then word (Wd.lanes x.op x.imm (x.width / x.imm).toNat (l.getD 0 zero).n (l.getD 1 zero).n)
 else if x.op=24 then ⟨false,x.imm+1,0⟩
 else gep f.slots x.flags (ks.getD 1 0) (l.getD 0 zero) (l.getD 1 zero)
def exec (f:Fn) (pick:Pick) (x:Ins) (s:St):Res × St :=
 let l:=x.args.map s.get
 let ks:=x.args.map (kind f)
 if x.op=29 then (.go (x.to.getD 0 0),s)
 else if x.op=30 then (if (l.getD 0 zero).p=true then (.fin undefd,s) else (.go (x.to.getD (1-(l.getD 0 zero).n).toNat 0),s))
 else if x.op=31 then (.fin ⟨0,l.getD 0 zero,s.mem⟩,s)
 else if x.op=32 then (.fin undefd,s)
 else if x.op=26 then (match load s.mem (l.getD 0 zero) (x.width / 8).toNat with | none=>(.fin undefd,s) | some v=>(.val v,s))
 else if x.op=27 then (match store s.mem (l.getD 0 zero) (l.getD 1 zero) (ks.getD 1 0 / 8).toNat with | none=>(.fin undefd,s) | some m=>(.on,{ s with mem:=m }))
 else if x.op=21 then (if (l.getD 0 zero).p=true then (.val (chosen pick s x.width),s.chose x.width) else (.val (l.getD 0 zero),s))
 else if x.op=23 then (.val (chosen pick s x.width),s.chose x.width)
 else if x.op=15 then (if (l.getD 0 zero).p=true then (.val poison,s) else (.val (l.getD (2-(l.getD 0 zero).n).toNat zero),s))
 else if 1≤x.op∧x.op≤13 then (match arith x.op x.flags x.width (l.getD 0 zero) (l.getD 1 zero) with | none=>(.fin undefd,s) | some v=>(.val v,s))
 else if x.op=22∨l.any (·.p)=true then (.val poison,s)
 else (.val (plain f x l ks),s)
/-- How a block ends. -/
inductive Nx
 | run (t:Int)
 | over (o:Out)
 deriving DecidableEq
/-- What the Phis of a block read. -/
def phiRead (s:St) (frm:Int) (x:Ins):V:=s.get (x.args.getD (x.to.idxOf frm) 0)
def phis (l:List Ins):List Ins:=l.takeWhile fun x=>decide (x.op=28)
/-- The instructions of a block from a place on. -/
def runIns (f:Fn) (pick:Pick) (reads:List V):List Ins→Nat→Nat→St→Nx × St
 | [],_,_,s=>(.over undefd,s)
 | x::r,i,v,s =>
  if s.steps=400 then (.over long,s)
  else if i<reads.length then runIns f pick reads r (i+1) (v+1) (s.tick.set v (reads.getD i zero))
  else match exec f pick x s.tick with
   | (.val y,s')=>runIns f pick reads r (i+1) (v+1) (s'.set v y)
   | (.on,s')=>runIns f pick reads r (i+1) (v+1) s'
   | (.go t,s')=>(.run t,s')
   | (.fin o,s')=>(.over o,s')
def block (f:Fn) (pick:Pick) (b:Nat) (frm:Int) (s:St):Nx × St :=
 runIns f pick ((phis (f.blocks.getD b [])).map (phiRead s frm)) (f.blocks.getD b []) 0 (Ref.number f b) s
/-- A run from a block on: the outcome, the state at the end, the blocks that are entered. -/
def from_ (f:Fn) (pick:Pick):Nat→Nat→Int→St→Out × St × List Int
 | 0,_,_,s=>(undefd,s,[])
 | k+1,b,frm,s =>
  match block f pick b frm s with
  | (.over o,s')=>(o,s',[(b:Int)])
  | (.run t,s')=>((from_ f pick k t.toNat b s').1,(from_ f pick k t.toNat b s').2.1,(b:Int)::(from_ f pick k t.toNat b s').2.2)
def start (f:Fn) (i:Inp):St :=
 { vals:=i.args.map word++List.replicate (count f-i.args.length) zero,had:=i.args.map (fun _=>true)++List.replicate (count f-i.args.length) false,mem:=i.mem,widths:=[],steps:=0 }
def run (f:Fn) (pick:Pick) (i:Inp):Out × St × List Int:=from_ f pick 401 0 (-1) (start f i)

/-- The order of outcomes: -1, 0, 1. -/
def sgn (a b:Int):Int:=if a<b then -1 else if b<a then 1 else 0
def cmpInts:List Int→List Int→Int
 | [],[]=>0
 | [],_::_=>-1
 | _::_,[]=>1
 | a::as,b::bs=>if sgn a b=0 then cmpInts as bs else sgn a b
def cmpMem:List (List Int)→List (List Int)→Int
 | [],[]=>0
 | [],_::_=>-1
 | _::_,[]=>1
 | a::as,b::bs=>if cmpInts a b=0 then cmpMem as bs else cmpInts a b
def bit (b:Bool):Int:=if b=true then 1 else 0
def heads (o:Out):List Int:=[o.kind,bit o.ret.p,o.ret.s,o.ret.n]
def cmpOut (a b:Out):Int:=if cmpInts (heads a) (heads b)=0 then cmpMem a.mem b.mem else cmpInts (heads a) (heads b)
/-- An ascending list with one more. -/
def insert (x:Out):List Out→List Out
 | []=>[x]
 | y::r=>if cmpOut x y=0 then y::r else if cmpOut x y<0 then x::y::r else y::insert x r
/-- The last choice that can still grow. -/
def nextK (p w:List Int):Nat→Option Nat
 | 0=>none
 | k+1=>if p.getD k 0+1<Wd.sz (w.getD k 0) then some k else nextK p w k
def padded (p:List Int) (n:Nat):List Int:=p++List.replicate (n-p.length) 0
def bump (p:List Int) (k:Nat):List Int:=p.take k++[p.getD k 0+1]
/-- All outcomes; none if there are too many runs. -/
def explore (f:Fn) (i:Inp):Nat→List Int→List Out→Option (List Out)
 | 0,_,_=>none
 | n+1,picks,out =>
  let r:=run f (given picks) i
  let p:=padded picks r.2.1.widths.length
  match nextK p r.2.1.widths r.2.1.widths.length with
  | none=>some (insert r.1 out)
  | some k=>explore f i n (bump p k) (insert r.1 out)
def all (f:Fn) (i:Inp):Option (List Out):=explore f i 256 [] []
/-- Which inputs are right. -/
def validInput (f:Fn) (i:Inp):Int :=
 if validate f≠0 then validate f
 else if i.args.length≠f.params.length∨i.mem.length≠f.slots.length then 1
 else if (f.params.zip i.args).any (fun q=>decide (Wd.sz q.1≤q.2))=true then 1
 else if (f.slots.zip i.mem).any (fun q=>decide ((q.2.length:Int)≠q.1) || q.2.any (fun b=>decide (b < -1) || decide (255<b)))=true then 1
 else 0
end Rn
end Go.Proofs.YthfhamagopbgcaaGreat

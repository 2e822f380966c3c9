/- Parts: BoAll Bp Bq Br Ra Rb Rc Rd Re. -/
import Derived.Test.YthfhamagopbgcaaGreatG28
import Derived.Test.YthfhamagopbgcaaGreatG29
import Derived.Test.YthfhamagopbgcaaGreatG30
import Derived.Test.YthfhamagopbgcaaGreatG27
import Derived.Test.YthfhamagopbgcaaGreatG19
import Derived.BigQuiet
import Derived.Deep.QuietTactic
import Derived.Test.YthfhamagopbgcaaGreatG20
namespace Go.Proofs.YthfhamagopbgcaaGreat
set_option linter.unusedSimpArgs false
set_option linter.unusedVariables false
open Go.RowKit Go.Maps
open Ops

theorem wrap_asked {o:Int} (W G:Nat) (n a b:Int) (ho:1≤o∧o≤3) (hn:Wd.Wid n) (ha:Wd.Word n a) (hb:Wd.Word n b) (hv:∀ B,opV o B=.agg #[boxV 247 B,fnV W,.nilFunc]) (hg:boxOf o=G) (w1:World) :
  Calls Tryz.prog 208 #[.int .i64 o,.int .i64 n,.int .u32 a,.int .u32 b] w1 fun e w'=>∃ B,e=.returned (.tuple #[.agg #[boxV 247 B,fnV W,.nilFunc],.bool true])∧(B<w'.heap.size∧w'.cell? ⟨B,0,none⟩=some (fnV G))∧Gr w1 w':=by
 refine (asked_any o n a b w1 (by omega) hn ha hb).mono ?_
 rintro e w' ⟨v,rfl,⟨B,rfl,hB⟩,g⟩
 refine ⟨B,by rw [hv],?_,g⟩
 have:=hB (.inl ho.2)
 rwa [hg] at this
theorem wrap_do {o n a b:Int} {B:Nat} {w w':World} {e:Ending} (h:DoPost o n a b w e w') (hs:(Wd.op o n a b).isSome=true):(∃ y,e=.returned (.tuple #[.int .u32 y,.bool true]))∧Gr w w':=by
 obtain ⟨⟨z,h1,-⟩,h2⟩:=h
 rw [hs] at h1
 exact ⟨⟨z,h1⟩,h2⟩
theorem bBreaks_any (o fl n a b:Int) (w:World) (ho:1≤o∧o≤13) (hf:0≤fl∧fl≤7) (hn:Wd.Wid n) (ha:Wd.Word n a) (hb:Wd.Word n b):Calls Tryz.prog 185 #[.int .i64 o,.int .i64 fl,.int .i64 n,.int .u32 a,.int .u32 b] w fun e w'=>e=.returned (.tuple #[.bool (Wd.broken o fl n a b),.int .i64 0])∧Gr w w':=by
 have ba:=words hn ha
 have bb:=words hn hb
 have sa:=sg_bd hn ha
 have sb:=sg_bd hn hb
 have brd:∀ o,Wd.op o n a b=some (((Wd.op o n a b)).getD 0)→Wd.broken o fl n a b=Wd.brk o fl n a b:=fun o h=>by unfold Wd.broken;rw [h];rfl
 rcases (by omega:o=1∨o=2∨o=3∨o=4∨o=5∨o=6∨o=7∨o=8∨o=9∨o=10∨o=11∨o=12∨o=13) with rfl | rfl | rfl | rfl | rfl | rfl | rfl | rfl | rfl | rfl | rfl | rfl | rfl
 ·exact brkW 1 222 223 (enters_of Tryz.func222 (by kernel_rfl) rfl) fl n a b _ _ w hf hn ha hb (by decide) (Lib.hid fun w1=>wrap_asked _ _ n a b (by decide) hn ha hb (fun B=>rfl) rfl w1)
   (Lib.hid fun B w1 hc=>(dofn1 n a b B w1 hn ha hb hc).mono fun e w' h=>wrap_do (B:=B) h rfl) (Lib.hid fun w1=>op1_any a b w1 ⟨by omega,by omega⟩ ⟨by omega,by omega⟩) (Lib.hid fun w1=>op1_any _ _ w1 ⟨by omega,by omega⟩ ⟨by omega,by omega⟩) (Lib.hid ((brd 1 rfl).trans (brk1_eq fl hn ha hb)))
 ·exact brkW 2 224 225 (enters_of Tryz.func224 (by kernel_rfl) rfl) fl n a b _ _ w hf hn ha hb (by decide) (Lib.hid fun w1=>wrap_asked _ _ n a b (by decide) hn ha hb (fun B=>rfl) rfl w1)
   (Lib.hid fun B w1 hc=>(dofn2 n a b B w1 hn ha hb hc).mono fun e w' h=>wrap_do (B:=B) h rfl) (Lib.hid fun w1=>op3_any a b w1 ⟨by omega,by omega⟩ ⟨by omega,by omega⟩) (Lib.hid fun w1=>op3_any _ _ w1 ⟨by omega,by omega⟩ ⟨by omega,by omega⟩) (Lib.hid ((brd 2 rfl).trans (brk2_eq fl hn ha hb)))
 ·exact brkW 3 226 228 (enters_of Tryz.func226 (by kernel_rfl) rfl) fl n a b _ _ w hf hn ha hb (by decide) (Lib.hid fun w1=>wrap_asked _ _ n a b (by decide) hn ha hb (fun B=>rfl) rfl w1)
   (Lib.hid fun B w1 hc=>(dofn3 n a b B w1 hn ha hb hc).mono fun e w' h=>wrap_do (B:=B) h rfl) (Lib.hid fun w1=>op5_any a b w1 ⟨by omega,by omega⟩ ⟨by omega,by omega⟩) (Lib.hid fun w1=>op5_any _ _ w1 ⟨by omega,by omega⟩ ⟨by omega,by omega⟩) (Lib.hid ((brd 3 rfl).trans (brk3_eq fl hn ha hb)))
 ·exact brk4 fl n a b w hf hn ha hb
 ·exact brk5 fl n a b w hf hn ha hb
 ·exact brk6 fl n a b w hf hn ha hb
 ·exact brk7 fl n a b w hf hn ha hb
 ·exact brk8 fl n a b w hf hn ha hb
 ·exact brk9 fl n a b w hf hn ha hb
 ·exact brk10 fl n a b w hf hn ha hb
 ·exact brk11 fl n a b w hf hn ha hb
 ·exact brk12 fl n a b w hf hn ha hb
 ·exact brk13 fl n a b w hf hn ha hb
end Go.Proofs.YthfhamagopbgcaaGreat
namespace Go.Proofs.YthfhamagopbgcaaGreat
set_option linter.unusedSimpArgs false
set_option linter.unusedVariables false
open Go.RowKit

theorem u32_one {w:World} {k:Nat} {a:Int} (h0:w.cell? ⟨k,0,none⟩=some (.int .u32 a)):U32At (k+1) w (.slice (some ⟨k,0,none⟩) 1 1) [a] :=
 ⟨_,_,rfl,Nat.le_refl _,by simp,fun _=>⟨_,_,rfl,Nat.lt_succ_self _,fun j z hz=>by
   match j,hz with
   | 0,hz=>simp at hz;subst hz;exact h0
   | j+1,hz=>simp at hz⟩⟩
/-- fits, of one word or two. -/
theorem fits1 (n a:Int) (hn:Wd.Wid n) (ha:Wd.Word n a) (k:Nat) (w1:World) (h0:w1.cell? ⟨k,0,none⟩=some (.int .u32 a)):Calls Tryz.prog 211 #[.int .i64 n,.slice (some ⟨k,0,none⟩) 1 1] w1 fun e w'=>e=.returned (.bool true)∧w1=w':=by
 have:=bfits_any (k+1) n _ [a] w1 (u32_one h0)
 have e:fitsB n [a]=true:=by unfold fitsB;rw [widB_true hn];simp [ha.2]
 rwa [e] at this
theorem fits2 (n a b:Int) (hn:Wd.Wid n) (ha:Wd.Word n a) (hb:Wd.Word n b) (k:Nat) (w1:World) (h0:w1.cell? ⟨k,0,none⟩=some (.int .u32 a)) (h1:w1.cell? ⟨k,1,none⟩=some (.int .u32 b)):Calls Tryz.prog 211 #[.int .i64 n,.slice (some ⟨k,0,none⟩) 2 2] w1 fun e w'=>e=.returned (.bool true)∧w1=w':=by
 have:=bfits_any (k+1) n _ [a,b] w1 (Ops.u32_two h0 h1)
 have e:fitsB n [a,b]=true:=by unfold fitsB;rw [widB_true hn];simp [ha.2,hb.2]
 rwa [e] at this
theorem bwid_true (n:Int) (hn:Wd.Wid n) (w1:World):Calls Tryz.prog 70 #[.int .i64 n] w1 fun e w'=>e=.returned (.bool true)∧w1=w':=by
 have:=bisWidth_any n w1
 rwa [← widB_ref,widB_true hn] at this
theorem bMask_any (n:Int) (w:World) (hn:Wd.Wid n):Calls Tryz.prog 39 #[.int .i64 n] w fun e w'=>e=.returned (.tuple #[.int .u32 (Wd.sz n-1),.int .i64 0])∧w=w':=by
 have CW:=Lib.hid fun w1=>bwid_true n hn w1
 have CM:=Lib.hid fun w1=>bmask_any n w1 hn
 obtain ⟨s,hs⟩:∃ s,Wd.sz n-1=s:=⟨_,rfl⟩
 rw [hs] at CM ⊢
 clear hn hs
 go_enter Tryz.func39, Tryz.ntmps39
 go_wp2_with (first
   | (go_at_call 70;(with_reducible refine (CW.out _).mono ?_);rintro e w1 ⟨rfl,rfl⟩)
   | (go_at_call 71;(with_reducible refine (CM.out _).mono ?_);rintro e w1 ⟨rfl,rfl⟩))
 go_ret2
 exact ⟨rfl,rfl⟩
theorem bSigned_any (n x:Int) (w:World) (hn:Wd.Wid n) (hx:Wd.Word n x):Calls Tryz.prog 190 #[.int .i64 n,.int .u32 x] w fun e w'=>e=.returned (.tuple #[.int .i64 (Wd.sg n x),.int .i64 0])∧Gr w w':=by
 have CF:=Lib.hid (fits1 n x hn hx)
 have CS:=Lib.hid fun w1=>bsigned_any n x w1 hn hx
 obtain ⟨s,hs⟩:∃ s,Wd.sg n x=s:=⟨_,rfl⟩
 rw [hs] at CS ⊢
 clear hn hs hx
 go_enter Tryz.func190, Tryz.ntmps190
 go_wp2_with (first
   | (go_at_call 211;(with_reducible refine (CF.out _ _ (by simp)).mono ?_);rintro e w1 ⟨rfl,rfl⟩)
   | (go_at_call 209;(with_reducible refine (CS.out _).mono ?_);rintro e w1 ⟨rfl,rfl⟩))
 go_ret2
 exact ⟨rfl,(Gr.refl w).alloc _⟩
theorem bOf_any (n x:Int) (w:World) (hn:Wd.Wid n):Calls Tryz.prog 266 #[.int .i64 n,.int .i64 x] w fun e w'=>e=.returned (.tuple #[.int .u32 (x % Wd.sz n),.int .i64 0])∧w=w':=by
 have CW:=Lib.hid fun w1=>bwid_true n hn w1
 have CM:=Lib.hid fun w1=>bmask_any n w1 hn
 have HW:=Lib.hid (Wd.wrap_mask x hn)
 obtain ⟨s,hs⟩:∃ s,Wd.sz n-1=s:=⟨_,rfl⟩
 rw [hs] at CM HW
 clear hn hs
 go_enter Tryz.func266, Tryz.ntmps266
 go_wp2_with (first
   | (go_at_call 70;(with_reducible refine (CW.out _).mono ?_);rintro e w1 ⟨rfl,rfl⟩)
   | (go_at_call 71;(with_reducible refine (CM.out _).mono ?_);rintro e w1 ⟨rfl,rfl⟩))
 go_ret2
 exact ⟨by rw [← HW.out];rfl,rfl⟩
theorem isPred_any (p:Int) (w:World) (hp:0≤p∧p≤9):Calls Tryz.prog 210 #[.int .i64 p] w fun e w'=>e=.returned (.bool true)∧w=w':=by
 obtain ⟨p1,p2⟩:=hp
 go_enter Tryz.func210, Tryz.ntmps210
 go_wp2
 all_goals go_ret
 all_goals exact ⟨by simp,rfl⟩
set_option maxHeartbeats 2000000 in
theorem bCompare_any (p n a b:Int) (w:World) (hp:0≤p∧p≤9) (hn:Wd.Wid n) (ha:Wd.Word n a) (hb:Wd.Word n b):Calls Tryz.prog 186 #[.int .i64 p,.int .i64 n,.int .u32 a,.int .u32 b] w fun e w'=>e=.returned (.tuple #[.bool (Wd.cmp p n a b),.int .i64 0])∧Gr w w':=by
 have CF:=Lib.hid (fits2 n a b hn ha hb)
 have CA:=Lib.hid fun w1=>bsigned_any n a w1 hn ha
 have CB:=Lib.hid fun w1=>bsigned_any n b w1 hn hb
 have CP:=Lib.hid fun w1=>isPred_any p w1 hp
 obtain ⟨x,hx⟩:∃ s,Wd.sg n a=s:=⟨_,rfl⟩
 obtain ⟨y,hy⟩:∃ s,Wd.sg n b=s:=⟨_,rfl⟩
 have HC:Hid (Wd.cmp p n a b=if 6≤p then Wd.cmpN p x y else Wd.cmpN p a b):=by show _=_;rw [← hx,← hy];rfl
 obtain ⟨c,hc⟩:∃ c,Wd.cmp p n a b=c:=⟨_,rfl⟩
 rw [hc] at HC ⊢
 rw [hx] at CA
 rw [hy] at CB
 have a0:=ha.1
 have b0:=hb.1
 have a1:a<4294967296:=by have:=Wd.sz_32 hn;have:=ha.2;omega
 have b1:b<4294967296:=by have:=Wd.sz_32 hn;have:=hb.2;omega
 clear hn hx hy ha hb hc
 rcases (by omega:p=0∨p=1∨p=2∨p=3∨p=4∨p=5∨p=6∨p=7∨p=8∨p=9) with rfl | rfl | rfl | rfl | rfl | rfl | rfl | rfl | rfl | rfl
 all_goals
  go_enter Tryz.func186, Tryz.ntmps186
  go_wp2_with (first
    | (go_at_call 210;(with_reducible refine (CP.out _).mono ?_);rintro e w1 ⟨rfl,rfl⟩)
    | (go_at_call 211;(with_reducible refine (CF.out _ _ (by simp) (by simp)).mono ?_);rintro e w1 ⟨rfl,rfl⟩)
    | (go_at_call 209;first | ((with_reducible refine (CA.out _).mono ?_);rintro e w1 ⟨rfl,rfl⟩) | ((with_reducible refine (CB.out _).mono ?_);rintro e w1 ⟨rfl,rfl⟩)))
  go_ret2
  exact ⟨by rw [HC.out];rfl,(Gr.refl w).alloc _⟩
set_option maxHeartbeats 2000000 in
theorem bExtend_any (o m n a:Int) (w:World) (ho:o=16∨o=17∨o=18) (hm:Wd.Wid m) (hn:Wd.Wid n) (ha:Wd.Word m a) (hd:if o=18 then n<m else m<n):Calls Tryz.prog 188 #[.int .i64 o,.int .i64 m,.int .i64 n,.int .u32 a] w fun e w'=>e=.returned (.tuple #[.int .u32 (Wd.ext o m n a),.int .i64 0])∧Gr w w':=by
 have CF:=Lib.hid (fits1 m a hm ha)
 have CW:=Lib.hid fun w1=>bwid_true n hn w1
 have CA:=Lib.hid fun w1=>bsigned_any m a w1 hm ha
 have CM:=Lib.hid fun w1=>bmask_any n w1 hn
 have H1:=Lib.hid (Wd.wrap_mask (Wd.sg m a) hn)
 have H2:=Lib.hid (Wd.mask_and hn ha.1 (by have:=Wd.sz_32 hm;have:=ha.2;omega))
 obtain ⟨x,hx⟩:∃ s,Wd.sg m a=s:=⟨_,rfl⟩
 obtain ⟨s,hs⟩:∃ s,Wd.sz n-1=s:=⟨_,rfl⟩
 have HC:Hid (Wd.ext o m n a=if o=16 then a else if o=17 then x % Wd.sz n else a % Wd.sz n):=by show _=_;rw [← hx];rfl
 obtain ⟨c,hc⟩:∃ c,Wd.ext o m n a=c:=⟨_,rfl⟩
 rw [hc] at HC ⊢
 rw [hx] at CA H1
 rw [hs] at CM H1 H2
 have hdd:(o=18∧n<m)∨(o≠18∧m<n):=by
  by_cases h:o=18
  ·rw [if_pos h] at hd;exact .inl ⟨h,hd⟩
  ·rw [if_neg h] at hd;exact .inr ⟨h,hd⟩
 clear hn hx hs ha hm hc hd
 rcases ho with rfl | rfl | rfl
 ·obtain ⟨-,hd⟩:=hdd.resolve_left (by omega)
  clear hdd
  go_enter Tryz.func188, Tryz.ntmps188
  go_wp2_with (first
    | (go_at_call 211;(with_reducible refine (CF.out _ _ (by simp)).mono ?_);rintro e w1 ⟨rfl,rfl⟩)
    | (go_at_call 70;(with_reducible refine (CW.out _).mono ?_);rintro e w1 ⟨rfl,rfl⟩))
  go_ret2
  exact ⟨by rw [HC.out];rfl,(Gr.refl w).alloc _⟩
 ·obtain ⟨-,hd⟩:=hdd.resolve_left (by omega)
  clear hdd
  go_enter Tryz.func188, Tryz.ntmps188
  go_wp2_with (first
    | (go_at_call 211;(with_reducible refine (CF.out _ _ (by simp)).mono ?_);rintro e w1 ⟨rfl,rfl⟩)
    | (go_at_call 70;(with_reducible refine (CW.out _).mono ?_);rintro e w1 ⟨rfl,rfl⟩)
    | (go_at_call 209;(with_reducible refine (CA.out _).mono ?_);rintro e w1 ⟨rfl,rfl⟩)
    | (go_at_call 71;(with_reducible refine (CM.out _).mono ?_);rintro e w1 ⟨rfl,rfl⟩))
  go_ret2
  exact ⟨by rw [show c=bits .and .u32 (x % 4294967296) s from HC.out.trans H1.out.symm];rfl,(Gr.refl w).alloc _⟩
 ·obtain ⟨-,hd⟩:=hdd.resolve_right (by omega)
  clear hdd
  go_enter Tryz.func188, Tryz.ntmps188
  go_wp2_with (first
    | (go_at_call 211;(with_reducible refine (CF.out _ _ (by simp)).mono ?_);rintro e w1 ⟨rfl,rfl⟩)
    | (go_at_call 70;(with_reducible refine (CW.out _).mono ?_);rintro e w1 ⟨rfl,rfl⟩)
    | (go_at_call 71;(with_reducible refine (CM.out _).mono ?_);rintro e w1 ⟨rfl,rfl⟩))
  go_ret2
  exact ⟨by rw [show c=bits .and .u32 a s from HC.out.trans H2.out.symm];rfl,(Gr.refl w).alloc _⟩
end Go.Proofs.YthfhamagopbgcaaGreat
namespace Go.Proofs.YthfhamagopbgcaaGreat
set_option linter.unusedSimpArgs false
set_option linter.unusedVariables false
open Go.RowKit

/-- Bits above those of another number are added. -/
theorem or_high {x v:Int} {i:Nat} (h0:0≤x) (h1:x<2 ^ i) (h2:0≤v) (h3:v * 2 ^ i+x<4294967296):bits .or .u32 x (v * 2 ^ i)=x+v * 2 ^ i:=by
 obtain ⟨a,rfl⟩:=Int.eq_ofNat_of_zero_le h0
 obtain ⟨b,rfl⟩:=Int.eq_ofNat_of_zero_le h2
 have hp:((b:Int) * 2 ^ i)=((b * 2 ^ i:Nat):Int):=by simp
 have ha:a<2 ^ i:=by
  have e:((2:Int) ^ i)=((2 ^ i:Nat):Int):=by simp
  rw [e] at h1
  exact_mod_cast h1
 rw [hp] at h3 ⊢
 generalize hm:b * 2 ^ i=m at h3 ⊢
 show IntKind.u32.wrap (((BitVec.ofInt 32 (a:Int) ||| BitVec.ofInt 32 (m:Int)).toNat:Nat):Int)=_
 rw [BitVec.toNat_or,Wd.ofInt_nat _ (by omega),Wd.ofInt_nat _ (by omega)]
 have e:a ||| m=m+a:=by
  rw [← hm,← Nat.shiftLeft_eq,Nat.or_comm]
  exact (Nat.shiftLeft_add_eq_or_of_lt ha b).symm
 rw [e,Wd.wrap_in _ (by omega) (by omega)]
 omega
theorem neg_mask {n x y:Int} (hn:Wd.Wid n):bits .and .u32 ((x+-y) % 4294967296) (Wd.sz n-1)=(x-y) % Wd.sz n:=by
 rw [show x+-y=x-y by omega]
 exact Wd.wrap_mask _ hn
/-- One lane more. -/
theorem lane_next {o l n a b x v:Int} {k m L K:Nat} (hn:Wd.Wid n) (hl1:1≤l) (hL:l=L) (hK:(n / l).toNat=K) (hl3:n % l=0) (hm:m=k * L) (hx:x=Wd.lanes o l k a b) (hlt:(m:Int)<n) (hv:v=Wd.lane1 o (Wd.sz l) (a / 2 ^ m) (b / 2 ^ m)) :
  bits .or .u32 x (v * 2 ^ m % 4294967296)=Wd.lanes o l (k+1) a b∧k+1≤K∧m+L=(k+1) * L:=by
 have hS:Wd.sz l ^ k=2 ^ m:=by
  subst hL
  rw [Wd.sz_pow]
  unfold Wd.sz
  rw [Int.toNat_natCast,hm,Nat.mul_comm]
 have hr:=Wd.lanes_range o l k a b
 have hv2:=Wd.lane1_range o (Wd.sz l) (a / 2 ^ m) (b / 2 ^ m) (Wd.sz_pos l)
 rw [← hv] at hv2
 rw [← hx,hS] at hr
 have hnK:n=l * K:=by
  have q:=Int.mul_ediv_add_emod n l
  have q2:0≤n / l:=Int.ediv_nonneg (by have:=hn.1;omega) (by omega)
  have q3:((K:Nat):Int)=n / l:=by omega
  rw [q3];omega
 have hkK:k<K:=by
  rw [hL] at hnK
  have e:(m:Int)=(L:Int) * k:=by rw [hm];simp [Int.mul_comm]
  rw [e,hnK] at hlt
  have:=Int.lt_of_mul_lt_mul_left hlt (by omega)
  omega
 have hmL:m+L=(k+1) * L:=by rw [hm,Nat.add_mul];omega
 have hb:v * 2 ^ m+x<4294967296:=by
  have h1:v * 2 ^ m+x<Wd.sz l * 2 ^ m:=by
   have:v * 2 ^ m≤(Wd.sz l-1) * 2 ^ m:=Int.mul_le_mul_of_nonneg_right (by omega) (Int.le_of_lt (Int.pow_pos (by decide)))
   rw [Int.sub_mul] at this
   omega
  have h2:Wd.sz l * 2 ^ m≤4294967296:=by
   have e:Wd.sz l * 2 ^ m=Wd.sz ((m+L:Nat):Int):=by
    unfold Wd.sz
    rw [hL,Int.toNat_natCast,Int.toNat_natCast,Nat.add_comm m L,Int.pow_add]
   rw [e]
   refine Int.le_trans (Wd.sz_le ?_) (Wd.sz_32 hn)
   rw [Int.toNat_natCast,hmL,hnK,hL]
   have:(((L:Nat):Int) * ((K:Nat):Int)).toNat=L * K:=by rw [← Int.natCast_mul,Int.toNat_natCast]
   rw [this,Nat.mul_comm L K]
   exact Nat.mul_le_mul_right _ hkK
  omega
 have hnn:0≤v * 2 ^ m:=Int.mul_nonneg hv2.1 (Int.le_of_lt (Int.pow_pos (by decide)))
 refine ⟨?_,hkK,hmL⟩
 rw [Int.emod_eq_of_lt hnn (by omega),or_high hr.1 hr.2 hv2.1 hb,Wd.lanes_step,← hx,hS,← hv]
theorem lane_mask {l a:Int} (hl:Wd.Wid l) (m:Nat) (h0:0≤a) (h1:a<4294967296):bits .and .u32 (a / 2 ^ m) (Wd.sz l-1)=a / 2 ^ m % Wd.sz l:=by
 have hp:(0:Int)≤2 ^ m:=Int.le_of_lt (Int.pow_pos (by decide))
 exact Wd.mask_and hl (Int.ediv_nonneg h0 hp) (Int.lt_of_le_of_lt (Int.ediv_le_self _ h0) h1)
theorem lane_19 {l a b:Int} (hl:Wd.Wid l) (m:Nat) (ha:0≤a∧a<4294967296) (hb:0≤b∧b<4294967296) :
  bits .and .u32 ((bits .and .u32 (a / 2 ^ m) (Wd.sz l-1)+bits .and .u32 (b / 2 ^ m) (Wd.sz l-1)) % 4294967296) (Wd.sz l-1)=Wd.lane1 19 (Wd.sz l) (a / 2 ^ m) (b / 2 ^ m):=by
 rw [Wd.wrap_mask _ hl,lane_mask hl m ha.1 ha.2,lane_mask hl m hb.1 hb.2];rfl
theorem lane_20 {l a b:Int} (hl:Wd.Wid l) (m:Nat) (ha:0≤a∧a<4294967296) (hb:0≤b∧b<4294967296) :
  bits .and .u32 ((bits .and .u32 (a / 2 ^ m) (Wd.sz l-1)+-bits .and .u32 (b / 2 ^ m) (Wd.sz l-1)) % 4294967296) (Wd.sz l-1)=Wd.lane1 20 (Wd.sz l) (a / 2 ^ m) (b / 2 ^ m):=by
 rw [neg_mask hl,lane_mask hl m ha.1 ha.2,lane_mask hl m hb.1 hb.2];rfl
end Go.Proofs.YthfhamagopbgcaaGreat
namespace Go.Proofs.YthfhamagopbgcaaGreat
set_option linter.unusedSimpArgs false
set_option linter.unusedVariables false
open Go.RowKit

set_option maxRecDepth 100000 in
set_option maxHeartbeats 4000000 in
theorem bLanes_any (o n l a b:Int) (w:World) (ho:o=19∨o=20) (hn:Wd.Wid n) (ha:Wd.Word n a) (hb:Wd.Word n b) (hl1:1≤l) (hl2:l<n) (hl3:n % l=0):Calls Tryz.prog 189 #[.int .i64 o,.int .i64 n,.int .i64 l,.int .u32 a,.int .u32 b] w fun e w'=>e=.returned (.tuple #[.int .u32 (Wd.lanes o l (n / l).toNat a b),.int .i64 0])∧Gr w w':=by
 have CF:=Lib.hid (fits2 n a b hn ha hb)
 have hlw:Wd.Wid l:=⟨hl1,by have:=hn.2;omega⟩
 have CM:=Lib.hid fun w1=>bmask_any l w1 hlw
 obtain ⟨n1,n2⟩:=id hn
 obtain ⟨s,hs⟩:∃ s,Wd.sz l-1=s:=⟨_,rfl⟩
 obtain ⟨L,hL⟩:=Int.eq_ofNat_of_zero_le (show 0≤l by omega)
 have HL:=Lib.hid hL
 clear hL
 obtain ⟨K,hK⟩:∃ K,(n / l).toNat=K:=⟨_,rfl⟩
 rw [hs] at CM
 rw [hK]
 have hmod:(n.tmod l != 0)=false:=by rw [Int.tmod_eq_emod_of_nonneg (by omega),hl3];rfl
 have hmod2:(n % l != 0)=false:=by rw [hl3];rfl
 have c0:(l == 0)=false:=by simp;omega
 have HKn:Hid (n=L * K):=by
  show _=_
  have q:=Int.mul_ediv_add_emod n l
  have q2:0≤n / l:=Int.ediv_nonneg (by omega) (by omega)
  have q3:((K:Nat):Int)=n / l:=by omega
  rw [q3,← HL.out];omega
 have hK:=Lib.hid hK
 have hs:=Lib.hid hs
 have ha2:0≤a∧a<4294967296:=⟨ha.1,by have:=Wd.sz_32 hn;have:=ha.2;omega⟩
 have hb2:0≤b∧b<4294967296:=⟨hb.1,by have:=Wd.sz_32 hn;have:=hb.2;omega⟩
 rcases ho with rfl | rfl
 ·have HV:=Lib.hid fun m=>lane_19 hlw m ha2 hb2
  have HN:=Lib.hid fun (k m:Nat) (x v:Int)=>lane_next (o:=19) (a:=a) (b:=b) (x:=x) (v:=v) (k:=k) (m:=m) hn hl1 HL.out hK.out hl3
  rw [hs.out] at HV
  clear hn ha hb hlw hl3 ha2 hb2
  go_enter Tryz.func189, Tryz.ntmps189
  go_wp2_with (go_at_call 211;(with_reducible refine (CF.out _ _ (by simp) (by simp)).mono ?_);rintro e w1 ⟨rfl,rfl⟩)
  have HG:=Lib.hid ((Gr.refl w).alloc (.cells #[.int .u32 a,.int .u32 b] 35))
  go_loopw [12,13] (fun o12 a13 wr=>∃ (k m:Nat) (x:Int),k≤K∧Hid (m=k * L)∧Hid (x=Wd.lanes 19 l k a b)∧o12=.int .u32 x∧a13=.int .i64 (m:Int)∧Hid (Gr w wr)) (fun _ a13 _=>n.toNat-(intOf a13).toNat)
  case atStart=>exact ⟨0,0,0,Nat.zero_le _,by (show _=_;omega),rfl,rfl,rfl,HG⟩
  case round =>
   obtain ⟨k,m,x,hk,hm,hx,rfl,rfl,hg⟩:=hrel
   by_cases hlt:(m:Int)<n
   ·have m32:m<32:=by omega
    have HLT:=Lib.hid hlt
    go_wp2
    go_quiet ((go_at_call 71;exact quiet_same (CM.out _)))
    all_goals go_wp2_with (go_at_call 71;(with_reducible refine (CM.out _).mono ?_);rintro e w1 ⟨rfl,rfl⟩)
    all_goals
     obtain ⟨q1,q2,q3⟩:=HN.out k m x _ hm.out hx.out HLT.out (HV.out m)
     have hLl:=HL.out
     refine ⟨⟨k+1,m+L,_,q2,q3,q1,rfl,?_,hg.out.drewN _⟩,?_⟩
     ·rw [hLl];simp
     ·simp [intOf];omega
   ·have HLT:=Lib.hid hlt
    go_wp2
    go_ret2
    have e:k=K:=by
     have h1:=HKn.out
     have h2:=hm.out
     have h3:¬ (m:Int)<n:=by have:=HLT.out;omega
     rcases Nat.lt_or_ge k K with h | h
     ·exfalso
      apply h3
      rw [h1,h2]
      have:(k:Int)<K:=by omega
      have hLp:(0:Int)<(L:Int):=by have:=HL.out;omega
      have:=Int.mul_lt_mul_of_pos_left this hLp
      rw [Int.natCast_mul,Int.mul_comm]
      exact this
     ·omega
    subst e
    exact ⟨by rw [← hx.out];rfl,hg.out⟩
 ·have HV:=Lib.hid fun m=>lane_20 hlw m ha2 hb2
  have HN:=Lib.hid fun (k m:Nat) (x v:Int)=>lane_next (o:=20) (a:=a) (b:=b) (x:=x) (v:=v) (k:=k) (m:=m) hn hl1 HL.out hK.out hl3
  rw [hs.out] at HV
  clear hn ha hb hlw hl3 ha2 hb2
  go_enter Tryz.func189, Tryz.ntmps189
  go_wp2_with (go_at_call 211;(with_reducible refine (CF.out _ _ (by simp) (by simp)).mono ?_);rintro e w1 ⟨rfl,rfl⟩)
  have HG:=Lib.hid ((Gr.refl w).alloc (.cells #[.int .u32 a,.int .u32 b] 35))
  go_loopw [12,13] (fun o12 a13 wr=>∃ (k m:Nat) (x:Int),k≤K∧Hid (m=k * L)∧Hid (x=Wd.lanes 20 l k a b)∧o12=.int .u32 x∧a13=.int .i64 (m:Int)∧Hid (Gr w wr)) (fun _ a13 _=>n.toNat-(intOf a13).toNat)
  case atStart=>exact ⟨0,0,0,Nat.zero_le _,by (show _=_;omega),rfl,rfl,rfl,HG⟩
  case round =>
   obtain ⟨k,m,x,hk,hm,hx,rfl,rfl,hg⟩:=hrel
   by_cases hlt:(m:Int)<n
   ·have m32:m<32:=by omega
    have HLT:=Lib.hid hlt
    go_wp2
    go_quiet ((go_at_call 71;exact quiet_same (CM.out _)))
    all_goals go_wp2_with (go_at_call 71;(with_reducible refine (CM.out _).mono ?_);rintro e w1 ⟨rfl,rfl⟩)
    all_goals
     obtain ⟨q1,q2,q3⟩:=HN.out k m x _ hm.out hx.out HLT.out (HV.out m)
     have hLl:=HL.out
     refine ⟨⟨k+1,m+L,_,q2,q3,q1,rfl,?_,hg.out.drewN _⟩,?_⟩
     ·rw [hLl];simp
     ·simp [intOf];omega
   ·have HLT:=Lib.hid hlt
    go_wp2
    go_ret2
    have e:k=K:=by
     have h1:=HKn.out
     have h2:=hm.out
     have h3:¬ (m:Int)<n:=by have:=HLT.out;omega
     rcases Nat.lt_or_ge k K with h | h
     ·exfalso
      apply h3
      rw [h1,h2]
      have:(k:Int)<K:=by omega
      have hLp:(0:Int)<(L:Int):=by have:=HL.out;omega
      have:=Int.mul_lt_mul_of_pos_left this hLp
      rw [Int.natCast_mul,Int.mul_comm]
      exact this
     ·omega
    subst e
    exact ⟨by rw [← hx.out];rfl,hg.out⟩
end Go.Proofs.YthfhamagopbgcaaGreat
namespace Go.Proofs.YthfhamagopbgcaaGreat
set_option linter.unusedSimpArgs false
set_option linter.unusedVariables false
open Go.RowKit

/-- A value. -/
def vv (v:Rn.V):Value:=.agg #[.bool v.p,.int .i64 v.s,.int .u32 v.n]
/-- A value as step's result. -/
def vI (v:Rn.V):Value:=.iface 37 (vv v)
/-- The end that is undefined. -/
def undI:Value:=.iface 176 (.agg #[.int .i64 1,.bool false,.int .i64 0,.int .u32 0,.slice none 0 0])
theorem rpoison_any (w:World):Calls Tryz.prog 162 #[] w fun e w'=>e=.returned (.agg #[.bool true,.int .i64 0,.int .u32 0])∧Gr w w':=by
 go_enter Tryz.func162, Tryz.ntmps162
 go_wp2
 exact bodyPost_ret (v:=.agg #[.bool true,.int .i64 0,.int .u32 0]) (by simp [results,Tryz.results162,go_sem]) rfl ⟨rfl,by repeat (first | with_reducible exact Gr.refl _ | with_reducible refine Gr.alloc ?_ _ | with_reducible refine Gr.setCell ?_ (Nat.le_refl _) _)⟩
theorem rtruth_any (b:Bool) (w:World):Calls Tryz.prog 187 #[.bool b] w fun e w'=>e=.returned (.agg #[.bool false,.int .i64 0,.int .u32 (if b=true then 1 else 0)])∧Gr w w':=by
 cases b
 ·go_enter Tryz.func187, Tryz.ntmps187
  go_wp2
  exact bodyPost_ret (v:=.agg #[.bool false,.int .i64 0,.int .u32 0]) (by simp [results,Tryz.results187,go_sem]) rfl ⟨rfl,by repeat (first | with_reducible exact Gr.refl _ | with_reducible refine Gr.alloc ?_ _ | with_reducible refine Gr.setCell ?_ (Nat.le_refl _) _)⟩
 ·go_enter Tryz.func187, Tryz.ntmps187
  go_wp2
  exact bodyPost_ret (v:=.agg #[.bool false,.int .i64 0,.int .u32 1]) (by simp [results,Tryz.results187,go_sem]) rfl ⟨rfl,by repeat (first | with_reducible exact Gr.refl _ | with_reducible refine Gr.alloc ?_ _ | with_reducible refine Gr.setCell ?_ (Nat.le_refl _) _)⟩
theorem isDiv_any (o:Int) (w:World):Calls Tryz.prog 182 #[.int .i64 o] w fun e w'=>e=.returned (.bool (decide (4≤o) && decide (o≤7)))∧w=w':=by
 go_enter Tryz.func182, Tryz.ntmps182
 go_wp2
 all_goals go_ret
 all_goals exact ⟨ret_bool (by (try simp [*]) <;> (try omega)),rfl⟩
theorem least_any (n:Int) (w:World) (hn:Wd.Wid n):Calls Tryz.prog 183 #[.int .i64 n] w fun e w'=>e=.returned (.int .u32 (Wd.sz (n-1)))∧w=w':=by
 obtain ⟨k,ek,eh,hk,h1,h2⟩:=half_facts hn
 obtain ⟨n1,n2⟩:=id hn
 obtain ⟨h,hh⟩:∃ h,Wd.sz (n-1)=h:=⟨_,rfl⟩
 rw [hh] at eh h1 h2 ⊢
 clear hh hn
 go_enter Tryz.func183, Tryz.ntmps183
 go_wp2
 go_ret
 exact ⟨ret_int (by omega),rfl⟩
theorem undef_any (w:World):Calls Tryz.prog 158 #[] w fun e w'=>e=.returned undI∧w=w':=by
 go_enter Tryz.func158, Tryz.ntmps158
 go_wp2
 go_ret
 exact ⟨rfl,rfl⟩
end Go.Proofs.YthfhamagopbgcaaGreat
namespace Go.Proofs.YthfhamagopbgcaaGreat
set_option linter.unusedSimpArgs false
set_option linter.unusedVariables false
open Go.RowKit

/-- The cells that arithmetic reads. -/
abbrev AF (k:Nat) (x:Ins) (ap bp:Bool) (an bn:Int) (w:World):Prop :=
 w.cell? ⟨k,0,none⟩=some (.int .i64 x.op)∧w.cell? ⟨k,1,none⟩=some (.int .i64 x.width)∧w.cell? ⟨k,2,none⟩=some (.int .i64 x.flags)∧w.cell? ⟨k+1,0,none⟩=some (.bool ap)∧w.cell? ⟨k+1,2,none⟩=some (.int .u32 an)∧w.cell? ⟨k+2,0,none⟩=some (.bool bp)∧w.cell? ⟨k+2,2,none⟩=some (.int .u32 bn)
theorem AF.gr {k:Nat} {x:Ins} {ap bp:Bool} {an bn:Int} {w w':World} (h:AF k x ap bp an bn w) (hk:k+2<w.heap.size) (g:Gr w w'):AF k x ap bp an bn w':=by
 obtain ⟨h0,h1,h2,h3,h4,h5,h6⟩:=h
 exact ⟨(g.cell _ _ (by omega)).trans h0,(g.cell _ _ (by omega)).trans h1,(g.cell _ _ (by omega)).trans h2,(g.cell _ _ (by omega)).trans h3,(g.cell _ _ (by omega)).trans h4,(g.cell _ _ (by omega)).trans h5,(g.cell _ _ (by omega)).trans h6⟩
theorem three_size (w:World) (c d e:Obj):(((w.alloc c).alloc d).alloc e).heap.size=w.heap.size+3:=by
 show (((w.heap.push c).push d).push e).size=_
 simp
theorem AF.boxes (w:World) (x:Ins) (va vt:Value) (a b:Rn.V) (t u:TypeId):AF w.heap.size x a.p b.p a.n b.n (((w.alloc (.cells #[.int .i64 x.op,.int .i64 x.width,.int .i64 x.flags,va,.int .u32 x.imm,vt] t)).alloc (.cells #[.bool a.p,.int .i64 a.s,.int .u32 a.n] u)).alloc (.cells #[.bool b.p,.int .i64 b.s,.int .u32 b.n] u)):=by
 have g1:=((Gr.refl (w.alloc (.cells #[.int .i64 x.op,.int .i64 x.width,.int .i64 x.flags,va,.int .u32 x.imm,vt] t))).alloc (.cells #[.bool a.p,.int .i64 a.s,.int .u32 a.n] u)).alloc (.cells #[.bool b.p,.int .i64 b.s,.int .u32 b.n] u)
 have g2:=(Gr.refl ((w.alloc (.cells #[.int .i64 x.op,.int .i64 x.width,.int .i64 x.flags,va,.int .u32 x.imm,vt] t)).alloc (.cells #[.bool a.p,.int .i64 a.s,.int .u32 a.n] u))).alloc (.cells #[.bool b.p,.int .i64 b.s,.int .u32 b.n] u)
 exact ⟨cell_box _ _ 0 g1 rfl,cell_box _ _ 1 g1 rfl,cell_box _ _ 2 g1 rfl,cell_box _ _ 0 g2 (by simp),cell_box _ _ 2 g2 (by simp),cell_box _ _ 0 (Gr.refl _) (by simp),cell_box _ _ 2 (Gr.refl _) (by simp)⟩
theorem sg_least {n:Int} (hn:Wd.Wid n):Wd.sg n (Wd.sz (n-1))=-Wd.sz (n-1):=by
 unfold Wd.sg
 rw [if_pos (Int.le_refl _),Wd.sz_half hn]
 omega
theorem least_word {n:Int} (hn:Wd.Wid n):Wd.Word n (Wd.sz (n-1)):=⟨Int.le_of_lt (Wd.sz_pos _),by rw [Wd.sz_half hn];have:=Wd.sz_pos (n-1);omega⟩
theorem op_div {o n a b:Int} (ho:4≤o∧o≤7):Wd.op o n a b=none↔(b=0∨(o=6∨o=7)∧Wd.sg n b=-1∧Wd.sg n a=-Wd.sz (n-1)):=by
 rcases (by omega:o=4∨o=5∨o=6∨o=7) with rfl | rfl | rfl | rfl
 ·show (if b=0 then none else some (a / b))=none↔_
  split <;> simp_all
 ·show (if b=0 then none else some (a % b))=none↔_
  split <;> simp_all
 ·show (if b=0∨(Wd.sg n a=-Wd.sz (n-1)∧Wd.sg n b=-1) then none else some ((Wd.sg n a).tdiv (Wd.sg n b) % Wd.sz n))=none↔_
  split
  next h=>simp only [true_iff];rcases h with h | h;exact .inl h;exact .inr ⟨by simp,h.2,h.1⟩
  next h=>simp only [reduceCtorEq,false_iff];intro q;apply h;rcases q with q | q;exact .inl q;exact .inr ⟨q.2.2,q.2.1⟩
 ·show (if b=0∨(Wd.sg n a=-Wd.sz (n-1)∧Wd.sg n b=-1) then none else some ((Wd.sg n a).tmod (Wd.sg n b) % Wd.sz n))=none↔_
  split
  next h=>simp only [true_iff];rcases h with h | h;exact .inl h;exact .inr ⟨by simp,h.2,h.1⟩
  next h=>simp only [reduceCtorEq,false_iff];intro q;apply h;rcases q with q | q;exact .inl q;exact .inr ⟨q.2.2,q.2.1⟩
def arithI (o fl n:Int) (a b:Rn.V):Value:=match Rn.arith o fl n a b with | none=>undI | some v=>vI v
/-- What arithmetic answers, case by case. -/
theorem arith_div1 {o fl n:Int} {a b:Rn.V} (ho:4≤o∧o≤7) (h:b.p=true∨b.n=0):arithI o fl n a b=undI:=by
 unfold arithI Rn.arith;rw [if_pos ⟨ho,.inl h⟩]
theorem arith_div2 {o fl n:Int} {a b:Rn.V} (ho:4≤o∧o≤7) (hn:Wd.Wid n) (ha:a.p=true) (h:Wd.op o n (Wd.sz (n-1)) b.n=none):arithI o fl n a b=undI:=by
 rcases (op_div ho).1 h with h | h
 ·exact arith_div1 ho (.inr h)
 ·unfold arithI Rn.arith;rw [if_pos ⟨ho,.inr ⟨h.1,h.2.1,.inl ha⟩⟩]
theorem arith_div3 {o fl n:Int} {a b:Rn.V} (ho:4≤o∧o≤7) (h:Wd.op o n a.n b.n=none):arithI o fl n a b=undI:=by
 rcases (op_div ho).1 h with h | h
 ·exact arith_div1 ho (.inr h)
 ·unfold arithI Rn.arith;rw [if_pos ⟨ho,.inr ⟨h.1,h.2.1,.inr h.2.2⟩⟩]
theorem arith_pois {o fl n:Int} {a b:Rn.V} (h0:¬ ((4≤o∧o≤7)∧((b.p=true∨b.n=0)∨(o=6∨o=7)∧Wd.sg n b.n=-1∧(a.p=true∨Wd.sg n a.n=-Wd.sz (n-1))))) (h:a.p=true∨b.p=true):arithI o fl n a b=vI Rn.poison:=by
 unfold arithI Rn.arith;rw [if_neg h0,if_pos h]
theorem arith_val {o fl n:Int} {a b:Rn.V} (h0:(4≤o∧o≤7)→Wd.op o n a.n b.n≠none) (ha:a.p=false) (hb:b.p=false) :
  arithI o fl n a b=match Wd.op o n a.n b.n with | none=>vI Rn.poison | some z=>if Wd.broken o fl n a.n b.n=true then vI Rn.poison else vI (Rn.word z):=by
 have h1:¬ ((4≤o∧o≤7)∧((b.p=true∨b.n=0)∨(o=6∨o=7)∧Wd.sg n b.n=-1∧(a.p=true∨Wd.sg n a.n=-Wd.sz (n-1)))):=by
  rintro ⟨ho,q⟩
  apply h0 ho
  refine (op_div ho).2 ?_
  rcases q with (q | q) | ⟨q1,q2,q3 | q3⟩
  ·rw [hb] at q;cases q
  ·exact .inl q
  ·rw [ha] at q3;cases q3
  ·exact .inr ⟨q1,q2,q3⟩
 unfold arithI Rn.arith
 rw [if_neg h1,if_neg (by simp [ha,hb])]
 cases hz:Wd.op o n a.n b.n with
 | none=>rfl
 | some z =>
  have:Wd.broken o fl n a.n b.n=Wd.brk o fl n a.n b.n:=by unfold Wd.broken;rw [hz];rfl
  rw [this]
  dsimp only
  by_cases hk:Wd.brk o fl n a.n b.n=true
  ·rw [if_pos hk,if_pos hk]
  ·rw [if_neg hk,if_neg hk]
set_option maxRecDepth 100000 in
set_option maxHeartbeats 4000000 in
theorem rarith_any (x:Ins) (va vt:Value) (a b:Rn.V) (w:World) (ho:1≤x.op∧x.op≤13) (hn:Wd.Wid x.width) (hf:0≤x.flags∧x.flags≤7) (ha:Wd.Word x.width a.n) (hb:Wd.Word x.width b.n) :
  Calls Tryz.prog 163 #[insVal x va vt,vv a,vv b] w fun e w'=>e=.returned (arithI x.op x.flags x.width a b)∧Gr w w':=by
 have CD:=Lib.hid fun w1=>Ops.bDo_any x.op x.width a.n b.n w1 ho hn ha hb
 have CL:=Lib.hid fun w1=>Ops.bDo_any x.op x.width (Wd.sz (x.width-1)) b.n w1 ho hn (least_word hn) hb
 have CB:=Lib.hid fun w1=>bBreaks_any x.op x.flags x.width a.n b.n w1 ho hf hn ha hb
 have CM:=Lib.hid fun w1=>least_any x.width w1 hn
 have CI:=Lib.hid fun w1=>isDiv_any x.op w1
 have HAF:=Lib.hid (AF.boxes w x va vt a b 67 37)
 have D1:=Lib.hid fun (h:4≤x.op∧x.op≤7) (q:b.p=true∨b.n=0)=>arith_div1 (fl:=x.flags) (n:=x.width) (a:=a) h q
 have D2:=Lib.hid fun (h:4≤x.op∧x.op≤7) (q:a.p=true) r=>arith_div2 (fl:=x.flags) (b:=b) h hn q r
 have D3:=Lib.hid fun (h:4≤x.op∧x.op≤7) r=>arith_div3 (fl:=x.flags) (n:=x.width) (a:=a) (b:=b) h r
 have D4:=Lib.hid fun q r=>arith_pois (o:=x.op) (fl:=x.flags) (n:=x.width) (a:=a) (b:=b) q r
 have D5:=Lib.hid fun q r s=>arith_val (o:=x.op) (fl:=x.flags) (n:=x.width) (a:=a) (b:=b) q r s
 have OD:=Lib.hid fun (h:4≤x.op∧x.op≤7) c=>op_div (n:=x.width) (a:=c) (b:=b.n) h
 obtain ⟨z,hz⟩:∃ z,Wd.op x.op x.width a.n b.n=z:=⟨_,rfl⟩
 obtain ⟨zl,hzl⟩:∃ z,Wd.op x.op x.width (Wd.sz (x.width-1)) b.n=z:=⟨_,rfl⟩
 obtain ⟨br,hbr⟩:∃ z,Wd.broken x.op x.flags x.width a.n b.n=z:=⟨_,rfl⟩
 have HSL:=Lib.hid (sg_least hn)
 obtain ⟨sl,hsl⟩:∃ z,Wd.sz (x.width-1)=z:=⟨_,rfl⟩
 rw [hz] at CD D3 D5
 rw [hzl] at CL D2
 rw [hbr] at CB D5
 rw [hsl] at CL CM
 obtain ⟨R,hR⟩:∃ R,arithI x.op x.flags x.width a b=R:=⟨_,rfl⟩
 rw [hR] at D1 D2 D3 D4 D5 ⊢
 rw [hsl] at hzl OD HSL
 have HZ:=Lib.hid hz
 have HZL:=Lib.hid hzl
 clear ho hn hf ha hb hz hzl hbr hsl hR
 obtain ⟨W,hW⟩:∃ W,((w.alloc (.cells #[.int .i64 x.op,.int .i64 x.width,.int .i64 x.flags,va,.int .u32 x.imm,vt] 67)).alloc (.cells #[.bool a.p,.int .i64 a.s,.int .u32 a.n] 37)).alloc (.cells #[.bool b.p,.int .i64 b.s,.int .u32 b.n] 37)=W:=⟨_,rfl⟩
 have hWs:W.heap.size=w.heap.size+3:=by rw [← hW];exact three_size _ _ _ _
 have hB0:Gr w W:=by rw [← hW];exact (((Gr.refl w).alloc _).alloc _).alloc _
 rw [hW] at HAF
 have HG:=Lib.hid hB0
 have HS:=Lib.hid hWs
 obtain ⟨ap,as_,an⟩:=a
 obtain ⟨bp,bs_,bn⟩:=b
 dsimp only at *
 obtain ⟨k0,k1,k2,k3,k4,k5,k6⟩:=HAF.out
 have f4:W.frozen? ⟨w.heap.size+1,2,none⟩=false:=by rw [← hW];exact (World.frozen?_alloc_past _ _ _ (by simp)).trans (World.frozen?_alloc_at _ _ _ _ (by simp))
 clear hB0 hWs
 unfold insVal vv
 by_cases hd:4≤x.op∧x.op≤7
 ·have CT:Hid (∀ w1,Calls Tryz.prog 182 #[.int .i64 x.op] w1 fun e w'=>e=.returned (.bool true)∧w1=w'):=fun w1=>by
   have:=CI.out w1
   rwa [show (decide (4≤x.op) && decide (x.op≤7))=true by simp [hd]] at this
  have HD:=Lib.hid hd
  clear CI hd
  cases bp
  case true =>
   have HE:Hid (undI=R):=(D1.out HD.out (.inl rfl)).symm
   go_enter Tryz.func163, Tryz.ntmps163
   go_wp2_with (first
     | (go_at_call 182;(with_reducible refine (CT.out _).mono ?_);rintro e w1 ⟨rfl,rfl⟩)
     | (go_at_call 158;(with_reducible refine (undef_any _).mono ?_);rintro e w1 ⟨rfl,rfl⟩)
     | (go_at_call 162;(with_reducible refine (rpoison_any _).mono ?_);rintro e w8 ⟨rfl,g8⟩))
   go_ret
   exact ⟨by rw [← HE.out];rfl,HG.out⟩
  case false =>
  by_cases hb0:bn=0
  ·subst hb0
   have HE:Hid (undI=R):=(D1.out HD.out (.inr rfl)).symm
   go_enter Tryz.func163, Tryz.ntmps163
   go_wp2_with (first
     | (go_at_call 182;(with_reducible refine (CT.out _).mono ?_);rintro e w1 ⟨rfl,rfl⟩)
     | (go_at_call 158;(with_reducible refine (undef_any _).mono ?_);rintro e w1 ⟨rfl,rfl⟩)
     | (go_at_call 162;(with_reducible refine (rpoison_any _).mono ?_);rintro e w8 ⟨rfl,g8⟩))
   go_ret
   exact ⟨by rw [← HE.out];rfl,HG.out⟩
  ·have c0:(bn == 0)=false:=by simpa using hb0
   have HB0:=Lib.hid hb0
   clear hb0
   cases ap
   case true =>
    have HK3:Hid ((W.setCell ⟨w.heap.size+1,2,none⟩ (.int .u32 sl)).cell? ⟨w.heap.size+1,0,none⟩=some (.bool true)):=(World.cell?_setCell_other (a:=⟨w.heap.size+1,2,none⟩) (b:=⟨w.heap.size+1,0,none⟩) _ _ (fun e=>by injection e with _ e2;cases e2)).trans k3
    have HGs:=Lib.hid (HG.out.setCell (p:=⟨w.heap.size+1,2,none⟩) (by simp) (.int .u32 sl))
    obtain _ | y:=zl
    ·have HE:Hid (undI=R):=(D2.out HD.out rfl rfl).symm
     go_enter Tryz.func163, Tryz.ntmps163
     go_wp2_with (first
        | (go_at_call 182;(with_reducible refine (CT.out _).mono ?_);rintro e w1 ⟨rfl,rfl⟩)
        | (go_at_call 158;(with_reducible refine (undef_any _).mono ?_);rintro e w1 ⟨rfl,rfl⟩)
        | (go_at_call 162;(with_reducible refine (rpoison_any _).mono ?_);rintro e w8 ⟨rfl,g8⟩)
        | (go_at_call 183;(with_reducible refine (CM.out _).mono ?_);rintro e w1 ⟨rfl,rfl⟩)
        | (go_at_call 184;(with_reducible refine (CL.out _).mono ?_);rintro e w5 ⟨rfl,g5⟩;have l3:=(g5.cell (w.heap.size+1) 0 (by simp;have:=HS.out;omega)).trans HK3.out))
     go_ret
     exact ⟨by rw [← HE.out];rfl,HGs.out.trans g5⟩
    ·have HE:Hid (vI Rn.poison=R):=by
      refine (D4.out ?_ (.inl rfl)).symm
      rintro ⟨q0,q⟩
      have:Wd.op x.op x.width sl bn=none:=(OD.out q0 sl).2 (by
        rcases q with (q | q) | ⟨q1,q2,q3⟩
        · cases q
        · exact .inl q
        · exact .inr ⟨q1,q2,HSL.out⟩)
      rw [HZL.out] at this;cases this
     go_enter Tryz.func163, Tryz.ntmps163
     go_wp2_with (first
        | (go_at_call 182;(with_reducible refine (CT.out _).mono ?_);rintro e w1 ⟨rfl,rfl⟩)
        | (go_at_call 158;(with_reducible refine (undef_any _).mono ?_);rintro e w1 ⟨rfl,rfl⟩)
        | (go_at_call 162;(with_reducible refine (rpoison_any _).mono ?_);rintro e w8 ⟨rfl,g8⟩)
        | (go_at_call 183;(with_reducible refine (CM.out _).mono ?_);rintro e w1 ⟨rfl,rfl⟩)
        | (go_at_call 184;(with_reducible refine (CL.out _).mono ?_);rintro e w5 ⟨rfl,g5⟩;have l3:=(g5.cell (w.heap.size+1) 0 (by simp;have:=HS.out;omega)).trans HK3.out))
     go_ret
     exact ⟨by rw [← HE.out];rfl,(HGs.out.trans g5).trans g8⟩
   case false =>
    have tok1:=True.intro
    have tok2:=True.intro
    obtain _ | y:=z
    ·have HE:Hid (undI=R):=(D3.out HD.out rfl).symm
     go_enter Tryz.func163, Tryz.ntmps163
     go_wp2_with (first
        | (go_at_call 182;(with_reducible refine (CT.out _).mono ?_);rintro e w1 ⟨rfl,rfl⟩)
        | (go_at_call 158;(with_reducible refine (undef_any _).mono ?_);rintro e w1 ⟨rfl,rfl⟩)
        | (go_at_call 162;(with_reducible refine (rpoison_any _).mono ?_);rintro e w8 ⟨rfl,g8⟩)
        | (go_at_call 184;have _t:=tok1;(with_reducible refine (CD.out _).mono ?_);rintro e w5 ⟨rfl,g5⟩;clear _t tok1;obtain ⟨l0,l1,l2,l3,l4,l5,l6⟩:=AF.gr HAF.out (by have:=HS.out;omega) g5;have HZ5:=Lib.hid (show w.heap.size+2<w5.heap.size by have:=HS.out;have:=g5.size;omega);have HA5:=Lib.hid (AF.gr HAF.out (by have:=HS.out;omega) g5))
        | (go_at_call 184;have _t:=tok2;(with_reducible refine (CD.out _).mono ?_);rintro e w6 ⟨rfl,g6⟩;clear _t tok2;obtain ⟨m0,m1,m2,m3,m4,m5,m6⟩:=AF.gr HA5.out HZ5.out g6)
        | (go_at_call 185;(with_reducible refine (CB.out _).mono ?_);rintro e w7 ⟨rfl,g7⟩))
     go_ret
     exact ⟨by rw [← HE.out];rfl,HG.out.trans g5⟩
    ·have HE:Hid ((if br=true then vI Rn.poison else vI (Rn.word y))=R):=(D5.out (fun _=>by simp) rfl rfl).symm
     cases br
     case false =>
      go_enter Tryz.func163, Tryz.ntmps163
      go_wp2_with (first
        | (go_at_call 182;(with_reducible refine (CT.out _).mono ?_);rintro e w1 ⟨rfl,rfl⟩)
        | (go_at_call 158;(with_reducible refine (undef_any _).mono ?_);rintro e w1 ⟨rfl,rfl⟩)
        | (go_at_call 162;(with_reducible refine (rpoison_any _).mono ?_);rintro e w8 ⟨rfl,g8⟩)
        | (go_at_call 184;have _t:=tok1;(with_reducible refine (CD.out _).mono ?_);rintro e w5 ⟨rfl,g5⟩;clear _t tok1;obtain ⟨l0,l1,l2,l3,l4,l5,l6⟩:=AF.gr HAF.out (by have:=HS.out;omega) g5;have HZ5:=Lib.hid (show w.heap.size+2<w5.heap.size by have:=HS.out;have:=g5.size;omega);have HA5:=Lib.hid (AF.gr HAF.out (by have:=HS.out;omega) g5))
        | (go_at_call 184;have _t:=tok2;(with_reducible refine (CD.out _).mono ?_);rintro e w6 ⟨rfl,g6⟩;clear _t tok2;obtain ⟨m0,m1,m2,m3,m4,m5,m6⟩:=AF.gr HA5.out HZ5.out g6)
        | (go_at_call 185;(with_reducible refine (CB.out _).mono ?_);rintro e w7 ⟨rfl,g7⟩))
      go_ret
      exact ⟨by rw [← HE.out];rfl,((HG.out.trans g5).trans g6).trans g7⟩
     case true =>
      go_enter Tryz.func163, Tryz.ntmps163
      go_wp2_with (first
        | (go_at_call 182;(with_reducible refine (CT.out _).mono ?_);rintro e w1 ⟨rfl,rfl⟩)
        | (go_at_call 158;(with_reducible refine (undef_any _).mono ?_);rintro e w1 ⟨rfl,rfl⟩)
        | (go_at_call 162;(with_reducible refine (rpoison_any _).mono ?_);rintro e w8 ⟨rfl,g8⟩)
        | (go_at_call 184;have _t:=tok1;(with_reducible refine (CD.out _).mono ?_);rintro e w5 ⟨rfl,g5⟩;clear _t tok1;obtain ⟨l0,l1,l2,l3,l4,l5,l6⟩:=AF.gr HAF.out (by have:=HS.out;omega) g5;have HZ5:=Lib.hid (show w.heap.size+2<w5.heap.size by have:=HS.out;have:=g5.size;omega);have HA5:=Lib.hid (AF.gr HAF.out (by have:=HS.out;omega) g5))
        | (go_at_call 184;have _t:=tok2;(with_reducible refine (CD.out _).mono ?_);rintro e w6 ⟨rfl,g6⟩;clear _t tok2;obtain ⟨m0,m1,m2,m3,m4,m5,m6⟩:=AF.gr HA5.out HZ5.out g6)
        | (go_at_call 185;(with_reducible refine (CB.out _).mono ?_);rintro e w7 ⟨rfl,g7⟩))
      go_ret
      exact ⟨by rw [← HE.out];rfl,(((HG.out.trans g5).trans g6).trans g7).trans g8⟩
 ·have CT:Hid (∀ w1,Calls Tryz.prog 182 #[.int .i64 x.op] w1 fun e w'=>e=.returned (.bool false)∧w1=w'):=fun w1=>by
   have:=CI.out w1
   rwa [show (decide (4≤x.op) && decide (x.op≤7))=false by simp;omega] at this
  have HD:=Lib.hid hd
  clear CI hd
  cases ap
  case true =>
   have HE:Hid (vI Rn.poison=R):=(D4.out (fun q=>HD.out q.1) (.inl rfl)).symm
   go_enter Tryz.func163, Tryz.ntmps163
   go_wp2_with (first
     | (go_at_call 182;(with_reducible refine (CT.out _).mono ?_);rintro e w1 ⟨rfl,rfl⟩)
     | (go_at_call 158;(with_reducible refine (undef_any _).mono ?_);rintro e w1 ⟨rfl,rfl⟩)
     | (go_at_call 162;(with_reducible refine (rpoison_any _).mono ?_);rintro e w8 ⟨rfl,g8⟩))
   go_ret
   exact ⟨by rw [← HE.out];rfl,HG.out.trans g8⟩
  case false =>
  cases bp
  case true =>
   have HE:Hid (vI Rn.poison=R):=(D4.out (fun q=>HD.out q.1) (.inr rfl)).symm
   go_enter Tryz.func163, Tryz.ntmps163
   go_wp2_with (first
     | (go_at_call 182;(with_reducible refine (CT.out _).mono ?_);rintro e w1 ⟨rfl,rfl⟩)
     | (go_at_call 158;(with_reducible refine (undef_any _).mono ?_);rintro e w1 ⟨rfl,rfl⟩)
     | (go_at_call 162;(with_reducible refine (rpoison_any _).mono ?_);rintro e w8 ⟨rfl,g8⟩))
   go_ret
   exact ⟨by rw [← HE.out];rfl,HG.out.trans g8⟩
  case false =>
   obtain _ | y:=z
   ·have HE:Hid (vI Rn.poison=R):=(D5.out (fun q=>absurd q HD.out) rfl rfl).symm
    cases br
    all_goals
     go_enter Tryz.func163, Tryz.ntmps163
     go_wp2_with (first
        | (go_at_call 182;(with_reducible refine (CT.out _).mono ?_);rintro e w1 ⟨rfl,rfl⟩)
        | (go_at_call 158;(with_reducible refine (undef_any _).mono ?_);rintro e w1 ⟨rfl,rfl⟩)
        | (go_at_call 162;(with_reducible refine (rpoison_any _).mono ?_);rintro e w8 ⟨rfl,g8⟩)
        | (go_at_call 184;(with_reducible refine (CD.out _).mono ?_);rintro e w5 ⟨rfl,g5⟩;obtain ⟨l0,l1,l2,l3,l4,l5,l6⟩:=AF.gr HAF.out (by have:=HS.out;omega) g5)
        | (go_at_call 185;(with_reducible refine (CB.out _).mono ?_);rintro e w7 ⟨rfl,g7⟩))
     go_ret
     exact ⟨by rw [← HE.out];rfl,((HG.out.trans g5).trans g7).trans g8⟩
   ·have HE:Hid ((if br=true then vI Rn.poison else vI (Rn.word y))=R):=(D5.out (fun q=>absurd q HD.out) rfl rfl).symm
    cases br
    case false =>
     go_enter Tryz.func163, Tryz.ntmps163
     go_wp2_with (first
        | (go_at_call 182;(with_reducible refine (CT.out _).mono ?_);rintro e w1 ⟨rfl,rfl⟩)
        | (go_at_call 158;(with_reducible refine (undef_any _).mono ?_);rintro e w1 ⟨rfl,rfl⟩)
        | (go_at_call 162;(with_reducible refine (rpoison_any _).mono ?_);rintro e w8 ⟨rfl,g8⟩)
        | (go_at_call 184;(with_reducible refine (CD.out _).mono ?_);rintro e w5 ⟨rfl,g5⟩;obtain ⟨l0,l1,l2,l3,l4,l5,l6⟩:=AF.gr HAF.out (by have:=HS.out;omega) g5)
        | (go_at_call 185;(with_reducible refine (CB.out _).mono ?_);rintro e w7 ⟨rfl,g7⟩))
     go_ret
     exact ⟨by rw [← HE.out];rfl,(HG.out.trans g5).trans g7⟩
    case true =>
     go_enter Tryz.func163, Tryz.ntmps163
     go_wp2_with (first
        | (go_at_call 182;(with_reducible refine (CT.out _).mono ?_);rintro e w1 ⟨rfl,rfl⟩)
        | (go_at_call 158;(with_reducible refine (undef_any _).mono ?_);rintro e w1 ⟨rfl,rfl⟩)
        | (go_at_call 162;(with_reducible refine (rpoison_any _).mono ?_);rintro e w8 ⟨rfl,g8⟩)
        | (go_at_call 184;(with_reducible refine (CD.out _).mono ?_);rintro e w5 ⟨rfl,g5⟩;obtain ⟨l0,l1,l2,l3,l4,l5,l6⟩:=AF.gr HAF.out (by have:=HS.out;omega) g5)
        | (go_at_call 185;(with_reducible refine (CB.out _).mono ?_);rintro e w7 ⟨rfl,g7⟩))
     go_ret
     exact ⟨by rw [← HE.out];rfl,((HG.out.trans g5).trans g7).trans g8⟩
end Go.Proofs.YthfhamagopbgcaaGreat
namespace Go.Proofs.YthfhamagopbgcaaGreat
set_option linter.unusedSimpArgs false
set_option linter.unusedVariables false
open Go.RowKit

/-- The cells of values. -/
def encVs:List Rn.V→List Value
 | []=>[]
 | v::r=>.bool v.p::.int .i64 v.s::.int .u32 v.n::encVs r
theorem encVs_len:∀ l:List Rn.V,(encVs l).length=3 * l.length
 | []=>rfl
 | v::r=>by simp [encVs,encVs_len r];omega
theorem encVs_get:∀ (l:List Rn.V) (k:Nat) (v:Rn.V),l[k]?=some v→(encVs l)[3 * k]?=some (.bool v.p)∧(encVs l)[3 * k+1]?=some (.int .i64 v.s)∧(encVs l)[3 * k+2]?=some (.int .u32 v.n)
 | [],k,v,h=>by simp at h
 | u::r,0,v,h=>by simp at h;subst h;exact ⟨rfl,rfl,rfl⟩
 | u::r,k+1,v,h=>by
  obtain ⟨h0,h1,h2⟩:=encVs_get r k v (by simpa using h)
  refine ⟨?_,?_,?_⟩
  ·rw [show 3 * (k+1)=(3 * k)+1+1+1 by omega];simpa [encVs] using h0
  ·rw [show 3 * (k+1)+1=(3 * k+1)+1+1+1 by omega];simpa [encVs] using h1
  ·rw [show 3 * (k+1)+2=(3 * k+2)+1+1+1 by omega];simpa [encVs] using h2
theorem encVs_set:∀ (l:List Rn.V) (k:Nat) (v:Rn.V),(((encVs l).set (3 * k) (.bool v.p)).set (3 * k+1) (.int .i64 v.s)).set (3 * k+2) (.int .u32 v.n)=encVs (l.set k v)
 | [],k,v=>by simp [encVs]
 | u::r,0,v=>rfl
 | u::r,k+1,v=>by
  have:=encVs_set r k v
  rw [show 3 * (k+1)=(3 * k)+1+1+1 by omega,show 3 * k+1+1+1+1=(3 * k+1)+1+1+1 by omega,show 3 * k+1+1+1+2=(3 * k+2)+1+1+1 by omega]
  simp only [encVs,List.set_cons_succ]
  rw [this]
/-- Where a run's state lies: blocks and slices. us: the block and the capacity of each slot. -/
structure Cfg where
 n₀:Nat
 f:Fn
 vp:Value
 vs:Value
 vb:Value
 ch:Value
 Bf:Nat
 cf:Nat
 Am:Option Addr
 Bm:Nat
 cm:Nat
 us:List (Nat × Nat)
 Bs:Nat
 Bv:Nat
 Bh:Nat
def Cfg.mv (c:Cfg):Value:=.slice c.Am c.us.length c.cm
def Cfg.first (c:Cfg):Value:=.slice (some ⟨c.Bf,0,none⟩) c.f.blocks.length c.cf
def stRow (c:Cfg) (n:Nat) (b frm:Int) (k:Nat) (vt:Value):Array Value :=
 #[c.vp,.int .i64 c.f.ret,c.vs,c.vb,c.ch,.slice (some ⟨c.Bv,0,none⟩) n n,.slice (some ⟨c.Bh,0,none⟩) n n,c.first,c.mv,.int .i64 b,.int .i64 frm,.int .i64 k,vt]
/-- The memory of a run. -/
def MemAt (c:Cfg) (w:World) (mem:List (List Int)):Prop :=
 mem.length=c.us.length∧∀ (j b cp:Nat) (l:List Int),c.us[j]?=some (b,cp)→mem[j]?=some l→l.length≤cp∧cp≤9223372036854775807∧∃ cur:Array Value,w.heap[b]?=some (.cells cur 3 (0,0))∧∀ (i:Nat) (z:Int),l[i]?=some z→cur[i]?=some (.int .i64 z)
/-- The slices of the memory's slots. -/
def SlotsAt (c:Cfg) (w:World):Prop :=
 c.us.length≤c.cm∧c.cm≤9223372036854775807∧(0<c.us.length→c.Am=some ⟨c.Bm,0,none⟩∧∃ cur:Array Value,w.heap[c.Bm]?=some (.cells cur 22 (0,0))∧∀ (j b cp:Nat) (n:Int),c.us[j]?=some (b,cp)→c.f.slots[j]?=some n→cur[j]?=some (.slice (some ⟨b,0,none⟩) n.toNat cp))
structure PS (c:Cfg) (w:World) (s:Rn.St) (b frm:Int) (vt:Value):Prop where
 st:w.heap[c.Bs]?=some (.cells (stRow c s.vals.length b frm s.steps vt) 100 (0,0))
 vals:w.heap[c.Bv]?=some (.cells (encVs s.vals).toArray 37 (0,0))
 had:w.heap[c.Bh]?=some (.cells (s.had.map Value.bool).toArray 4 (0,0))
 hlen:s.had.length=s.vals.length
 mem:MemAt c w s.mem
 slots:SlotsAt c w
 fn:FnAt c.n₀ w (.agg #[c.vp,.int .i64 c.f.ret,c.vs,c.vb]) c.f
 first:c.f.blocks.length≤c.cf∧c.cf≤9223372036854775807∧∃ cur:Array Value,w.heap[c.Bf]?=some (.cells cur 3 (0,0))∧∀ j:Nat,j<c.f.blocks.length→cur[j]?=some (.int .i64 (Ref.number c.f j:Nat))
 old:c.n₀≤c.Bs∧c.n₀≤c.Bv∧c.n₀≤c.Bh∧c.n₀≤c.Bf∧c.n₀≤c.Bm∧∀ (j b cp:Nat),c.us[j]?=some (b,cp)→c.n₀≤b∧b≠c.Bf
 apart:(c.us.map (·.1)).Nodup
section
variable {c:Cfg} {w w':World} {s:Rn.St} {b frm:Int} {vt:Value}
theorem PS.cell (h:PS c w s b frm vt) (i:Nat):w.cell? ⟨c.Bs,i,none⟩=(stRow c s.vals.length b frm s.steps vt)[i]?:=cell_of_row _ _ i _ _ _ h.st
theorem lt_of_heap {w:World} {k:Nat} {o:Obj} (h:w.heap[k]?=some o):k<w.heap.size:=(Array.getElem?_eq_some_iff.1 h).1
theorem PS.n₀ (h:PS c w s b frm vt):c.n₀≤w.heap.size:=by have:=lt_of_heap h.st;have:=h.old.1;omega
theorem PS.gr (h:PS c w s b frm vt) (g:Gr w w'):PS c w' s b frm vt where
 st:=(g.heap _ (lt_of_heap h.st)).trans h.st
 vals:=(g.heap _ (lt_of_heap h.vals)).trans h.vals
 had:=(g.heap _ (lt_of_heap h.had)).trans h.had
 hlen:=h.hlen
 mem:=⟨h.mem.1,fun j b cp l h1 h2=>by
   obtain ⟨q1,q2,cur,q3,q4⟩:=h.mem.2 j b cp l h1 h2
   exact ⟨q1,q2,cur,(g.heap _ (lt_of_heap q3)).trans q3,q4⟩⟩
 slots:=⟨h.slots.1,h.slots.2.1,fun hm=>by
   obtain ⟨q1,cur,q2,q3⟩:=h.slots.2.2 hm
   exact ⟨q1,cur,(g.heap _ (lt_of_heap q2)).trans q2,q3⟩⟩
 fn:=h.fn.below (Below.mono g h.n₀)
 first:=by
  obtain ⟨q1,q2,cur,q3,q4⟩:=h.first
  exact ⟨q1,q2,cur,(g.heap _ (lt_of_heap q3)).trans q3,q4⟩
 old:=h.old
 apart:=h.apart
theorem PS.firstAt (h:PS c w s b frm vt) (j:Nat) (hj:j<c.f.blocks.length):w.cell? ⟨c.Bf,j,none⟩=some (.int .i64 (Ref.number c.f j:Nat)):=by
 obtain ⟨q1,q2,cur,q3,q4⟩:=h.first
 exact (cell_of_row _ _ j _ _ _ q3).trans (q4 j hj)
end
end Go.Proofs.YthfhamagopbgcaaGreat
namespace Go.Proofs.YthfhamagopbgcaaGreat
set_option linter.unusedSimpArgs false
set_option linter.unusedVariables false
open Go.RowKit

/-- What is asked of a function: it is valid, its numbers are what they can be. -/
structure VFn (f:Fn):Prop where
 val:Ref.Val f
 im:Rn.Im f
theorem number_lt_of (f:Fn) (hv:Ref.Val f) {j k i:Nat} {l:List Ins} (hl:f.blocks[j]?=some l) (hi:i<l.length) (hk:j<k):Ref.number f j+i<Ref.number f k:=by
 have:=Ref.number_le f hl hk
 omega
set_option maxRecDepth 100000 in
set_option maxHeartbeats 4000000 in
theorem rkind_any {c:Cfg} {w:World} {s:Rn.St} {b frm:Int} {vt:Value} (h:PS c w s b frm vt) (hf:VFn c.f) (v:Int) (h0:0≤v) (h1:v<Ref.count c.f) :
  Calls Tryz.prog 161 #[.pointer (some ⟨c.Bs,0,none⟩),.int .i64 v] w fun e w'=>e=.returned (.int .i64 (Ref.kind c.f v))∧Gr w w':=by
 have c0:w.cell? ⟨c.Bs,0,none⟩=some c.vp:=h.cell 0
 have c3:w.cell? ⟨c.Bs,3,none⟩=some c.vb:=h.cell 3
 have c7:w.cell? ⟨c.Bs,7,none⟩=some c.first:=h.cell 7
 have HF:=Lib.hid fun j hj=>h.firstAt j hj
 have hfn:=h.fn
 have hsz:=hf.val.size
 obtain ⟨vp',vs',vb',e,hp,-,hb⟩:=hfn
 injection e with e
 injection e with e
 injection e with e1 e
 injection e with _ e
 injection e with _ e
 injection e with e2 _
 rw [e1] at c0
 rw [e2] at c3
 obtain ⟨f1,f2,-⟩:=h.first
 unfold Cfg.first at c7
 rcases Ref.home_of c.f h0 h1 with ⟨-,hlt⟩ | ⟨j,i,l,x,hl,hx,rfl⟩
 ·obtain ⟨k,rfl⟩:=Int.eq_ofNat_of_zero_le h0
  obtain ⟨Ap,cp,rfl,p1,p2,p3⟩:=hp
  obtain ⟨bp,op,rfl,-,p4⟩:=p3 (by omega)
  obtain ⟨z,hz⟩:∃ z,c.f.params[k]?=some z:=⟨_,List.getElem?_eq_getElem (by omega)⟩
  have hc:=p4 k z hz
  have HK:Hid (Ref.kind c.f (k:Int)=z):=by
   show _=_
   unfold Ref.kind
   rw [if_neg (by omega),if_pos hlt,Int.toNat_natCast,List.getD_eq_getElem?_getD,hz];rfl
  have hk:k<c.f.params.length:=by omega
  clear p3 p4 hz hb HF h hf h0 h1 e1 e2
  go_enter Tryz.func161, Tryz.ntmps161
  go_wp2
  go_ret
  exact ⟨ret_int HK.out.symm,Gr.refl _⟩
 ·have hjb:j<c.f.blocks.length:=(List.getElem?_eq_some_iff.1 hl).1
  have hil:i<l.length:=(List.getElem?_eq_some_iff.1 hx).1
  have HK:Hid (Ref.kind c.f ((Ref.number c.f j+i:Nat):Int)=x.width):=Ref.kind_at c.f hl hx
  have HN:Hid (∀ k,j<k→k<c.f.blocks.length→Ref.number c.f j+i<Ref.number c.f k):=fun k hk _=>number_lt_of c.f hf.val hl hil hk
  have hpl:(c.f.params.length:Int)≤((Ref.number c.f j+i:Nat):Int):=by unfold Ref.number;omega
  obtain ⟨Ab,cb,rfl,b1,b2,b3⟩:=hb
  obtain ⟨bb,ob,rfl,-,b4⟩:=b3 (by omega)
  obtain ⟨u,hu,hbl⟩:=b4 j l hl
  obtain ⟨Al,cl,rfl,l1,l2,l3⟩:=hbl
  obtain ⟨bl,ol,rfl,-,l4⟩:=l3 (by omega)
  obtain ⟨-,-,-,hw,-⟩:=l4 i x hx
  obtain ⟨Ap,cp,rfl,p1,p2,-⟩:=hp
  have hcnt:((Ref.number c.f j+i:Nat):Int)<100:=by
   have e:Ref.count c.f=c.f.params.length+Ref.total c.f.blocks:=by unfold Ref.count Ref.number;rw [List.take_length]
   omega
  obtain ⟨q,hq⟩:∃ q,Ref.number c.f j=q:=⟨_,rfl⟩
  have HQ:=Lib.hid hq
  rw [hq] at hpl hcnt HK HN ⊢
  obtain ⟨v,hv⟩:∃ v:Int,((q+i:Nat):Int)=v:=⟨_,rfl⟩
  rw [hv] at hpl hcnt HK ⊢
  have HV:=Lib.hid hv
  have v0:0≤v:=by omega
  have hb10:c.f.blocks.length≤10:=hsz.2.2.2.1
  clear hq hv b3 b4 l3 l4 hl hx h hf h0 h1 e1 e2 hsz
  go_enter Tryz.func161, Tryz.ntmps161
  go_wp2
  go_loop [5] (fun s5=>∃ k:Nat,j≤k∧k<c.f.blocks.length∧s5=.int .i64 (k:Int)) (fun s5=>(intOf s5).toNat)
  case atStart=>exact ⟨c.f.blocks.length-1,by omega,by omega,by congr 1;omega⟩
  case round =>
   obtain ⟨k,hjk,hkb,rfl⟩:=hrel
   have hck:=HF.out k hkb
   by_cases he:j=k
   ·subst he
    rw [HQ.out] at hck
    have hle:((q:Nat):Int)≤v:=by have:=HV.out;omega
    have hwr:IntKind.i64.wrap (v-(q:Int))=(i:Int):=by rw [IntWalk.i64_in _ (by have:=HV.out;omega)];have:=HV.out;omega
    go_wp2
    go_quiet ((fail))
    all_goals go_wp2
    all_goals go_ret
    all_goals exact ⟨ret_int HK.out.symm,(Gr.refl w).drewN _⟩
   ·have hlt:v<((Ref.number c.f k:Nat):Int):=by have:=HN.out k (by omega) hkb;have:=HV.out;omega
    obtain ⟨r,hr⟩:∃ r:Int,((Ref.number c.f k:Nat):Int)=r:=⟨_,rfl⟩
    rw [hr] at hck hlt
    clear hr
    go_wp2
    go_round
    case rel=>exact ⟨k-1,by omega,by omega,by congr 1;omega⟩
    case measure=>simp [intOf];omega
end Go.Proofs.YthfhamagopbgcaaGreat
namespace Go.Proofs.YthfhamagopbgcaaGreat
set_option linter.unusedSimpArgs false
set_option linter.unusedVariables false
open Go.RowKit

/-- The slot that a pointer points into. -/
theorem PS.slot {c:Cfg} {w:World} {s:Rn.St} {b frm:Int} {vt:Value} (h:PS c w s b frm vt) (hf:VFn c.f) (hi:Rn.Inv c.f s) {p:Rn.V} (h1:1≤p.s) (h2:p.s≤c.f.slots.length) :
  ∃ (bj cp:Nat) (l:List Int),c.us[(p.s-1).toNat]?=some (bj,cp)∧s.mem[(p.s-1).toNat]?=some l∧s.mem.getD (p.s-1).toNat []=l∧l.length≤cp∧cp≤9223372036854775807∧(p.s-1).toNat<c.us.length∧c.us.length≤c.cm∧c.cm≤9223372036854775807 ∧
   c.Am=some ⟨c.Bm,0,none⟩∧w.cell? ⟨c.Bm,(p.s-1).toNat,none⟩=some (.slice (some ⟨bj,0,none⟩) l.length cp)∧l.length≤8 ∧
   ∃ cur:Array Value,w.heap[bj]?=some (.cells cur 3 (0,0))∧∀ (i:Nat) (z:Int),l[i]?=some z→cur[i]?=some (.int .i64 z):=by
 have hm:=hi.mem
 have hlen:s.mem.length=c.f.slots.length:=by rw [← hm];simp
 have hul:s.mem.length=c.us.length:=h.mem.1
 obtain ⟨j,hj⟩:∃ j,(p.s-1).toNat=j:=⟨_,rfl⟩
 have hjlt:j<c.us.length:=by omega
 obtain ⟨⟨bj,cp⟩,hu⟩:∃ u,c.us[j]?=some u:=⟨_,List.getElem?_eq_getElem hjlt⟩
 obtain ⟨l,hl⟩:∃ l,s.mem[j]?=some l:=⟨_,List.getElem?_eq_getElem (by omega)⟩
 obtain ⟨n,hn⟩:∃ n,c.f.slots[j]?=some n:=⟨_,List.getElem?_eq_getElem (by omega)⟩
 have hln:(l.length:Int)=n:=by
  have:=congrArg (fun q=>q[j]?) hm
  simp only [List.getElem?_map,hl,hn,Option.map_some] at this
  injection this
 obtain ⟨q1,q2,cur,q3,q4⟩:=h.mem.2 j bj cp l hu hl
 obtain ⟨s1,s2,s3⟩:=h.slots
 obtain ⟨s4,cur2,s5,s6⟩:=s3 (by omega)
 rw [hj]
 refine ⟨bj,cp,l,hu,hl,by rw [List.getD_eq_getElem?_getD,hl];rfl,q1,q2,hjlt,s1,s2,s4,?_,?_,cur,q3,q4⟩
 ·rw [cell_of_row _ _ j _ _ _ s5,s6 j bj cp n hu hn,← hln];rfl
 ·have:=List.all_eq_true.1 hf.val.head.2 n (List.mem_of_getElem? hn)
  unfold Ref.isSlot at this
  simp at this
  omega
set_option maxRecDepth 100000 in
set_option maxHeartbeats 4000000 in
/-- The bytes behind a pointer that is none, or that leaves its slot. -/
theorem rbytes_none {c:Cfg} {w:World} {s:Rn.St} {b frm:Int} {vt:Value} (h:PS c w s b frm vt) (hf:VFn c.f) (hi:Rn.Inv c.f s) (p:Rn.V) (hp:Rn.VOK c.f 33 p) (n:Nat) (hn:n≤4) (hb:Rn.bytesAt s.mem p n=none) :
  Calls Tryz.prog 181 #[.pointer (some ⟨c.Bs,0,none⟩),vv p,.int .i64 n] w fun e w'=>e=.returned (.tuple #[.slice none 0 0,.bool false])∧Gr w w':=by
 have hB0:Gr w (w.alloc (.cells #[.bool p.p,.int .i64 p.s,.int .u32 p.n] 37)):=(Gr.refl w).alloc _
 have HB:=Lib.hid hB0
 cases hpp:p.p with
 | true =>
  clear hb hp hi h hB0
  unfold vv
  rw [hpp] at HB
  rw [hpp]
  go_enter Tryz.func181, Tryz.ntmps181
  go_wp2
  go_ret2
  exact ⟨rfl,HB.out⟩
 | false =>
  obtain ⟨p1,p2,p3,p4⟩:=hp.ptr hpp
  obtain ⟨bj,cp,l,-,-,hl,hlc,hcp,hj,hum,hcm,hA,hcell,hl8,-⟩:=h.slot hf hi p1 p2
  have hout:l.length<p.n.toNat+n:=by
   unfold Rn.bytesAt at hb
   rw [hl,hpp] at hb
   split at hb
   next hc=>simpa using hc
   next hc=>cases hb
  have c8:w.cell? ⟨c.Bs,8,none⟩=some (.slice (some ⟨c.Bm,0,none⟩) c.us.length c.cm):=by
   have:w.cell? ⟨c.Bs,8,none⟩=some c.mv:=h.cell 8
   rw [this];unfold Cfg.mv;rw [hA]
  have hsz:=lt_of_heap h.st
  have hszm:c.Bm<w.heap.size:=by
   obtain ⟨-,-,q⟩:=h.slots
   obtain ⟨-,cur,q2,-⟩:=q (by omega)
   exact lt_of_heap q2
  unfold vv
  obtain ⟨pp,S,N⟩:=p
  dsimp only at *
  subst hpp
  obtain ⟨j,hje⟩:∃ j,(S-1).toNat=j:=⟨_,rfl⟩
  rw [hje] at hj hcell
  have hS:S-1=(j:Int):=by omega
  have hout2:(l.length:Int)<N+n:=by omega
  clear hb hp hi h hB0 hl hout hje hA
  go_enter Tryz.func181, Tryz.ntmps181
  go_wp2
  go_quiet ((fail))
  all_goals go_wp2
  all_goals go_ret2
  all_goals exact ⟨rfl,HB.out.drewN _⟩
set_option maxRecDepth 100000 in
set_option maxHeartbeats 4000000 in
/-- The bytes behind a pointer, in their slot. -/
theorem rbytes_some {c:Cfg} {w:World} {s:Rn.St} {b frm:Int} {vt:Value} (h:PS c w s b frm vt) (hf:VFn c.f) (hi:Rn.Inv c.f s) (p:Rn.V) (hp:Rn.VOK c.f 33 p) (n:Nat) (hn1:1≤n) (hn:n≤4) (hb:Rn.bytesAt s.mem p n≠none) :
  ∃ (bj cp:Nat),c.us[(p.s-1).toNat]?=some (bj,cp)∧p.n.toNat+n≤cp∧cp≤9223372036854775807∧Calls Tryz.prog 181 #[.pointer (some ⟨c.Bs,0,none⟩),vv p,.int .i64 n] w fun e w'=>e=.returned (.tuple #[.slice (some ⟨bj,p.n.toNat,none⟩) n (cp-p.n.toNat),.bool true])∧Gr w w':=by
 have hB0:Gr w (w.alloc (.cells #[.bool p.p,.int .i64 p.s,.int .u32 p.n] 37)):=(Gr.refl w).alloc _
 have HB:=Lib.hid hB0
 have hpp:p.p=false:=by
  cases h:p.p with
  | false=>rfl
  | true=>exact absurd (by unfold Rn.bytesAt;rw [if_pos (.inl h)]) hb
 obtain ⟨p1,p2,p3,p4⟩:=hp.ptr hpp
 obtain ⟨bj,cp,l,hus,-,hl,hlc,hcp,hj,hum,hcm,hA,hcell,hl8,-⟩:=h.slot hf hi p1 p2
 have hin:p.n.toNat+n≤l.length:=by
  rcases Nat.lt_or_ge l.length (p.n.toNat+n) with q | q
  ·exact absurd (by unfold Rn.bytesAt;rw [hl,if_pos (.inr q)]) hb
  ·exact q
 refine ⟨bj,cp,hus,by omega,hcp,?_⟩
 have c8:w.cell? ⟨c.Bs,8,none⟩=some (.slice (some ⟨c.Bm,0,none⟩) c.us.length c.cm):=by
  have:w.cell? ⟨c.Bs,8,none⟩=some c.mv:=h.cell 8
  rw [this];unfold Cfg.mv;rw [hA]
 have hsz:=lt_of_heap h.st
 have hszm:c.Bm<w.heap.size:=by
  obtain ⟨-,-,q⟩:=h.slots
  obtain ⟨-,cur,q2,-⟩:=q (by omega)
  exact lt_of_heap q2
 unfold vv
 obtain ⟨pp,S,N⟩:=p
 dsimp only at *
 subst hpp
 obtain ⟨j,hje⟩:∃ j,(S-1).toNat=j:=⟨_,rfl⟩
 rw [hje] at hj hcell
 have hS:S-1=(j:Int):=by omega
 have hin2:N+n≤(l.length:Int):=by omega
 have hin3:N+n≤(cp:Int):=by omega
 have n0:0≤(n:Int):=by omega
 have HN:Hid ((N+(n:Int)).toNat-N.toNat=n):=by show _=_;omega
 clear hb hp hi h hB0 hl hje hA hus hin
 go_enter Tryz.func181, Tryz.ntmps181
 go_wp2
 go_quiet ((fail))
 all_goals go_wp2
 all_goals go_ret2
 all_goals exact ⟨by show Ending.returned (.tuple #[.slice _ ((N+(n:Int)).toNat-N.toNat) _,.bool true])=_;rw [HN.out],HB.out.drewN _⟩
end Go.Proofs.YthfhamagopbgcaaGreat

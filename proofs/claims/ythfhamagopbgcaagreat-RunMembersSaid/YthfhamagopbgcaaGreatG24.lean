/- Parts: Bc Bd Be Bf Bg Bh. -/
import Derived.Test.YthfhamagopbgcaaGreatG23
import Derived.Laws.EntriesVeiled
import Derived.Test.YthfhamagopbgcaaGreatG19
namespace Go.Proofs.YthfhamagopbgcaaGreat
set_option linter.unusedSimpArgs false
set_option linter.unusedVariables false
open Go.RowKit

theorem two_alloc (w:World) (c d:Array Value) (t u:TypeId):((w.alloc (.cells c t)).alloc (.cells d u)).heap[w.heap.size+1]?=some (.cells d u (0,0)):=by
 show ((w.heap.push (.cells c t)).push (.cells d u))[w.heap.size+1]?=_
 have e:w.heap.size+1=(w.heap.push (.cells c t)).size:=by simp
 rw [e,Array.getElem?_push,if_pos rfl]
theorem two_size (w:World) (c d:Obj):((w.alloc c).alloc d).heap.size=w.heap.size+2:=by
 show ((w.heap.push c).push d).size=_
 simp
theorem two_cell (w:World) (v:Value) (t:TypeId) (d:Obj):((w.alloc (.cells #[v] t)).alloc d).cell? ⟨w.heap.size,0,none⟩=some v:=by
 rw [World.cell?_alloc_past _ _ _ (by show _<(w.heap.push _).size;simp),World.cell?_alloc_at _ _ _ _ rfl]
 rfl
/-- A func value of the program's own without captures. -/
def fnV (g:Nat):Value:=.func (.func g) #[] #[]
set_option maxHeartbeats 2000000 in
theorem results_op (fn:Func) (tmps:Array Value) (t:Nat) (w:World) (B:Nat) (f0 f1 f2:Value) (fr:Nat × Nat) (h:fn.results=#[.cell t 238]) (ht:tmps[t]?.getD undef=.pointer (some ⟨B,0,none⟩)) (hb:w.heap[B]?=some (.cells #[f0,f1,f2] 238 fr))
  (o0:f0=.nilFunc∨∃ g a b,f0=.func g a b) (o1:f1=.nilFunc∨∃ g a b,f1=.func g a b) (o2:f2=.nilFunc∨∃ g a b,f2=.func g a b) :
  (results fn tmps).run Tryz.prog w=.ok (.agg #[f0,f1,f2]) w:=by
 have k0:=cell_of_row _ _ 0 _ _ _ hb
 have k1:=cell_of_row _ _ 1 _ _ _ hb
 have k2:=cell_of_row _ _ 2 _ _ _ hb
 rcases o0 with rfl | ⟨g0,a0,b0,rfl⟩ <;> rcases o1 with rfl | ⟨g1,a1,b1,rfl⟩ <;> rcases o2 with rfl | ⟨g2,a2,b2,rfl⟩ <;>
  simp [results,h,ht,go_sem,k0,k1,k2]
set_option maxRecDepth 100000 in
set_option maxHeartbeats 1000000 in
theorem bwraps_any (F G:Nat) (w:World):Calls Tryz.prog 221 #[fnV F,fnV G] w fun e w'=>Gr w w'∧e=.returned (.agg #[.func (.func 247) #[] #[.pointer (some ⟨w.heap.size,0,none⟩)],fnV F,.nilFunc])∧w'.cell? ⟨w.heap.size,0,none⟩=some (fnV G)∧w'.heap.size=w.heap.size+2:=by
 unfold fnV
 go_enter Tryz.func221, Tryz.ntmps221
 go_wp2
 refine bodyPost_ret (results_op _ _ 4 _ (w.heap.size+1) _ _ _ (0,0) rfl rfl (two_alloc _ _ _ _ _) (Or.inr ⟨_,_,_,rfl⟩) (Or.inr ⟨_,_,_,rfl⟩) (Or.inl rfl)) rfl ?_
 exact ⟨((Gr.refl _).alloc _).alloc _,rfl,two_cell _ _ _ _,two_size _ _ _⟩
set_option maxRecDepth 100000 in
set_option maxHeartbeats 1000000 in
theorem bplain_any (G:Nat) (w:World):Calls Tryz.prog 236 #[fnV G] w fun e w'=>Gr w w'∧e=.returned (.agg #[.func (.func 248) #[] #[.pointer (some ⟨w.heap.size,0,none⟩)],.nilFunc,.nilFunc])∧w'.cell? ⟨w.heap.size,0,none⟩=some (fnV G)∧w'.heap.size=w.heap.size+2:=by
 unfold fnV
 go_enter Tryz.func236, Tryz.ntmps236
 go_wp2
 refine bodyPost_ret (results_op _ _ 2 _ (w.heap.size+1) _ _ _ (0,0) rfl rfl (two_alloc _ _ _ _ _) (Or.inr ⟨_,_,_,rfl⟩) (Or.inl rfl) (Or.inl rfl)) rfl ?_
 exact ⟨((Gr.refl _).alloc _).alloc _,rfl,two_cell _ _ _ _,two_size _ _ _⟩
end Go.Proofs.YthfhamagopbgcaaGreat
namespace Go.Proofs.YthfhamagopbgcaaGreat
set_option linter.unusedSimpArgs false
set_option linter.unusedVariables false
open Go.RowKit

set_option maxRecDepth 100000 in
theorem bwraps1_any (G:Nat) (eg:∀ args w,(callFunc G args).run Tryz.prog w=.ok (.enter G args) w) (n a b z:Int) (B:Nat) (w:World) (hn:Wd.Wid n) (hc:w.cell? ⟨B,0,none⟩=some (fnV G))
  (hG:Hid (∀ w1,Calls Tryz.prog G #[.int .u32 a,.int .u32 b] w1 fun e w'=>e=.returned (.int .u32 z)∧w1=w')) :
  Calls Tryz.prog 247 #[.int .i64 n,.int .u32 a,.int .u32 b,.pointer (some ⟨B,0,none⟩)] w fun e w'=>e=.returned (.tuple #[.int .u32 (bits .and .u32 z (Wd.sz n-1)),.bool true])∧w=w':=by
 have CM:=Lib.hid fun w1=>bmask_any n w1 hn
 unfold fnV at hc
 obtain ⟨s,hs⟩:∃ s,Wd.sz n-1=s:=⟨_,rfl⟩
 rw [hs] at CM ⊢
 clear hn hs
 go_enter Tryz.func247, Tryz.ntmps247
 go_wp2_with (first
   | (go_at_fn G;(with_reducible refine (hG.out _).mono ?_);rintro e w1 ⟨rfl,rfl⟩)
   | (go_at_call 71;(with_reducible refine (CM.out _).mono ?_);rintro e w1 ⟨rfl,rfl⟩))
 go_ret2
 exact ⟨rfl,rfl⟩
set_option maxRecDepth 100000 in
theorem bplain1_any (G:Nat) (eg:∀ args w,(callFunc G args).run Tryz.prog w=.ok (.enter G args) w) (n a b z:Int) (B:Nat) (w:World) (hc:w.cell? ⟨B,0,none⟩=some (fnV G))
  (hG:Hid (∀ w1,Calls Tryz.prog G #[.int .u32 a,.int .u32 b] w1 fun e w'=>e=.returned (.int .u32 z)∧w1=w')) :
  Calls Tryz.prog 248 #[.int .i64 n,.int .u32 a,.int .u32 b,.pointer (some ⟨B,0,none⟩)] w fun e w'=>e=.returned (.tuple #[.int .u32 z,.bool true])∧w=w':=by
 unfold fnV at hc
 go_enter Tryz.func248, Tryz.ntmps248
 go_wp2_with (go_at_fn G;(with_reducible refine (hG.out _).mono ?_);rintro e w1 ⟨rfl,rfl⟩)
 go_ret2
 exact ⟨rfl,rfl⟩
end Go.Proofs.YthfhamagopbgcaaGreat
namespace Go.Proofs.YthfhamagopbgcaaGreat
set_option linter.unusedSimpArgs false
set_option linter.unusedVariables false
open Go.RowKit

section
variable (a b:Int) (w:World)
theorem op2_any:Calls Tryz.prog 223 #[.int .u32 a,.int .u32 b] w fun e w'=>e=.returned (.int .u32 ((a+b) % 4294967296))∧w=w':=by
 go_enter Tryz.func223, Tryz.ntmps223
 go_wp2
 go_ret
 exact ⟨ret_u32 (wrap_u32 _),rfl⟩
theorem op4_any:Calls Tryz.prog 225 #[.int .u32 a,.int .u32 b] w fun e w'=>e=.returned (.int .u32 ((a-b) % 4294967296))∧w=w':=by
 go_enter Tryz.func225, Tryz.ntmps225
 go_wp2
 go_ret
 exact ⟨ret_u32 (wrap_u32 _),rfl⟩
theorem op6_any:Calls Tryz.prog 228 #[.int .u32 a,.int .u32 b] w fun e w'=>e=.returned (.int .u32 ((a * b) % 4294967296))∧w=w':=by
 go_enter Tryz.func228, Tryz.ntmps228
 go_wp2
 go_ret
 exact ⟨ret_u32 (wrap_u32 _),rfl⟩
theorem op13_any:Calls Tryz.prog 237 #[.int .u32 a,.int .u32 b] w fun e w'=>e=.returned (.int .u32 (bits .and .u32 a b))∧w=w':=by
 go_enter Tryz.func237, Tryz.ntmps237
 go_wp2
 go_ret
 exact ⟨rfl,rfl⟩
theorem op14_any:Calls Tryz.prog 238 #[.int .u32 a,.int .u32 b] w fun e w'=>e=.returned (.int .u32 (bits .or .u32 a b))∧w=w':=by
 go_enter Tryz.func238, Tryz.ntmps238
 go_wp2
 go_ret
 exact ⟨rfl,rfl⟩
theorem op15_any:Calls Tryz.prog 239 #[.int .u32 a,.int .u32 b] w fun e w'=>e=.returned (.int .u32 (bits .xor .u32 a b))∧w=w':=by
 go_enter Tryz.func239, Tryz.ntmps239
 go_wp2
 go_ret
 exact ⟨rfl,rfl⟩
end
end Go.Proofs.YthfhamagopbgcaaGreat
namespace Go.Proofs.YthfhamagopbgcaaGreat
set_option linter.unusedSimpArgs false
set_option linter.unusedVariables false
open Go.RowKit

theorem op7_any (n a b:Int) (w:World) (hn:Wd.Wid n) (ha:0≤a∧a<4294967296) (hb:0≤b∧b<4294967296):Calls Tryz.prog 229 #[.int .i64 n,.int .u32 a,.int .u32 b] w fun e w'=>e=.returned (.tuple #[.int .u32 (if b=0 then Wd.sz n-1 else a / b),.bool (decide (b≠0))])∧w=w':=by
 have CM:=Lib.hid fun w1=>bmask_any n w1 hn
 obtain ⟨s,hs⟩:∃ s,Wd.sz n-1=s:=⟨_,rfl⟩
 rw [hs] at CM ⊢
 clear hn hs
 obtain ⟨a1,a2⟩:=ha
 obtain ⟨b1,b2⟩:=hb
 by_cases hz:b=0
 ·subst hz
  go_enter Tryz.func229, Tryz.ntmps229
  go_wp2_with (go_at_call 71;(with_reducible refine (CM.out _).mono ?_);rintro e w1 ⟨rfl,rfl⟩)
  go_ret2
  exact ⟨rfl,rfl⟩
 ·have HZ:=Lib.hid hz
  have c0:(b == 0)=false:=by simpa using hz
  have q1:0≤a / b:=Int.ediv_nonneg a1 b1
  have q2:a / b≤a:=Int.ediv_le_self b a1
  clear hz
  go_enter Tryz.func229, Tryz.ntmps229
  go_wp2_with (fail)
  go_ret2
  have e:a.tdiv b % 4294967296=a / b:=by rw [Int.tdiv_eq_ediv_of_nonneg a1];omega
  exact ⟨by show Ending.returned (.tuple #[.int .u32 (a.tdiv b % 4294967296),.bool true])=_;rw [e],rfl⟩
theorem op9_any (n a b:Int) (w:World) (ha:0≤a∧a<4294967296) (hb:0≤b∧b<4294967296):Calls Tryz.prog 231 #[.int .i64 n,.int .u32 a,.int .u32 b] w fun e w'=>e=.returned (.tuple #[.int .u32 (if b=0 then a else a % b),.bool (decide (b≠0))])∧w=w':=by
 obtain ⟨a1,a2⟩:=ha
 obtain ⟨b1,b2⟩:=hb
 by_cases hz:b=0
 ·subst hz
  go_enter Tryz.func231, Tryz.ntmps231
  go_wp2_with (fail)
  go_ret2
  exact ⟨rfl,rfl⟩
 ·have HZ:=Lib.hid hz
  have c0:(b == 0)=false:=by simpa using hz
  have q1:0≤a % b:=Int.emod_nonneg _ hz
  have q2:a % b<b:=Int.emod_lt_of_pos _ (by omega)
  clear hz
  go_enter Tryz.func231, Tryz.ntmps231
  go_wp2_with (fail)
  go_ret2
  exact ⟨rfl,rfl⟩
end Go.Proofs.YthfhamagopbgcaaGreat
namespace Go.Proofs.YthfhamagopbgcaaGreat
set_option linter.unusedSimpArgs false
set_option linter.unusedVariables false
open Go.RowKit

theorem bsign_any (n a:Int) (w:World) (hn:Wd.Wid n) (ha:Wd.Word n a):Calls Tryz.prog 245 #[.int .i64 n,.int .u32 a] w fun e w'=>e=.returned (.int .u32 (if Wd.sg n a<0 then Wd.sz n-1 else 0))∧w=w':=by
 have CM:=Lib.hid fun w1=>bmask_any n w1 hn
 have CS:=Lib.hid fun w1=>bsigned_any n a w1 hn ha
 obtain ⟨s,hs⟩:∃ s,Wd.sz n-1=s:=⟨_,rfl⟩
 obtain ⟨x,hx⟩:∃ x,Wd.sg n a=x:=⟨_,rfl⟩
 rw [hs] at CM ⊢
 rw [hx] at CS ⊢
 clear hn ha hs hx
 by_cases h:x<0
 ·rw [if_pos h]
  go_enter Tryz.func245, Tryz.ntmps245
  go_wp2_with (first
    | (go_at_call 209;(with_reducible refine (CS.out _).mono ?_);rintro e w1 ⟨rfl,rfl⟩)
    | (go_at_call 71;(with_reducible refine (CM.out _).mono ?_);rintro e w1 ⟨rfl,rfl⟩))
  go_ret
  exact ⟨rfl,rfl⟩
 ·rw [if_neg h]
  go_enter Tryz.func245, Tryz.ntmps245
  go_wp2_with (first
    | (go_at_call 209;(with_reducible refine (CS.out _).mono ?_);rintro e w1 ⟨rfl,rfl⟩))
  go_ret
  exact ⟨rfl,rfl⟩
set_option maxRecDepth 100000 in
set_option maxHeartbeats 4000000 in
theorem op18_in (n a b:Int) (w:World) (ha:0≤a∧a<4294967296) (hb:0≤b) (hbn:b<n) (hn:n≤32):Calls Tryz.prog 242 #[.int .i64 n,.int .u32 a,.int .u32 b] w fun e w'=>e=.returned (.tuple #[.int .u32 (a / 2 ^ b.toNat),.bool true])∧w=w':=by
 obtain ⟨a1,a2⟩:=ha
 rcases (by omega:b=0∨b=1∨b=2∨b=3∨b=4∨b=5∨b=6∨b=7∨b=8∨b=9∨b=10∨b=11∨b=12∨b=13∨b=14∨b=15∨b=16∨b=17∨b=18∨b=19∨b=20∨b=21∨b=22∨b=23∨b=24∨b=25∨b=26∨b=27∨b=28∨b=29∨b=30∨b=31) with rfl | rfl | rfl | rfl | rfl | rfl | rfl | rfl | rfl | rfl | rfl | rfl | rfl | rfl | rfl | rfl | rfl | rfl | rfl | rfl | rfl | rfl | rfl | rfl | rfl | rfl | rfl | rfl | rfl | rfl | rfl | rfl
 all_goals
  go_enter Tryz.func242, Tryz.ntmps242
  go_wp2_with (fail)
  go_ret2
  exact ⟨by simp,rfl⟩
theorem op18_out (n a b:Int) (w:World) (hb:0≤b∧b<4294967296) (hbn:n≤b):Calls Tryz.prog 242 #[.int .i64 n,.int .u32 a,.int .u32 b] w fun e w'=>e=.returned (.tuple #[.int .u32 0,.bool false])∧w=w':=by
 obtain ⟨b1,b2⟩:=hb
 go_enter Tryz.func242, Tryz.ntmps242
 go_wp2_with (fail)
 go_ret2
 exact ⟨rfl,rfl⟩
end Go.Proofs.YthfhamagopbgcaaGreat
namespace Go.Proofs.YthfhamagopbgcaaGreat
set_option linter.unusedSimpArgs false
set_option linter.unusedVariables false
open Go.RowKit

set_option maxRecDepth 100000 in
set_option maxHeartbeats 4000000 in
theorem op16_in (n a b:Int) (w:World) (ha:0≤a∧a<4294967296) (hb:0≤b) (hbn:b<n) (hn:Wd.Wid n):Calls Tryz.prog 240 #[.int .i64 n,.int .u32 a,.int .u32 b] w fun e w'=>e=.returned (.tuple #[.int .u32 (a * 2 ^ b.toNat % Wd.sz n),.bool true])∧w=w':=by
 have CM:=Lib.hid fun w1=>bmask_any n w1 hn
 have HW:=Lib.hid (Wd.wrap_mask (a * 2 ^ b.toNat) hn)
 obtain ⟨n1,n2⟩:=id hn
 obtain ⟨a1,a2⟩:=ha
 obtain ⟨s,hs⟩:∃ s,Wd.sz n-1=s:=⟨_,rfl⟩
 rw [hs] at CM HW
 obtain ⟨z,hz⟩:∃ z,a * 2 ^ b.toNat % Wd.sz n=z:=⟨_,rfl⟩
 rw [hz] at HW ⊢
 clear hn hs hz
 rcases (by omega:b=0∨b=1∨b=2∨b=3∨b=4∨b=5∨b=6∨b=7∨b=8∨b=9∨b=10∨b=11∨b=12∨b=13∨b=14∨b=15∨b=16∨b=17∨b=18∨b=19∨b=20∨b=21∨b=22∨b=23∨b=24∨b=25∨b=26∨b=27∨b=28∨b=29∨b=30∨b=31) with rfl | rfl | rfl | rfl | rfl | rfl | rfl | rfl | rfl | rfl | rfl | rfl | rfl | rfl | rfl | rfl | rfl | rfl | rfl | rfl | rfl | rfl | rfl | rfl | rfl | rfl | rfl | rfl | rfl | rfl | rfl | rfl
 all_goals
  go_enter Tryz.func240, Tryz.ntmps240
  go_wp2_with (go_at_call 71;(with_reducible refine (CM.out _).mono ?_);rintro e w1 ⟨rfl,rfl⟩)
  go_ret2
  refine ⟨?_,rfl⟩
  rw [← HW.out]
  simp <;> rw [Int.emod_eq_of_lt a1 a2]
theorem op16_out (n a b:Int) (w:World) (hb:0≤b∧b<4294967296) (hbn:n≤b):Calls Tryz.prog 240 #[.int .i64 n,.int .u32 a,.int .u32 b] w fun e w'=>e=.returned (.tuple #[.int .u32 0,.bool false])∧w=w':=by
 obtain ⟨b1,b2⟩:=hb
 go_enter Tryz.func240, Tryz.ntmps240
 go_wp2_with (fail)
 go_ret2
 exact ⟨rfl,rfl⟩
end Go.Proofs.YthfhamagopbgcaaGreat

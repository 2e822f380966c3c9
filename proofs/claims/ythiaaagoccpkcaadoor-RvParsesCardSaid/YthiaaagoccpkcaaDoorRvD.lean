/- fits, has, bit of the program; bits of the document. -/
import Derived.Test.YthiaaagoccpkcaaDoorRvC
namespace Go.Proofs.YthiaaagoccpkcaaDoor
open Go.RowKit

/-- Whether Imm fits a form: the program's words. -/
def Rv.fits (f n : Int) : Bool :=
  if f = 1 ∨ f = 4 ∨ f = 5 ∨ f = 8 then decide (-2048 ≤ n) && decide (n ≤ 2047)
  else if f = 2 then decide (0 ≤ n) && decide (n ≤ 31)
  else if f = 3 then decide (0 ≤ n) && decide (n < 1048576)
  else if f = 6 then (decide (-4096 ≤ n) && decide (n ≤ 4094)) && (n.tmod 2 == 0)
  else if f = 7 then (decide (-1048576 ≤ n) && decide (n ≤ 1048574)) && (n.tmod 2 == 0)
  else n == 0
set_option maxHeartbeats 4000000 in
theorem fits_any (f n : Int) (hf : 0 ≤ f ∧ f ≤ 10) (w : World) : Calls Tryd.prog 39 #[.int .i64 f, .int .i64 n] w fun e w' => e = .returned (.bool (Rv.fits f n)) ∧ w = w' := by
  obtain ⟨b1, h1⟩ : ∃ b, decide (-2048 ≤ n) = b := ⟨_, rfl⟩
  obtain ⟨b2, h2⟩ : ∃ b, decide (0 ≤ n) = b := ⟨_, rfl⟩
  obtain ⟨b3, h3⟩ : ∃ b, decide (-4096 ≤ n) = b := ⟨_, rfl⟩
  obtain ⟨b4, h4⟩ : ∃ b, decide (-1048576 ≤ n) = b := ⟨_, rfl⟩
  obtain ⟨b5, h5⟩ : ∃ b, decide (n ≤ 4094) = b := ⟨_, rfl⟩
  obtain ⟨b6, h6⟩ : ∃ b, decide (n ≤ 1048574) = b := ⟨_, rfl⟩
  have g1 : decide (n ≥ -2048) = b1 := h1
  have g2 : decide (n ≥ 0) = b2 := h2
  have g3 : decide (n ≥ -4096) = b3 := h3
  have g4 : decide (n ≥ -1048576) = b4 := h4
  have H1 := Lib.hid h1
  have H2 := Lib.hid h2
  have H3 := Lib.hid h3
  have H4 := Lib.hid h4
  have H5 := Lib.hid h5
  have H6 := Lib.hid h6
  rcases (by omega : f = 0 ∨ f = 9 ∨ f = 10 ∨ f = 1 ∨ f = 4 ∨ f = 5 ∨ f = 8 ∨ f = 2 ∨ f = 3 ∨ f = 6 ∨ f = 7) with rfl | rfl | rfl | rfl | rfl | rfl | rfl | rfl | rfl | rfl | rfl
  · go_enter Tryd.func39, Tryd.ntmps39
    go_wp2
    go_ret
    exact ⟨rfl, rfl⟩
  · go_enter Tryd.func39, Tryd.ntmps39
    go_wp2
    go_ret
    exact ⟨rfl, rfl⟩
  · go_enter Tryd.func39, Tryd.ntmps39
    go_wp2
    go_ret
    exact ⟨rfl, rfl⟩
  · cases b1
    all_goals
      go_enter Tryd.func39, Tryd.ntmps39
      go_wp2
      go_ret
      exact ⟨ret_bool (by unfold Rv.fits; simp [H1.out]), rfl⟩
  · cases b1
    all_goals
      go_enter Tryd.func39, Tryd.ntmps39
      go_wp2
      go_ret
      exact ⟨ret_bool (by unfold Rv.fits; simp [H1.out]), rfl⟩
  · cases b1
    all_goals
      go_enter Tryd.func39, Tryd.ntmps39
      go_wp2
      go_ret
      exact ⟨ret_bool (by unfold Rv.fits; simp [H1.out]), rfl⟩
  · cases b1
    all_goals
      go_enter Tryd.func39, Tryd.ntmps39
      go_wp2
      go_ret
      exact ⟨ret_bool (by unfold Rv.fits; simp [H1.out]), rfl⟩
  · cases b2
    all_goals
      go_enter Tryd.func39, Tryd.ntmps39
      go_wp2
      go_ret
      exact ⟨ret_bool (by unfold Rv.fits; simp [H2.out]), rfl⟩
  · cases b2
    all_goals
      go_enter Tryd.func39, Tryd.ntmps39
      go_wp2
      go_ret
      exact ⟨ret_bool (by unfold Rv.fits; simp [H2.out]), rfl⟩
  · cases b3 <;> cases b5
    all_goals
      go_enter Tryd.func39, Tryd.ntmps39
      go_wp2
      go_ret
      exact ⟨ret_bool (by unfold Rv.fits; simp [H3.out, H5.out]), rfl⟩
  · cases b4 <;> cases b6
    all_goals
      go_enter Tryd.func39, Tryd.ntmps39
      go_wp2
      go_ret
      exact ⟨ret_bool (by unfold Rv.fits; simp [H4.out, H6.out]), rfl⟩

theorem part_bits (n : Int) (fr ct at_ : Nat) (h0 : 0 ≤ n) (h1 : n < 4294967296) (hc : ct ≤ 31) (ha : ct + at_ ≤ 32) : bits .and .u32 (n / 2 ^ fr) ((2 ^ ct - 1) % 4294967296) * 2 ^ at_ % 4294967296 = Rv.part n fr ct at_ := by
  obtain ⟨p0, p1, p2, p3⟩ := part_in n fr ct at_ ha
  have hp : (1 : Int) ≤ 2 ^ ct := by
    have hpp : (0 : Int) < 2 ^ ct := Int.pow_pos (by decide)
    omega
  have hle : (2 : Int) ^ ct ≤ 2147483648 := by
    have := Nat.pow_le_pow_right (show 0 < 2 by decide) hc
    have e1 : ((2 : Int) ^ ct) = ((2 ^ ct : Nat) : Int) := by simp
    have e2 : (2 : Nat) ^ 31 = 2147483648 := by decide
    rw [e1]; omega
  have hq : (0 : Int) < 2 ^ fr := Int.pow_pos (by decide)
  have d0 : 0 ≤ n / 2 ^ fr := Int.ediv_nonneg h0 (Int.le_of_lt hq)
  have d1 : n / 2 ^ fr ≤ n := Int.ediv_le_self _ h0
  rw [show ((2 : Int) ^ ct - 1) % 4294967296 = 2 ^ ct - 1 from Int.emod_eq_of_lt (by omega) (by omega), and_u32 ct _ d0 (by omega) (by omega)]
  exact Int.emod_eq_of_lt p2 p3
set_option maxHeartbeats 4000000 in
theorem rbits_any (n : Int) (fr t at_ : Nat) (h0 : 0 ≤ n) (h1 : n < 4294967296) (hft : fr ≤ t) (ht : t ≤ 31) (hc : t - fr + 1 ≤ 31) (ha : t - fr + 1 + at_ ≤ 32) (w : World) :
    Calls Tryd.prog 48 #[.int .u32 n, .int .i64 fr, .int .i64 t, .int .i64 at_] w fun e w' => e = .returned (.int .u32 (Rv.part n fr (t - fr + 1) at_)) ∧ w = w' := by
  obtain ⟨ct, hct⟩ : ∃ ct : Nat, t - fr + 1 = ct := ⟨_, rfl⟩
  rw [hct] at hc ha ⊢
  obtain ⟨p0, p1, p2, p3⟩ := part_in n fr ct at_ ha
  have e1 : ((t : Int) - (fr : Int)) + 1 = (ct : Int) := by omega
  have e0 : (t : Int) - (fr : Int) = (ct : Int) - 1 := by omega
  have q0 : (0 : Int) ≤ fr := by omega
  have q1 : (fr : Int) ≤ 32 := by omega
  have q2 : (0 : Int) ≤ ct := by omega
  have q3 : (ct : Int) ≤ 32 := by omega
  have q4 : (0 : Int) ≤ at_ := by omega
  have q5 : (at_ : Int) ≤ 32 := by omega
  go_enter Tryd.func48, Tryd.ntmps48
  go_wp2
  go_ret
  exact ⟨ret_int (part_bits n fr ct at_ h0 h1 hc ha), rfl⟩

set_option maxHeartbeats 4000000 in
theorem bit_any (n : Int) (fr ct at_ : Nat) (h0 : 0 ≤ n) (h1 : n < 4294967296) (hfr : fr ≤ 32) (hc : ct ≤ 31) (ha : ct + at_ ≤ 32) (w : World) :
    Calls Tryd.prog 68 #[.int .u32 n, .int .i64 fr, .int .i64 ct, .int .i64 at_] w fun e w' => e = .returned (.int .u32 (Rv.part n fr ct at_)) ∧ ∃ k, w' = w.drewN k := by
  have q0 : (0 : Int) ≤ fr := by omega
  have q1 : (fr : Int) ≤ 32 := by omega
  have q2 : (0 : Int) ≤ ct := by omega
  have q3 : (ct : Int) ≤ 32 := by omega
  have q4 : (0 : Int) ≤ at_ := by omega
  have q5 : (at_ : Int) ≤ 32 := by omega
  go_enter Tryd.func68, Tryd.ntmps68
  go_wp2
  go_quiet (fail)
  go_wp2
  go_ret
  exact ⟨ret_int (part_bits n fr ct at_ h0 h1 hc ha), nq, rfl⟩

theorem results_arr4 (fn : Func) (tmps : Array Value) (t : Nat) (w : World) (B : Nat) (b0 b1 b2 b3 : Bool) (fr : Nat × Nat) (h : fn.results = #[.cell t 64]) (ht : tmps[t]?.getD undef = .pointer (some ⟨B, 0, none⟩)) (hb : w.heap[B]? = some (.cells #[.bool b0, .bool b1, .bool b2, .bool b3] 64 fr)) :
    (results fn tmps).run Tryd.prog w = .ok (.agg #[.bool b0, .bool b1, .bool b2, .bool b3]) w := by
  have k0 := cell_of_row _ _ 0 _ _ _ hb
  have k1 := cell_of_row _ _ 1 _ _ _ hb
  have k2 := cell_of_row _ _ 2 _ _ _ hb
  have k3 := cell_of_row _ _ 3 _ _ _ hb
  simp [results, h, ht, go_sem, k0, k1, k2, k3]

/-- Which of D, A, B and Imm a form has: the program's words. -/
def Rv.hasP (f : Int) : Bool × Bool × Bool × Bool := if f = 10 then (false, false, false, false) else (Rv.hasD f, Rv.hasA f, Rv.hasB f, Rv.hasI f)
set_option maxHeartbeats 4000000 in
theorem phas_any (f : Int) (hf : 0 ≤ f ∧ f ≤ 10) (w : World) : Calls Tryd.prog 38 #[.int .i64 f] w fun e w' => e = .returned (.agg #[.bool (Rv.hasP f).1, .bool (Rv.hasP f).2.1, .bool (Rv.hasP f).2.2.1, .bool (Rv.hasP f).2.2.2]) ∧ Gr w w' := by
  rcases (by omega : f = 0 ∨ f = 1 ∨ f = 2 ∨ f = 3 ∨ f = 4 ∨ f = 5 ∨ f = 6 ∨ f = 7 ∨ f = 8 ∨ f = 9 ∨ f = 10) with rfl | rfl | rfl | rfl | rfl | rfl | rfl | rfl | rfl | rfl | rfl
  all_goals
    go_enter Tryd.func38, Tryd.ntmps38
    go_wp2
    refine bodyPost_ret (results_arr4 _ _ 2 _ w.heap.size _ _ _ _ (0, 0) rfl rfl (heap_alloc_new w _)) rfl ?_
    exact ⟨rfl, (Gr.refl w).alloc _⟩
end Go.Proofs.YthiaaagoccpkcaaDoor

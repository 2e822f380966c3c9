/- signed (both), imm of the document. -/
import Derived.Test.YthiaaagoccpkcaaDoorRvN
namespace Go.Proofs.YthiaaagoccpkcaaDoor
set_option linter.unusedSimpArgs false
set_option linter.unusedVariables false
open Go.RowKit

set_option maxHeartbeats 4000000 in
theorem psigned_any (n : Int) (ct : Nat) (hct : ct = 12 ∨ ct = 13 ∨ ct = 21) (h0 : 0 ≤ n) (h1 : n < 2 ^ ct) (w : World) :
    Calls Tryd.prog 70 #[.int .u32 n, .int .i64 ct] w fun e w' => e = .returned (.int .i64 (Rv.sgn (2 ^ ct) n)) ∧ w = w' := by
  rcases hct with rfl | rfl | rfl
  all_goals
    have h1' := h1
    simp only [Int.reducePow] at h1'
    clear h1
    go_enter Tryd.func70, Tryd.ntmps70
    go_wp2
    go_ret
    refine ⟨ret_int ?_, rfl⟩
    simp only [Rv.sgn, Int.reducePow]
    unfold wrap64 wrap32
    split <;> omega
set_option maxHeartbeats 4000000 in
theorem rsigned_any (n : Int) (ct : Nat) (hct : ct = 12 ∨ ct = 13 ∨ ct = 21) (h0 : 0 ≤ n) (h1 : n < 2 ^ ct) (w : World) :
    Calls Tryd.prog 71 #[.int .u32 n, .int .i64 ct] w fun e w' => e = .returned (.int .i64 (Rv.sgn (2 ^ ct) n)) ∧ w = w' := by
  rcases hct with rfl | rfl | rfl
  · have h1' := h1
    simp only [Int.reducePow] at h1'
    clear h1
    have HA := Lib.hid (and_u32 1 (n / 2048) (by omega) (by omega) (by omega))
    have a1 : bits .and .u32 (n / 2048) 1 = n / 2048 % 2 := HA.out
    clear HA
    by_cases q : 2048 ≤ n
    · have b1 : (n / 2048 % 2 == 1) = true := by rw [beq_iff_eq]; omega
      have HQ := Lib.hid q
      clear q
      go_enter Tryd.func71, Tryd.ntmps71
      go_wp2
      go_ret
      refine ⟨ret_int ?_, rfl⟩
      have q := HQ.out
      simp only [Rv.sgn, Int.reducePow]
      rw [if_pos (by omega)]
    · have b1 : (n / 2048 % 2 == 1) = false := by rw [beq_eq_false_iff_ne]; omega
      have HQ := Lib.hid q
      clear q
      go_enter Tryd.func71, Tryd.ntmps71
      go_wp2
      go_ret
      refine ⟨ret_int ?_, rfl⟩
      have q := HQ.out
      simp only [Rv.sgn, Int.reducePow]
      rw [if_neg (by omega)]
  · have h1' := h1
    simp only [Int.reducePow] at h1'
    clear h1
    have HA := Lib.hid (and_u32 1 (n / 4096) (by omega) (by omega) (by omega))
    have a1 : bits .and .u32 (n / 4096) 1 = n / 4096 % 2 := HA.out
    clear HA
    by_cases q : 4096 ≤ n
    · have b1 : (n / 4096 % 2 == 1) = true := by rw [beq_iff_eq]; omega
      have HQ := Lib.hid q
      clear q
      go_enter Tryd.func71, Tryd.ntmps71
      go_wp2
      go_ret
      refine ⟨ret_int ?_, rfl⟩
      have q := HQ.out
      simp only [Rv.sgn, Int.reducePow]
      rw [if_pos (by omega)]
    · have b1 : (n / 4096 % 2 == 1) = false := by rw [beq_eq_false_iff_ne]; omega
      have HQ := Lib.hid q
      clear q
      go_enter Tryd.func71, Tryd.ntmps71
      go_wp2
      go_ret
      refine ⟨ret_int ?_, rfl⟩
      have q := HQ.out
      simp only [Rv.sgn, Int.reducePow]
      rw [if_neg (by omega)]
  · have h1' := h1
    simp only [Int.reducePow] at h1'
    clear h1
    have HA := Lib.hid (and_u32 1 (n / 1048576) (by omega) (by omega) (by omega))
    have a1 : bits .and .u32 (n / 1048576) 1 = n / 1048576 % 2 := HA.out
    clear HA
    by_cases q : 1048576 ≤ n
    · have b1 : (n / 1048576 % 2 == 1) = true := by rw [beq_iff_eq]; omega
      have HQ := Lib.hid q
      clear q
      go_enter Tryd.func71, Tryd.ntmps71
      go_wp2
      go_ret
      refine ⟨ret_int ?_, rfl⟩
      have q := HQ.out
      simp only [Rv.sgn, Int.reducePow]
      rw [if_pos (by omega)]
    · have b1 : (n / 1048576 % 2 == 1) = false := by rw [beq_eq_false_iff_ne]; omega
      have HQ := Lib.hid q
      clear q
      go_enter Tryd.func71, Tryd.ntmps71
      go_wp2
      go_ret
      refine ⟨ret_int ?_, rfl⟩
      have q := HQ.out
      simp only [Rv.sgn, Int.reducePow]
      rw [if_neg (by omega)]
theorem part_lt (n : Int) (fr ct at_ : Nat) : 0 ≤ Rv.part n fr ct at_ ∧ Rv.part n fr ct at_ < 2 ^ (ct + at_) ∧ Rv.part n fr ct at_ % 2 ^ at_ = 0 := by
  have hp : (0 : Int) < 2 ^ ct := Int.pow_pos (by decide)
  have h0 := Int.emod_nonneg (n / 2 ^ fr) (Int.ne_of_gt hp)
  have h1 := Int.emod_lt_of_pos (n / 2 ^ fr) hp
  have hq : (0 : Int) < 2 ^ at_ := Int.pow_pos (by decide)
  refine ⟨Int.mul_nonneg h0 (Int.le_of_lt hq), ?_, Int.mul_emod_left _ _⟩
  rw [Int.pow_add]
  exact Int.mul_lt_mul_of_pos_right h1 hq
/-- The bits of a word that make the Imm of a store, a branch, a jump. -/
theorem bits5 (w : Int) : bits .or .u32 (Rv.part w 7 5 0) (Rv.part w 25 7 5) = w / 128 % 32 + w / 33554432 % 128 * 32 := by
  rw [part_num w 7 5 0 128 32 1 (by decide) (by decide) (by decide), part_num w 25 7 5 33554432 128 32 (by decide) (by decide) (by decide), orL 5 32 _ (w / 33554432 % 128 * 32) (by decide) (by omega) (by omega) (by omega) (by omega) (by omega)]
  omega
theorem bits6 (w : Int) : bits .or .u32 (bits .or .u32 (bits .or .u32 (Rv.part w 7 1 11) (Rv.part w 8 4 1)) (Rv.part w 25 6 5)) (Rv.part w 31 1 12) = w / 128 % 2 * 2048 + w / 256 % 16 * 2 + w / 33554432 % 64 * 32 + w / 2147483648 % 2 * 4096 := by
  rw [part_num w 7 1 11 128 2 2048 (by decide) (by decide) (by decide), part_num w 8 4 1 256 16 2 (by decide) (by decide) (by decide), part_num w 25 6 5 33554432 64 32 (by decide) (by decide) (by decide), part_num w 31 1 12 2147483648 2 4096 (by decide) (by decide) (by decide)]
  obtain ⟨p1, e1⟩ : ∃ p, w / 128 % 2 = p := ⟨_, rfl⟩
  obtain ⟨p2, e2⟩ : ∃ p, w / 256 % 16 = p := ⟨_, rfl⟩
  obtain ⟨p3, e3⟩ : ∃ p, w / 33554432 % 64 = p := ⟨_, rfl⟩
  obtain ⟨p4, e4⟩ : ∃ p, w / 2147483648 % 2 = p := ⟨_, rfl⟩
  have b1 : 0 ≤ p1 ∧ p1 < 2 := by omega
  have b2 : 0 ≤ p2 ∧ p2 < 16 := by omega
  have b3 : 0 ≤ p3 ∧ p3 < 64 := by omega
  have b4 : 0 ≤ p4 ∧ p4 < 2 := by omega
  rw [e1, e2, e3, e4]
  clear e1 e2 e3 e4
  rw [orR 11 2048 (p2 * 2) (p1 * 2048) (by decide) (by omega) (by omega) (by omega) (by omega) (by omega),
    orMid 5 11 32 2048 _ (p2 * 2) (p3 * 32) (p1 * 2048) (by omega) (by decide) (by decide) (by omega) (by omega) (by omega) (by omega) (by omega) (by omega) (by omega) (by omega),
    orL 12 4096 _ (p4 * 4096) (by decide) (by omega) (by omega) (by omega) (by omega) (by omega)]
  omega
theorem bits7 (w : Int) : bits .or .u32 (bits .or .u32 (bits .or .u32 (Rv.part w 12 8 12) (Rv.part w 20 1 11)) (Rv.part w 21 10 1)) (Rv.part w 31 1 20) = w / 4096 % 256 * 4096 + w / 1048576 % 2 * 2048 + w / 2097152 % 1024 * 2 + w / 2147483648 % 2 * 1048576 := by
  rw [part_num w 12 8 12 4096 256 4096 (by decide) (by decide) (by decide), part_num w 20 1 11 1048576 2 2048 (by decide) (by decide) (by decide), part_num w 21 10 1 2097152 1024 2 (by decide) (by decide) (by decide), part_num w 31 1 20 2147483648 2 1048576 (by decide) (by decide) (by decide)]
  obtain ⟨p1, e1⟩ : ∃ p, w / 4096 % 256 = p := ⟨_, rfl⟩
  obtain ⟨p2, e2⟩ : ∃ p, w / 1048576 % 2 = p := ⟨_, rfl⟩
  obtain ⟨p3, e3⟩ : ∃ p, w / 2097152 % 1024 = p := ⟨_, rfl⟩
  obtain ⟨p4, e4⟩ : ∃ p, w / 2147483648 % 2 = p := ⟨_, rfl⟩
  have b1 : 0 ≤ p1 ∧ p1 < 256 := by omega
  have b2 : 0 ≤ p2 ∧ p2 < 2 := by omega
  have b3 : 0 ≤ p3 ∧ p3 < 1024 := by omega
  have b4 : 0 ≤ p4 ∧ p4 < 2 := by omega
  rw [e1, e2, e3, e4]
  clear e1 e2 e3 e4
  rw [orR 12 4096 (p2 * 2048) (p1 * 4096) (by decide) (by omega) (by omega) (by omega) (by omega) (by omega),
    orR 11 2048 (p3 * 2) (p2 * 2048 + p1 * 4096) (by decide) (by omega) (by omega) (by omega) (by omega) (by omega),
    orL 20 1048576 _ (p4 * 1048576) (by decide) (by omega) (by omega) (by omega) (by omega) (by omega)]
  omega

set_option maxHeartbeats 8000000 in
theorem rimm_any (s x : Int) (hs : 0 ≤ s ∧ s ≤ 9) (h0 : 0 ≤ x) (h1 : x < 4294967296) (w : World) :
    Calls Tryd.prog 47 #[.int .i64 s, .int .u32 x] w fun e w' => e = .returned (.int .i64 (Rv.immN s x)) ∧ w = w' := by
  rcases (by omega : s = 0 ∨ s = 9 ∨ s = 2 ∨ s = 3 ∨ s = 5 ∨ s = 6 ∨ s = 7 ∨ s = 1 ∨ s = 4 ∨ s = 8) with rfl | rfl | rfl | rfl | rfl | rfl | rfl | rfl | rfl | rfl
  · go_enter Tryd.func47, Tryd.ntmps47
    go_wp2
    go_ret
    exact ⟨rfl, rfl⟩
  · go_enter Tryd.func47, Tryd.ntmps47
    go_wp2
    go_ret
    exact ⟨rfl, rfl⟩
  · have B1 : Hid (∀ w, Calls Tryd.prog 48 #[.int .u32 x, .int .i64 20, .int .i64 24, .int .i64 0] w fun e w' => e = .returned (.int .u32 (Rv.part x 20 5 0)) ∧ w = w') := fun w => rbits_any x 20 24 0 h0 h1 (by omega) (by omega) (by omega) (by omega) w
    have HE : Hid (Rv.part x 20 5 0 = Rv.immN 2 x) := by
      show _ = _; rw [part_num x 20 5 0 1048576 32 1 (by decide) (by decide) (by decide)]; simp [Rv.immN]
    obtain ⟨q0, q1, -⟩ := part_lt x 20 5 0
    obtain ⟨p, hp⟩ : ∃ p, Rv.part x 20 5 0 = p := ⟨_, rfl⟩
    rw [hp] at B1 HE q0 q1
    simp only [Int.reducePow, Nat.reduceAdd] at q1
    clear hp
    go_enter Tryd.func47, Tryd.ntmps47
    go_wp2_with (go_at_call 48; refine (B1.out _).mono ?_; rintro e w1 ⟨rfl, rfl⟩)
    go_ret
    exact ⟨ret_int HE.out, rfl⟩
  · have B1 : Hid (∀ w, Calls Tryd.prog 48 #[.int .u32 x, .int .i64 12, .int .i64 31, .int .i64 0] w fun e w' => e = .returned (.int .u32 (Rv.part x 12 20 0)) ∧ w = w') := fun w => rbits_any x 12 31 0 h0 h1 (by omega) (by omega) (by omega) (by omega) w
    have HE : Hid (Rv.part x 12 20 0 = Rv.immN 3 x) := by
      show _ = _; rw [part_num x 12 20 0 4096 1048576 1 (by decide) (by decide) (by decide)]; simp [Rv.immN]
    obtain ⟨q0, q1, -⟩ := part_lt x 12 20 0
    obtain ⟨p, hp⟩ : ∃ p, Rv.part x 12 20 0 = p := ⟨_, rfl⟩
    rw [hp] at B1 HE q0 q1
    simp only [Int.reducePow, Nat.reduceAdd] at q1
    clear hp
    go_enter Tryd.func47, Tryd.ntmps47
    go_wp2_with (go_at_call 48; refine (B1.out _).mono ?_; rintro e w1 ⟨rfl, rfl⟩)
    go_ret
    exact ⟨ret_int HE.out, rfl⟩
  · have B1 : Hid (∀ w, Calls Tryd.prog 48 #[.int .u32 x, .int .i64 7, .int .i64 11, .int .i64 0] w fun e w' => e = .returned (.int .u32 (Rv.part x 7 5 0)) ∧ w = w') := fun w => rbits_any x 7 11 0 h0 h1 (by omega) (by omega) (by omega) (by omega) w
    have B2 : Hid (∀ w, Calls Tryd.prog 48 #[.int .u32 x, .int .i64 25, .int .i64 31, .int .i64 5] w fun e w' => e = .returned (.int .u32 (Rv.part x 25 7 5)) ∧ w = w') := fun w => rbits_any x 25 31 5 h0 h1 (by omega) (by omega) (by omega) (by omega) w
    have HN := Lib.hid (bits5 x)
    obtain ⟨N, hN⟩ : ∃ N, x / 128 % 32 + x / 33554432 % 128 * 32 = N := ⟨_, rfl⟩
    have n0 : 0 ≤ N := by omega
    have n1 : N < 2 ^ 12 := by simp only [Int.reducePow]; omega
    have HE : Hid (Rv.sgn (2 ^ 12) N = Rv.immN 5 x) := by show _ = _; rw [← hN]; simp only [Int.reducePow]; rfl
    rw [hN] at HN
    have HSG := Lib.hid (rsigned_any N 12 (by omega) n0 n1)
    obtain ⟨p1, hp1⟩ : ∃ p, Rv.part x 7 5 0 = p := ⟨_, rfl⟩
    rw [hp1] at B1 HN
    obtain ⟨p2, hp2⟩ : ∃ p, Rv.part x 25 7 5 = p := ⟨_, rfl⟩
    rw [hp2] at B2 HN
    have hor : bits .or .u32 p1 p2 = N := HN.out
    clear HN hN n0 n1 hp1 hp2
    go_enter Tryd.func47, Tryd.ntmps47
    go_wp2_with (first
      | (go_at_call 48; with_reducible refine (B1.out _).mono ?_; rintro e w1 ⟨rfl, rfl⟩)
      | (go_at_call 48; with_reducible refine (B2.out _).mono ?_; rintro e w1 ⟨rfl, rfl⟩)
      | (go_at_call 71; refine (HSG.out _).mono ?_; rintro e w1 ⟨rfl, rfl⟩))
    go_ret
    exact ⟨ret_int HE.out, rfl⟩
  · have B1 : Hid (∀ w, Calls Tryd.prog 48 #[.int .u32 x, .int .i64 7, .int .i64 7, .int .i64 11] w fun e w' => e = .returned (.int .u32 (Rv.part x 7 1 11)) ∧ w = w') := fun w => rbits_any x 7 7 11 h0 h1 (by omega) (by omega) (by omega) (by omega) w
    have B2 : Hid (∀ w, Calls Tryd.prog 48 #[.int .u32 x, .int .i64 8, .int .i64 11, .int .i64 1] w fun e w' => e = .returned (.int .u32 (Rv.part x 8 4 1)) ∧ w = w') := fun w => rbits_any x 8 11 1 h0 h1 (by omega) (by omega) (by omega) (by omega) w
    have B3 : Hid (∀ w, Calls Tryd.prog 48 #[.int .u32 x, .int .i64 25, .int .i64 30, .int .i64 5] w fun e w' => e = .returned (.int .u32 (Rv.part x 25 6 5)) ∧ w = w') := fun w => rbits_any x 25 30 5 h0 h1 (by omega) (by omega) (by omega) (by omega) w
    have B4 : Hid (∀ w, Calls Tryd.prog 48 #[.int .u32 x, .int .i64 31, .int .i64 31, .int .i64 12] w fun e w' => e = .returned (.int .u32 (Rv.part x 31 1 12)) ∧ w = w') := fun w => rbits_any x 31 31 12 h0 h1 (by omega) (by omega) (by omega) (by omega) w
    have HN := Lib.hid (bits6 x)
    obtain ⟨N, hN⟩ : ∃ N, x / 128 % 2 * 2048 + x / 256 % 16 * 2 + x / 33554432 % 64 * 32 + x / 2147483648 % 2 * 4096 = N := ⟨_, rfl⟩
    have n0 : 0 ≤ N := by omega
    have n1 : N < 2 ^ 13 := by simp only [Int.reducePow]; omega
    have HE : Hid (Rv.sgn (2 ^ 13) N = Rv.immN 6 x) := by show _ = _; rw [← hN]; simp only [Int.reducePow]; rfl
    rw [hN] at HN
    have HSG := Lib.hid (rsigned_any N 13 (by omega) n0 n1)
    obtain ⟨p1, hp1⟩ : ∃ p, Rv.part x 7 1 11 = p := ⟨_, rfl⟩
    rw [hp1] at B1 HN
    obtain ⟨p2, hp2⟩ : ∃ p, Rv.part x 8 4 1 = p := ⟨_, rfl⟩
    rw [hp2] at B2 HN
    obtain ⟨p3, hp3⟩ : ∃ p, Rv.part x 25 6 5 = p := ⟨_, rfl⟩
    rw [hp3] at B3 HN
    obtain ⟨p4, hp4⟩ : ∃ p, Rv.part x 31 1 12 = p := ⟨_, rfl⟩
    rw [hp4] at B4 HN
    have hor : bits .or .u32 (bits .or .u32 (bits .or .u32 p1 p2) (p3)) (p4) = N := HN.out
    clear HN hN n0 n1 hp1 hp2 hp3 hp4
    go_enter Tryd.func47, Tryd.ntmps47
    go_wp2_with (first
      | (go_at_call 48; with_reducible refine (B1.out _).mono ?_; rintro e w1 ⟨rfl, rfl⟩)
      | (go_at_call 48; with_reducible refine (B2.out _).mono ?_; rintro e w1 ⟨rfl, rfl⟩)
      | (go_at_call 48; with_reducible refine (B3.out _).mono ?_; rintro e w1 ⟨rfl, rfl⟩)
      | (go_at_call 48; with_reducible refine (B4.out _).mono ?_; rintro e w1 ⟨rfl, rfl⟩)
      | (go_at_call 71; refine (HSG.out _).mono ?_; rintro e w1 ⟨rfl, rfl⟩))
    go_ret
    exact ⟨ret_int HE.out, rfl⟩
  · have B1 : Hid (∀ w, Calls Tryd.prog 48 #[.int .u32 x, .int .i64 12, .int .i64 19, .int .i64 12] w fun e w' => e = .returned (.int .u32 (Rv.part x 12 8 12)) ∧ w = w') := fun w => rbits_any x 12 19 12 h0 h1 (by omega) (by omega) (by omega) (by omega) w
    have B2 : Hid (∀ w, Calls Tryd.prog 48 #[.int .u32 x, .int .i64 20, .int .i64 20, .int .i64 11] w fun e w' => e = .returned (.int .u32 (Rv.part x 20 1 11)) ∧ w = w') := fun w => rbits_any x 20 20 11 h0 h1 (by omega) (by omega) (by omega) (by omega) w
    have B3 : Hid (∀ w, Calls Tryd.prog 48 #[.int .u32 x, .int .i64 21, .int .i64 30, .int .i64 1] w fun e w' => e = .returned (.int .u32 (Rv.part x 21 10 1)) ∧ w = w') := fun w => rbits_any x 21 30 1 h0 h1 (by omega) (by omega) (by omega) (by omega) w
    have B4 : Hid (∀ w, Calls Tryd.prog 48 #[.int .u32 x, .int .i64 31, .int .i64 31, .int .i64 20] w fun e w' => e = .returned (.int .u32 (Rv.part x 31 1 20)) ∧ w = w') := fun w => rbits_any x 31 31 20 h0 h1 (by omega) (by omega) (by omega) (by omega) w
    have HN := Lib.hid (bits7 x)
    obtain ⟨N, hN⟩ : ∃ N, x / 4096 % 256 * 4096 + x / 1048576 % 2 * 2048 + x / 2097152 % 1024 * 2 + x / 2147483648 % 2 * 1048576 = N := ⟨_, rfl⟩
    have n0 : 0 ≤ N := by omega
    have n1 : N < 2 ^ 21 := by simp only [Int.reducePow]; omega
    have HE : Hid (Rv.sgn (2 ^ 21) N = Rv.immN 7 x) := by show _ = _; rw [← hN]; simp only [Int.reducePow]; rfl
    rw [hN] at HN
    have HSG := Lib.hid (rsigned_any N 21 (by omega) n0 n1)
    obtain ⟨p1, hp1⟩ : ∃ p, Rv.part x 12 8 12 = p := ⟨_, rfl⟩
    rw [hp1] at B1 HN
    obtain ⟨p2, hp2⟩ : ∃ p, Rv.part x 20 1 11 = p := ⟨_, rfl⟩
    rw [hp2] at B2 HN
    obtain ⟨p3, hp3⟩ : ∃ p, Rv.part x 21 10 1 = p := ⟨_, rfl⟩
    rw [hp3] at B3 HN
    obtain ⟨p4, hp4⟩ : ∃ p, Rv.part x 31 1 20 = p := ⟨_, rfl⟩
    rw [hp4] at B4 HN
    have hor : bits .or .u32 (bits .or .u32 (bits .or .u32 p1 p2) (p3)) (p4) = N := HN.out
    clear HN hN n0 n1 hp1 hp2 hp3 hp4
    go_enter Tryd.func47, Tryd.ntmps47
    go_wp2_with (first
      | (go_at_call 48; with_reducible refine (B1.out _).mono ?_; rintro e w1 ⟨rfl, rfl⟩)
      | (go_at_call 48; with_reducible refine (B2.out _).mono ?_; rintro e w1 ⟨rfl, rfl⟩)
      | (go_at_call 48; with_reducible refine (B3.out _).mono ?_; rintro e w1 ⟨rfl, rfl⟩)
      | (go_at_call 48; with_reducible refine (B4.out _).mono ?_; rintro e w1 ⟨rfl, rfl⟩)
      | (go_at_call 71; refine (HSG.out _).mono ?_; rintro e w1 ⟨rfl, rfl⟩))
    go_ret
    exact ⟨ret_int HE.out, rfl⟩
  · have B1 : Hid (∀ w, Calls Tryd.prog 48 #[.int .u32 x, .int .i64 20, .int .i64 31, .int .i64 0] w fun e w' => e = .returned (.int .u32 (Rv.part x 20 12 0)) ∧ w = w') := fun w => rbits_any x 20 31 0 h0 h1 (by omega) (by omega) (by omega) (by omega) w
    have HN : Hid (Rv.part x 20 12 0 = x / 1048576 % 4096) := by
      show _ = _; rw [part_num x 20 12 0 1048576 4096 1 (by decide) (by decide) (by decide)]; omega
    obtain ⟨N, hN⟩ : ∃ N, x / 1048576 % 4096 = N := ⟨_, rfl⟩
    have n0 : 0 ≤ N := by omega
    have n1 : N < 2 ^ 12 := by simp only [Int.reducePow]; omega
    have HE : Hid (Rv.sgn (2 ^ 12) N = Rv.immN 1 x) := by show _ = _; rw [← hN]; simp only [Int.reducePow]; rfl
    rw [hN] at HN
    have HSG := Lib.hid (rsigned_any N 12 (by omega) n0 n1)
    obtain ⟨p1, hp1⟩ : ∃ p, Rv.part x 20 12 0 = p := ⟨_, rfl⟩
    rw [hp1] at B1 HN
    have hor : p1 = N := HN.out
    subst hor
    clear HN hN n0 n1 hp1
    go_enter Tryd.func47, Tryd.ntmps47
    go_wp2_with (first
      | (go_at_call 48; with_reducible refine (B1.out _).mono ?_; rintro e w1 ⟨rfl, rfl⟩)
      | (go_at_call 71; refine (HSG.out _).mono ?_; rintro e w1 ⟨rfl, rfl⟩))
    go_ret
    exact ⟨ret_int HE.out, rfl⟩
  · have B1 : Hid (∀ w, Calls Tryd.prog 48 #[.int .u32 x, .int .i64 20, .int .i64 31, .int .i64 0] w fun e w' => e = .returned (.int .u32 (Rv.part x 20 12 0)) ∧ w = w') := fun w => rbits_any x 20 31 0 h0 h1 (by omega) (by omega) (by omega) (by omega) w
    have HN : Hid (Rv.part x 20 12 0 = x / 1048576 % 4096) := by
      show _ = _; rw [part_num x 20 12 0 1048576 4096 1 (by decide) (by decide) (by decide)]; omega
    obtain ⟨N, hN⟩ : ∃ N, x / 1048576 % 4096 = N := ⟨_, rfl⟩
    have n0 : 0 ≤ N := by omega
    have n1 : N < 2 ^ 12 := by simp only [Int.reducePow]; omega
    have HE : Hid (Rv.sgn (2 ^ 12) N = Rv.immN 4 x) := by show _ = _; rw [← hN]; simp only [Int.reducePow]; rfl
    rw [hN] at HN
    have HSG := Lib.hid (rsigned_any N 12 (by omega) n0 n1)
    obtain ⟨p1, hp1⟩ : ∃ p, Rv.part x 20 12 0 = p := ⟨_, rfl⟩
    rw [hp1] at B1 HN
    have hor : p1 = N := HN.out
    subst hor
    clear HN hN n0 n1 hp1
    go_enter Tryd.func47, Tryd.ntmps47
    go_wp2_with (first
      | (go_at_call 48; with_reducible refine (B1.out _).mono ?_; rintro e w1 ⟨rfl, rfl⟩)
      | (go_at_call 71; refine (HSG.out _).mono ?_; rintro e w1 ⟨rfl, rfl⟩))
    go_ret
    exact ⟨ret_int HE.out, rfl⟩
  · have B1 : Hid (∀ w, Calls Tryd.prog 48 #[.int .u32 x, .int .i64 20, .int .i64 31, .int .i64 0] w fun e w' => e = .returned (.int .u32 (Rv.part x 20 12 0)) ∧ w = w') := fun w => rbits_any x 20 31 0 h0 h1 (by omega) (by omega) (by omega) (by omega) w
    have HN : Hid (Rv.part x 20 12 0 = x / 1048576 % 4096) := by
      show _ = _; rw [part_num x 20 12 0 1048576 4096 1 (by decide) (by decide) (by decide)]; omega
    obtain ⟨N, hN⟩ : ∃ N, x / 1048576 % 4096 = N := ⟨_, rfl⟩
    have n0 : 0 ≤ N := by omega
    have n1 : N < 2 ^ 12 := by simp only [Int.reducePow]; omega
    have HE : Hid (Rv.sgn (2 ^ 12) N = Rv.immN 8 x) := by show _ = _; rw [← hN]; simp only [Int.reducePow]; rfl
    rw [hN] at HN
    have HSG := Lib.hid (rsigned_any N 12 (by omega) n0 n1)
    obtain ⟨p1, hp1⟩ : ∃ p, Rv.part x 20 12 0 = p := ⟨_, rfl⟩
    rw [hp1] at B1 HN
    have hor : p1 = N := HN.out
    subst hor
    clear HN hN n0 n1 hp1
    go_enter Tryd.func47, Tryd.ntmps47
    go_wp2_with (first
      | (go_at_call 48; with_reducible refine (B1.out _).mono ?_; rintro e w1 ⟨rfl, rfl⟩)
      | (go_at_call 71; refine (HSG.out _).mono ?_; rintro e w1 ⟨rfl, rfl⟩))
    go_ret
    exact ⟨ret_int HE.out, rfl⟩
end Go.Proofs.YthiaaagoccpkcaaDoor

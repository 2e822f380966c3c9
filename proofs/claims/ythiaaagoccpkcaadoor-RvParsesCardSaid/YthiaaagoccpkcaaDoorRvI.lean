/- rv.encode at a valid instruction. -/
import Derived.Test.YthiaaagoccpkcaaDoorRvG
import Derived.Test.YthiaaagoccpkcaaDoorRvH
namespace Go.Proofs.YthiaaagoccpkcaaDoor
open Go.RowKit

theorem quiet_same {P : Program} {f : FuncId} {args : Array Value} {w : World} {n : Nat} {v : Value}
    (h : Calls P f args (w.drewN n) fun e w' => e = .returned v ∧ w.drewN n = w') : Calls P f args (w.drewN n) fun e w'' => e = .returned v ∧ ∃ m, w'' = w.drewN m :=
  h.mono fun _ _ ⟨he, hm⟩ => ⟨he, n, hm.symm⟩
theorem tab_bounds (n : Nat) (h : n ≤ 40) : (0 ≤ Rv.codeN n ∧ Rv.codeN n < 128) ∧ (0 ≤ Rv.thirdN n ∧ Rv.thirdN n ≤ 7) ∧ (0 ≤ Rv.seventhN n ∧ Rv.seventhN n ≤ 32) := by
  have : ∀ k, k < 41 → ((0 ≤ Rv.codeN k ∧ Rv.codeN k < 128) ∧ (0 ≤ Rv.thirdN k ∧ Rv.thirdN k ≤ 7) ∧ (0 ≤ Rv.seventhN k ∧ Rv.seventhN k ≤ 32)) := by decide
  exact this n (by omega)
theorem valid_bounds {x : RvI} (h : Rv.valid x = true) : (0 ≤ x.op ∧ x.op ≤ 40) ∧ (0 ≤ x.d ∧ x.d ≤ 31) ∧ (0 ≤ x.a ∧ x.a ≤ 31) ∧ (0 ≤ x.b ∧ x.b ≤ 31) := by
  obtain ⟨op, d, a, b, imm⟩ := x
  unfold Rv.valid Rv.isReg at h
  simp at h
  obtain ⟨⟨⟨⟨⟨h1, h2⟩, h3⟩, h4⟩, h5⟩, -⟩ := h
  refine ⟨⟨h1, h2⟩, ?_, ?_, ?_⟩
  all_goals dsimp only
  · rcases h3 with h | h <;> omega
  · rcases h4 with h | h <;> omega
  · rcases h5 with h | h <;> omega

set_option maxRecDepth 100000 in
set_option maxHeartbeats 8000000 in
theorem pencode_any (n : Nat) (d a b imm : Int) (hn : n ≤ 40) (hd : 0 ≤ d ∧ d ≤ 31) (ha : 0 ≤ a ∧ a ≤ 31) (hb : 0 ≤ b ∧ b ≤ 31) (vd : Rv.hasD (Rv.shapeN n) = false → d = 0) (va : Rv.hasA (Rv.shapeN n) = false → a = 0) (vb : Rv.hasB (Rv.shapeN n) = false → b = 0) (vi : Rv.hasI (Rv.shapeN n) = true → Rv.reaches (Rv.shapeN n) imm = true) (w : World) :
    Calls Tryd.prog 35 #[rvVal ⟨n, d, a, b, imm⟩] w fun e w' => e = .returned (.int .u32 (Rv.word ⟨n, d, a, b, imm⟩)) ∧ Gr w w' := by
  have HFO : Hid (∀ w1, Calls Tryd.prog 37 #[.int .i64 (n : Int)] w1 fun e w' => e = .returned (.int .i64 (Rv.shapeN n)) ∧ w1 = w') := fun w1 => by
    have h := formOf_any (n : Int) w1
    have e : Rv.form (n : Int) = Rv.shapeN n := by unfold Rv.form; rw [if_neg (by omega)]; simp
    rw [e] at h; exact h
  have HCO : Hid (∀ w1, Calls Tryd.prog 65 #[.int .i64 (Rv.shapeN n)] w1 fun e w' => e = .returned (.int .u32 (Rv.codeN n)) ∧ w1 = w') := fun w1 => code_any n hn w1
  have HTH : Hid (∀ w1, Calls Tryd.prog 66 #[.int .i64 (n : Int)] w1 fun e w' => e = .returned (.int .u32 (Rv.thirdN n)) ∧ w1 = w') := fun w1 => third_any n hn w1
  have HSE : Hid (∀ w1, Calls Tryd.prog 67 #[.int .i64 (n : Int)] w1 fun e w' => e = .returned (.int .u32 (Rv.seventhN n)) ∧ w1 = w') := fun w1 => seventh_any n hn w1
  obtain ⟨bc, bt, bs⟩ := tab_bounds n hn
  obtain ⟨c, hc⟩ : ∃ c, Rv.codeN n = c := ⟨_, rfl⟩
  obtain ⟨t, ht⟩ : ∃ c, Rv.thirdN n = c := ⟨_, rfl⟩
  obtain ⟨sv, hsv⟩ : ∃ c, Rv.seventhN n = c := ⟨_, rfl⟩
  obtain ⟨s, hs⟩ : ∃ c, Rv.shapeN n = c := ⟨_, rfl⟩
  rw [hs] at vd va vb vi
  rw [hs, hc] at HCO
  rw [hs] at HFO
  rw [ht] at HTH
  rw [hsv] at HSE
  rw [hc] at bc
  rw [ht] at bt
  rw [hsv] at bs
  have VD := Lib.hid vd
  have VA := Lib.hid va
  have VB := Lib.hid vb
  have VI := Lib.hid vi
  clear vd va vb vi
  have HHS := Lib.hid (head_sum c d t a b bc hd bt ha hb)
  obtain ⟨W, hW⟩ : ∃ W, w.alloc (.cells #[.int .i64 (n : Int), .int .i64 d, .int .i64 a, .int .i64 b, .int .i64 imm] 23) = W := ⟨_, rfl⟩
  have hB0 : Gr w W := by rw [← hW]; exact (Gr.refl w).alloc _
  have hrw : W.heap[w.heap.size]? = some (.cells #[.int .i64 (n : Int), .int .i64 d, .int .i64 a, .int .i64 b, .int .i64 imm] 23 (0, 0)) := by rw [← hW]; exact heap_alloc_new w _
  have k0 := cell_of_row _ _ 0 _ _ _ hrw
  have k1 := cell_of_row _ _ 1 _ _ _ hrw
  have k2 := cell_of_row _ _ 2 _ _ _ hrw
  have k3 := cell_of_row _ _ 3 _ _ _ hrw
  have k4 := cell_of_row _ _ 4 _ _ _ hrw
  have d1 : d * 128 % 4294967296 = d * 128 := by omega
  have d2 : t * 4096 % 4294967296 = t * 4096 := by omega
  have d3 : a * 32768 % 4294967296 = a * 32768 := by omega
  have d4 : b * 1048576 % 4294967296 = b * 1048576 := by omega
  have d5 : d % 4294967296 = d := by omega
  have d6 : a % 4294967296 = a := by omega
  have d7 : b % 4294967296 = b := by omega
  clear hrw
  unfold rvVal
  go_enter Tryd.func35, Tryd.ntmps35
  go_wp2_with (go_at_call 37; refine (HFO.out _).mono ?_; rintro e w1 ⟨rfl, rfl⟩)
  go_quiet (first
    | (go_at_call 65; exact quiet_same (HCO.out _))
    | (go_at_call 66; exact quiet_same (HTH.out _)))
  have HG : Hid (Gr w (W.drewN nq)) := hB0.drewN _
  have d8 : sv * 33554432 % 4294967296 = sv * 33554432 := by omega
  have HWD : Hid (Rv.word ⟨n, d, a, b, imm⟩ = Rv.word ⟨n, d, a, b, imm⟩) := by show _ = _; rfl
  have hs10 := shape_range n
  rw [hs] at hs10
  have HS := Lib.hid hs
  have HCc := Lib.hid hc
  have HTt := Lib.hid ht
  have HSs := Lib.hid hsv
  clear hs hc ht hsv
  rcases (by omega : s = 0 ∨ s = 1 ∨ s = 4 ∨ s = 8 ∨ s = 2 ∨ s = 9 ∨ s = 3 ∨ s = 5 ∨ s = 6 ∨ s = 7) with rfl | rfl | rfl | rfl | rfl | rfl | rfl | rfl | rfl | rfl
  · go_wp2_with (go_at_call 67; refine (HSE.out _).mono ?_; rintro e w1 ⟨rfl, rfl⟩)
    go_ret
    refine ⟨ret_int ?_, HG.out⟩
    rw [HHS.out, orL 25 33554432 _ (sv * 33554432) (by decide) (by omega) (by omega) (by omega) (by omega) (by omega)]
    unfold Rv.word
    simp only [Int.toNat_natCast, HS.out, HCc.out, HTt.out, HSs.out]
    simp
    omega
  · have B0 : Hid (b = 0) := VB.out (by decide)
    go_wp2
    go_ret
    refine ⟨ret_int ?_, HG.out⟩
    rw [HHS.out, orL 20 1048576 _ (imm % 4294967296 * 1048576 % 4294967296) (by decide) (by omega) (by have := B0.out; omega) (by omega) (by omega) (by have := B0.out; omega)]
    have b0 := B0.out
    unfold Rv.word
    simp only [Int.toNat_natCast, HS.out, HCc.out, HTt.out, HSs.out]
    simp
    omega
  · have B0 : Hid (b = 0) := VB.out (by decide)
    go_wp2
    go_ret
    refine ⟨ret_int ?_, HG.out⟩
    rw [HHS.out, orL 20 1048576 _ (imm % 4294967296 * 1048576 % 4294967296) (by decide) (by omega) (by have := B0.out; omega) (by omega) (by omega) (by have := B0.out; omega)]
    have b0 := B0.out
    unfold Rv.word
    simp only [Int.toNat_natCast, HS.out, HCc.out, HTt.out, HSs.out]
    simp
    omega
  · have B0 : Hid (b = 0) := VB.out (by decide)
    go_wp2
    go_ret
    refine ⟨ret_int ?_, HG.out⟩
    rw [HHS.out, orL 20 1048576 _ (imm % 4294967296 * 1048576 % 4294967296) (by decide) (by omega) (by have := B0.out; omega) (by omega) (by omega) (by have := B0.out; omega)]
    have b0 := B0.out
    unfold Rv.word
    simp only [Int.toNat_natCast, HS.out, HCc.out, HTt.out, HSs.out]
    simp
    omega
  · have B0 : Hid (b = 0) := VB.out (by decide)
    have HI : Hid (0 ≤ imm ∧ imm ≤ 31) := by
      have h := VI.out (by decide)
      unfold Rv.reaches at h
      simp at h
      exact h
    go_wp2_with (go_at_call 67; refine (HSE.out _).mono ?_; rintro e w1 ⟨rfl, rfl⟩)
    go_ret
    refine ⟨ret_int ?_, HG.out⟩
    have b0 := B0.out
    obtain ⟨m0, m1⟩ := HI.out
    rw [HHS.out, orL 20 1048576 _ (imm % 4294967296 * 1048576 % 4294967296) (by decide) (by omega) (by omega) (by omega) (by omega) (by omega),
      orL 25 33554432 _ (sv * 33554432) (by decide) (by omega) (by omega) (by omega) (by omega) (by omega)]
    unfold Rv.word
    simp only [Int.toNat_natCast, HS.out, HCc.out, HTt.out, HSs.out]
    simp
    omega
  · have h39 : n = 39 ∨ n = 40 := by have h := HS.out; unfold Rv.shapeN at h; grind
    clear HHS
    rcases h39 with rfl | rfl
    · go_wp2
      go_ret
      exact ⟨ret_int (by unfold Rv.word; simp [HS.out]), HG.out⟩
    · go_wp2
      go_ret
      exact ⟨ret_int (by unfold Rv.word; simp [HS.out]), HG.out⟩
  · have HI : Hid (0 ≤ imm ∧ imm ≤ 1048575) := by
      have h := VI.out (by decide)
      unfold Rv.reaches at h
      simp at h
      exact h
    clear HHS
    have r1 : (W.drewN nq).cell? ⟨w.heap.size, 1, none⟩ = some (.int .i64 d) := k1
    obtain ⟨W9, hW9⟩ : ∃ W9, W.drewN nq = W9 := ⟨_, rfl⟩
    rw [hW9] at r1 HG ⊢
    clear k0 k1 k2 k3 k4 hW hW9
    go_wp2
    go_quiet ((go_at_call 65; exact quiet_same (HCO.out _)))
    go_wp2
    go_ret
    refine ⟨ret_int ?_, HG.out.drewN _⟩
    obtain ⟨m0, m1⟩ := HI.out
    rw [orL 7 128 c (d * 128) (by decide) (by omega) (by omega) (by omega) (by omega) (by omega), orL 12 4096 _ (imm % 4294967296 * 4096 % 4294967296) (by decide) (by omega) (by omega) (by omega) (by omega) (by omega)]
    unfold Rv.word
    simp only [Int.toNat_natCast, HS.out, HCc.out, HTt.out, HSs.out]
    simp
    omega
  · have hi0 : 0 ≤ imm % 4294967296 := by omega
    have hi1 : imm % 4294967296 < 4294967296 := by omega
    have HB1 : Hid (∀ w1, Calls Tryd.prog 68 #[.int .u32 (imm % 4294967296), .int .i64 0, .int .i64 5, .int .i64 7] w1 fun e w' => e = .returned (.int .u32 (Rv.part (imm % 4294967296) 0 5 7)) ∧ ∃ k, w' = w1.drewN k) := fun w1 => bit_any _ 0 5 7 hi0 hi1 (by omega) (by omega) (by omega) w1
    have HB2 : Hid (∀ w1, Calls Tryd.prog 68 #[.int .u32 (imm % 4294967296), .int .i64 5, .int .i64 7, .int .i64 25] w1 fun e w' => e = .returned (.int .u32 (Rv.part (imm % 4294967296) 5 7 25)) ∧ ∃ k, w' = w1.drewN k) := fun w1 => bit_any _ 5 7 25 hi0 hi1 (by omega) (by omega) (by omega) w1
    have D0 : Hid (d = 0) := VD.out (by decide)
    obtain ⟨W9, hW9⟩ : ∃ W9, W.drewN nq = W9 := ⟨_, rfl⟩
    rw [hW9] at HG ⊢
    clear k0 k1 k2 k3 k4 hW hW9
    go_wp2_with (first
      | (go_at_call 68; with_reducible refine (HB1.out _).mono ?_; rintro e w1 ⟨rfl, m1, rfl⟩)
      | (go_at_call 68; with_reducible refine (HB2.out _).mono ?_; rintro e w2 ⟨rfl, m2, rfl⟩))
    go_ret
    refine ⟨ret_int ?_, by first | exact (HG.out.drewN _).drewN _ | exact HG.out.drewN _⟩
    have d0 := D0.out
    rw [HHS.out, part_num _ 0 5 7 1 32 128 (by decide) (by decide) (by decide), part_num _ 5 7 25 32 128 33554432 (by decide) (by decide) (by decide),
      orMid 7 12 128 4096 _ c (imm % 4294967296 / 1 % 32 * 128) (t * 4096 + a * 32768 + b * 1048576) (by omega) (by decide) (by decide) (by omega) (by omega) (by omega) (by omega) (by omega) (by omega) (by omega) (by omega),
      orL 25 33554432 _ (imm % 4294967296 / 32 % 128 * 33554432) (by decide) (by omega) (by omega) (by omega) (by omega) (by omega)]
    unfold Rv.word
    simp only [Int.toNat_natCast, HS.out, HCc.out, HTt.out, HSs.out]
    simp
    omega
  · have hi0 : 0 ≤ imm % 4294967296 := by omega
    have hi1 : imm % 4294967296 < 4294967296 := by omega
    have HB1 : Hid (∀ w1, Calls Tryd.prog 68 #[.int .u32 (imm % 4294967296), .int .i64 11, .int .i64 1, .int .i64 7] w1 fun e w' => e = .returned (.int .u32 (Rv.part (imm % 4294967296) 11 1 7)) ∧ ∃ k, w' = w1.drewN k) := fun w1 => bit_any _ 11 1 7 hi0 hi1 (by omega) (by omega) (by omega) w1
    have HB2 : Hid (∀ w1, Calls Tryd.prog 68 #[.int .u32 (imm % 4294967296), .int .i64 1, .int .i64 4, .int .i64 8] w1 fun e w' => e = .returned (.int .u32 (Rv.part (imm % 4294967296) 1 4 8)) ∧ ∃ k, w' = w1.drewN k) := fun w1 => bit_any _ 1 4 8 hi0 hi1 (by omega) (by omega) (by omega) w1
    have HB3 : Hid (∀ w1, Calls Tryd.prog 68 #[.int .u32 (imm % 4294967296), .int .i64 5, .int .i64 6, .int .i64 25] w1 fun e w' => e = .returned (.int .u32 (Rv.part (imm % 4294967296) 5 6 25)) ∧ ∃ k, w' = w1.drewN k) := fun w1 => bit_any _ 5 6 25 hi0 hi1 (by omega) (by omega) (by omega) w1
    have HB4 : Hid (∀ w1, Calls Tryd.prog 68 #[.int .u32 (imm % 4294967296), .int .i64 12, .int .i64 1, .int .i64 31] w1 fun e w' => e = .returned (.int .u32 (Rv.part (imm % 4294967296) 12 1 31)) ∧ ∃ k, w' = w1.drewN k) := fun w1 => bit_any _ 12 1 31 hi0 hi1 (by omega) (by omega) (by omega) w1
    have D0 : Hid (d = 0) := VD.out (by decide)
    obtain ⟨W9, hW9⟩ : ∃ W9, W.drewN nq = W9 := ⟨_, rfl⟩
    rw [hW9] at HG ⊢
    clear k0 k1 k2 k3 k4 hW hW9
    go_wp2_with (first
      | (go_at_call 68; with_reducible refine (HB1.out _).mono ?_; rintro e w1 ⟨rfl, m1, rfl⟩)
      | (go_at_call 68; with_reducible refine (HB2.out _).mono ?_; rintro e w2 ⟨rfl, m2, rfl⟩)
      | (go_at_call 68; with_reducible refine (HB3.out _).mono ?_; rintro e w3 ⟨rfl, m3, rfl⟩)
      | (go_at_call 68; with_reducible refine (HB4.out _).mono ?_; rintro e w4 ⟨rfl, m4, rfl⟩))
    go_ret
    refine ⟨ret_int ?_, by first | exact (((HG.out.drewN _).drewN _).drewN _).drewN _ | exact HG.out.drewN _⟩
    have d0 := D0.out
    rw [HHS.out, part_num _ 11 1 7 2048 2 128 (by decide) (by decide) (by decide), part_num _ 1 4 8 2 16 256 (by decide) (by decide) (by decide), part_num _ 5 6 25 32 64 33554432 (by decide) (by decide) (by decide), part_num _ 12 1 31 4096 2 2147483648 (by decide) (by decide) (by decide),
      orMid 7 8 128 256 _ c (imm % 4294967296 / 2048 % 2 * 128) (t * 4096 + a * 32768 + b * 1048576) (by omega) (by decide) (by decide) (by omega) (by omega) (by omega) (by omega) (by omega) (by omega) (by omega) (by omega),
      orMid 8 12 256 4096 _ (c + imm % 4294967296 / 2048 % 2 * 128) (imm % 4294967296 / 2 % 16 * 256) (t * 4096 + a * 32768 + b * 1048576) (by omega) (by decide) (by decide) (by omega) (by omega) (by omega) (by omega) (by omega) (by omega) (by omega) (by omega),
      orL 25 33554432 _ (imm % 4294967296 / 32 % 64 * 33554432) (by decide) (by omega) (by omega) (by omega) (by omega) (by omega),
      orL 31 2147483648 _ (imm % 4294967296 / 4096 % 2 * 2147483648) (by decide) (by omega) (by omega) (by omega) (by omega) (by omega)]
    unfold Rv.word
    simp only [Int.toNat_natCast, HS.out, HCc.out, HTt.out, HSs.out]
    simp
    omega
  · have hi0 : 0 ≤ imm % 4294967296 := by omega
    have hi1 : imm % 4294967296 < 4294967296 := by omega
    have HB1 : Hid (∀ w1, Calls Tryd.prog 68 #[.int .u32 (imm % 4294967296), .int .i64 12, .int .i64 8, .int .i64 12] w1 fun e w' => e = .returned (.int .u32 (Rv.part (imm % 4294967296) 12 8 12)) ∧ ∃ k, w' = w1.drewN k) := fun w1 => bit_any _ 12 8 12 hi0 hi1 (by omega) (by omega) (by omega) w1
    have HB2 : Hid (∀ w1, Calls Tryd.prog 68 #[.int .u32 (imm % 4294967296), .int .i64 11, .int .i64 1, .int .i64 20] w1 fun e w' => e = .returned (.int .u32 (Rv.part (imm % 4294967296) 11 1 20)) ∧ ∃ k, w' = w1.drewN k) := fun w1 => bit_any _ 11 1 20 hi0 hi1 (by omega) (by omega) (by omega) w1
    have HB3 : Hid (∀ w1, Calls Tryd.prog 68 #[.int .u32 (imm % 4294967296), .int .i64 1, .int .i64 10, .int .i64 21] w1 fun e w' => e = .returned (.int .u32 (Rv.part (imm % 4294967296) 1 10 21)) ∧ ∃ k, w' = w1.drewN k) := fun w1 => bit_any _ 1 10 21 hi0 hi1 (by omega) (by omega) (by omega) w1
    have HB4 : Hid (∀ w1, Calls Tryd.prog 68 #[.int .u32 (imm % 4294967296), .int .i64 20, .int .i64 1, .int .i64 31] w1 fun e w' => e = .returned (.int .u32 (Rv.part (imm % 4294967296) 20 1 31)) ∧ ∃ k, w' = w1.drewN k) := fun w1 => bit_any _ 20 1 31 hi0 hi1 (by omega) (by omega) (by omega) w1
    clear HHS
    have r1 : (W.drewN nq).cell? ⟨w.heap.size, 1, none⟩ = some (.int .i64 d) := k1
    obtain ⟨W9, hW9⟩ : ∃ W9, W.drewN nq = W9 := ⟨_, rfl⟩
    rw [hW9] at r1 HG ⊢
    clear k0 k1 k2 k3 k4 hW hW9
    go_wp2
    go_quiet ((first
      | (go_at_call 65; exact quiet_same (HCO.out _))
      | (go_at_call 68; with_reducible exact Calls.quiet_of (HB1.out _))
      | (go_at_call 68; with_reducible exact Calls.quiet_of (HB2.out _))
      | (go_at_call 68; with_reducible exact Calls.quiet_of (HB3.out _))
      | (go_at_call 68; with_reducible exact Calls.quiet_of (HB4.out _))))
    go_wp2_with (first
      | (go_at_call 68; with_reducible refine (HB1.out _).mono ?_; rintro e w1 ⟨rfl, m1, rfl⟩)
      | (go_at_call 68; with_reducible refine (HB2.out _).mono ?_; rintro e w2 ⟨rfl, m2, rfl⟩)
      | (go_at_call 68; with_reducible refine (HB3.out _).mono ?_; rintro e w3 ⟨rfl, m3, rfl⟩)
      | (go_at_call 68; with_reducible refine (HB4.out _).mono ?_; rintro e w4 ⟨rfl, m4, rfl⟩))
    go_ret
    refine ⟨ret_int ?_, HG.out.drewN _⟩
    rw [part_num _ 12 8 12 4096 256 4096 (by decide) (by decide) (by decide), part_num _ 11 1 20 2048 2 1048576 (by decide) (by decide) (by decide), part_num _ 1 10 21 2 1024 2097152 (by decide) (by decide) (by decide), part_num _ 20 1 31 1048576 2 2147483648 (by decide) (by decide) (by decide),
      orL 7 128 c (d * 128) (by decide) (by omega) (by omega) (by omega) (by omega) (by omega),
      orL 12 4096 _ (imm % 4294967296 / 4096 % 256 * 4096) (by decide) (by omega) (by omega) (by omega) (by omega) (by omega),
      orL 20 1048576 _ (imm % 4294967296 / 2048 % 2 * 1048576) (by decide) (by omega) (by omega) (by omega) (by omega) (by omega),
      orL 21 2097152 _ (imm % 4294967296 / 2 % 1024 * 2097152) (by decide) (by omega) (by omega) (by omega) (by omega) (by omega),
      orL 31 2147483648 _ (imm % 4294967296 / 1048576 % 2 * 2147483648) (by decide) (by omega) (by omega) (by omega) (by omega) (by omega)]
    unfold Rv.word
    simp only [Int.toNat_natCast, HS.out, HCc.out, HTt.out, HSs.out]
    simp
    omega
end Go.Proofs.YthiaaagoccpkcaaDoor

/- The document's encode at a valid instruction. -/
import Derived.Test.YthiaaagoccpkcaaDoorRvI
import Derived.Test.YthiaaagoccpkcaaDoorDec
import Derived.Deep.DeepCutAuto
import Derived.Deep.CutRange
namespace Go.Proofs.YthiaaagoccpkcaaDoor
open Go.RowKit

theorem row4_set {w : World} {g : Nat} {x0 x1 x2 x3 : Value} {T : TypeId} (v0 v1 v2 v3 : Value) (h : w.heap[g]? = some (.cells #[x0, x1, x2, x3] T (0, 0))) :
    ((((w.setCell ⟨g, 0, none⟩ v0).setCell ⟨g, 1, none⟩ v1).setCell ⟨g, 2, none⟩ v2).setCell ⟨g, 3, none⟩ v3).heap[g]? = some (.cells #[v0, v1, v2, v3] T (0, 0)) := by
  have h1 := heap_setCell_same _ _ 3 _ _ v3 (heap_setCell_same _ _ 2 _ _ v2 (heap_setCell_same _ _ 1 _ _ v1 (heap_setCell_same _ _ 0 _ _ v0 h)))
  simpa using h1
set_option maxRecDepth 100000 in
set_option maxHeartbeats 8000000 in
theorem rencode_any (n : Nat) (d a b imm : Int) (hn : n ≤ 40) (hd : 0 ≤ d ∧ d ≤ 31) (ha : 0 ≤ a ∧ a ≤ 31) (hb : 0 ≤ b ∧ b ≤ 31) (vd : Rv.hasD (Rv.shapeN n) = false → d = 0) (va : Rv.hasA (Rv.shapeN n) = false → a = 0) (vb : Rv.hasB (Rv.shapeN n) = false → b = 0) (vi : Rv.hasI (Rv.shapeN n) = true → Rv.reaches (Rv.shapeN n) imm = true) (hm : -2147483648 ≤ imm ∧ imm < 2147483648) (w : World) :
    Calls Tryd.prog 36 #[rvVal ⟨n, d, a, b, imm⟩] w fun e w' => e = .returned (.int .u32 (Rv.word ⟨n, d, a, b, imm⟩)) ∧ Gr w w' := by
  obtain ⟨bc, bt, bs⟩ := tab_bounds n hn
  have tz : Rv.shapeN n = 3 ∨ Rv.shapeN n = 7 → Rv.thirdN n = 0 := Rv.third_zero n hn
  have HFM : Hid (∀ w1, Calls Tryd.prog 41 #[] w1 fun e w' => ∃ B, e = .returned (.slice (some ⟨B, 0, none⟩) 41 41) ∧ Hid (w'.cell? ⟨B, n * 4, none⟩ = some (.int .i64 (Rv.shapeN n)) ∧ w'.cell? ⟨B, n * 4 + 1, none⟩ = some (.int .i64 (Rv.codeN n)) ∧ w'.cell? ⟨B, n * 4 + 2, none⟩ = some (.int .i64 (Rv.thirdN n)) ∧ w'.cell? ⟨B, n * 4 + 3, none⟩ = some (.int .i64 (Rv.seventhN n))) ∧ B < w'.heap.size ∧ Gr w1 w') := fun w1 =>
    (forms_any w1).mono fun _ _ ⟨h1, h2, h3⟩ => by
      obtain ⟨f0, f1, f2, f3⟩ := form_cells n hn
      exact ⟨_, h1, ⟨(cell_of_row _ _ _ _ _ _ h2.out).trans f0, (cell_of_row _ _ _ _ _ _ h2.out).trans f1, (cell_of_row _ _ _ _ _ _ h2.out).trans f2, (cell_of_row _ _ _ _ _ _ h2.out).trans f3⟩, (Array.getElem?_eq_some_iff.1 h2.out).1, h3⟩
  obtain ⟨c, hc⟩ : ∃ c, Rv.codeN n = c := ⟨_, rfl⟩
  obtain ⟨t, ht⟩ : ∃ c, Rv.thirdN n = c := ⟨_, rfl⟩
  obtain ⟨sv, hsv⟩ : ∃ c, Rv.seventhN n = c := ⟨_, rfl⟩
  obtain ⟨s, hs⟩ : ∃ c, Rv.shapeN n = c := ⟨_, rfl⟩
  rw [hs] at vd va vb vi tz
  rw [ht] at tz
  have TZ := Lib.hid tz
  clear tz
  rw [hc, ht, hsv, hs] at HFM
  rw [hc] at bc
  rw [ht] at bt
  rw [hsv] at bs
  have VD := Lib.hid vd
  have VA := Lib.hid va
  have VB := Lib.hid vb
  have VI := Lib.hid vi
  clear vd va vb vi
  obtain ⟨W, hW⟩ : ∃ W, w.alloc (.cells #[.int .i64 (n : Int), .int .i64 d, .int .i64 a, .int .i64 b, .int .i64 imm] 23) = W := ⟨_, rfl⟩
  have hB0 : Gr w W := by rw [← hW]; exact (Gr.refl w).alloc _
  have hrw : W.heap[w.heap.size]? = some (.cells #[.int .i64 (n : Int), .int .i64 d, .int .i64 a, .int .i64 b, .int .i64 imm] 23 (0, 0)) := by rw [← hW]; exact heap_alloc_new w _
  have hWs : W.heap.size = w.heap.size + 1 := by rw [← hW]; simp
  have KP : Hid (∀ w', Gr W w' → w'.cell? ⟨w.heap.size, 0, none⟩ = some (.int .i64 n) ∧ w'.cell? ⟨w.heap.size, 1, none⟩ = some (.int .i64 d) ∧ w'.cell? ⟨w.heap.size, 2, none⟩ = some (.int .i64 a) ∧ w'.cell? ⟨w.heap.size, 3, none⟩ = some (.int .i64 b) ∧ w'.cell? ⟨w.heap.size, 4, none⟩ = some (.int .i64 imm)) := fun w' q => by
    have h := (q.heap _ (by omega)).trans hrw
    exact ⟨cell_of_row _ _ 0 _ _ _ h, cell_of_row _ _ 1 _ _ _ h, cell_of_row _ _ 2 _ _ _ h, cell_of_row _ _ 3 _ _ _ h, cell_of_row _ _ 4 _ _ _ h⟩
  obtain ⟨k0, k1, k2, k3, k4⟩ := KP.out W (Gr.refl _)
  have hn1 : (n : Int) < 41 := by omega
  have hn2 : (0 : Int) ≤ (n : Int) := by omega
  have HS := Lib.hid hs
  have HCc := Lib.hid hc
  have HTt := Lib.hid ht
  have HSs := Lib.hid hsv
  clear hs hc ht hsv hrw hWs
  unfold rvVal
  go_enter Tryd.func36, Tryd.ntmps36
  have ka : ∀ o, (W.alloc o).cell? ⟨w.heap.size, 0, none⟩ = some (.int .i64 n) := fun o => (KP.out _ ((Gr.refl W).alloc o)).1
  go_wp2
  go_cut [3] from 9 to 13 (fun s3 wx => ∃ g : Nat, s3 = .pointer (some ⟨g, 0, none⟩) ∧ Hid (W.heap.size ≤ g ∧ wx.heap[g]? = some (.cells #[.int .i64 s, .int .i64 c, .int .i64 t, .int .i64 sv] 70 (0, 0)) ∧ Gr W wx))
  case first =>
    go_region_with (first
      | (go_at_call 41; (with_reducible refine (HFM.out W.drew).mono ?_); rintro e3 w3 ⟨B, rfl, HC, hB, g30⟩; have g3 : Gr W w3 := (Gr.refl W).drew.trans g30; obtain ⟨q0, q1, q2, q3⟩ := HC.out; have c03 := (KP.out _ g3).1; have c04 : ∀ o, (w3.alloc o).cell? ⟨w.heap.size, 0, none⟩ = some (.int .i64 n) := fun o => (KP.out _ (g3.alloc o)).1; have r0 : ∀ o, (w3.alloc o).cell? ⟨B, n * 4, none⟩ = some (.int .i64 s) := fun o => (((Gr.refl w3).alloc o).cell _ _ hB).trans q0; have r1 : ∀ o, (w3.alloc o).cell? ⟨B, n * 4 + 1, none⟩ = some (.int .i64 c) := fun o => (((Gr.refl w3).alloc o).cell _ _ hB).trans q1; have r2 : ∀ o, (w3.alloc o).cell? ⟨B, n * 4 + 2, none⟩ = some (.int .i64 t) := fun o => (((Gr.refl w3).alloc o).cell _ _ hB).trans q2; have r3 : ∀ o, (w3.alloc o).cell? ⟨B, n * 4 + 3, none⟩ = some (.int .i64 sv) := fun o => (((Gr.refl w3).alloc o).cell _ _ hB).trans q3)
      | (go_at_call 41; (refine (HFM.out _).mono ?_); rintro e3 w3 ⟨B, rfl, HC, hB, g30⟩; have g3 : Gr W w3 := ((Gr.refl W).drew.alloc _).trans g30; obtain ⟨q0, q1, q2, q3⟩ := HC.out; have c03 := (KP.out _ g3).1; have hbx : w3.heap[W.heap.size]? = some (.cells #[.int .i64 0, .int .i64 0, .int .i64 0, .int .i64 0] 70 (0, 0)) := (g30.heap _ (by simp)).trans (heap_alloc_new W.drew _); have y0 := cell_of_row _ _ 0 _ _ _ hbx; have y1 := cell_of_row _ _ 1 _ _ _ hbx; have y2 := cell_of_row _ _ 2 _ _ _ hbx; have y3 := cell_of_row _ _ 3 _ _ _ hbx; have z0 := frozen_of_row _ _ 0 _ _ hbx; have z1 := frozen_of_row _ _ 1 _ _ hbx; have z2 := frozen_of_row _ _ 2 _ _ hbx; have z3 := frozen_of_row _ _ 3 _ _ hbx; have HBX := Lib.hid hbx; clear hbx))
    all_goals (go_wp2_with (fail); go_meet)
    all_goals first
      | with_reducible exact ⟨w3.heap.size, rfl, Lib.hid ⟨g3.size, heap_alloc_new w3 _, g3.alloc _⟩⟩
      | with_reducible exact ⟨W.heap.size, rfl, Lib.hid ⟨Nat.le_refl _, row4_set _ _ _ _ HBX.out, (((g3.setCell (Nat.le_refl _) _).setCell (Nat.le_refl _) _).setCell (Nat.le_refl _) _).setCell (Nat.le_refl _) _⟩⟩
  case rest =>
    obtain ⟨g, rfl, HC⟩ := hcut
    obtain ⟨hgs, hrow, hgr⟩ := HC.out
    obtain ⟨k0, k1, k2, k3, k4⟩ := KP.out _ hgr
    have f0 := cell_of_row _ _ 0 _ _ _ hrow
    have f1 := cell_of_row _ _ 1 _ _ _ hrow
    have f2 := cell_of_row _ _ 2 _ _ _ hrow
    have f3 := cell_of_row _ _ 3 _ _ _ hrow
    have HG : Hid (Gr w wc) := hB0.trans hgr
    clear HC hgs hrow hgr KP HFM ka hW hB0
    obtain ⟨hm0, hm1⟩ := hm
    have d1 : d * 128 % 4294967296 = d * 128 := by omega
    have d2 : t * 4096 % 4294967296 = t * 4096 := by omega
    have d3 : a * 32768 % 4294967296 = a * 32768 := by omega
    have d4 : b * 1048576 % 4294967296 = b * 1048576 := by omega
    have d5 : d % 4294967296 = d := by omega
    have d6 : a % 4294967296 = a := by omega
    have d7 : b % 4294967296 = b := by omega
    have d8 : sv * 33554432 % 4294967296 = sv * 33554432 := by omega
    have d9 : sv % 4294967296 = sv := by omega
    have d10 : c % 4294967296 = c := by omega
    have d11 : t % 4294967296 = t := by omega
    go_wp2
    go_quiet (fail)
    have HG2 : Hid (Gr w (wc.drewN nq)) := HG.out.drewN _
    obtain ⟨W9, hW9⟩ : ∃ W9, wc.drewN nq = W9 := ⟨_, rfl⟩
    have f0' : (wc.drewN nq).cell? ⟨g, 0, none⟩ = some (.int .i64 s) := f0
    have f3' : (wc.drewN nq).cell? ⟨g, 3, none⟩ = some (.int .i64 sv) := f3
    have f1' : (wc.drewN nq).cell? ⟨g, 1, none⟩ = some (.int .i64 c) := f1
    have f2' : (wc.drewN nq).cell? ⟨g, 2, none⟩ = some (.int .i64 t) := f2
    have k0' : (wc.drewN nq).cell? ⟨w.heap.size, 0, none⟩ = some (.int .i64 n) := k0
    rw [hW9] at f0' f1' f2' f3' k0' HG2 ⊢
    clear HG f0 f1 f2 f3 k0 k1 k2 k3 k4 hW9
    have hi0 : 0 ≤ imm % 4294967296 := by omega
    have hi1 : imm % 4294967296 < 4294967296 := by omega
    have hsc := shape_range n
    rw [HS.out] at hsc
    rcases (by omega : s = 0 ∨ s = 1 ∨ s = 4 ∨ s = 8 ∨ s = 2 ∨ s = 9 ∨ s = 3 ∨ s = 5 ∨ s = 6 ∨ s = 7) with rfl | rfl | rfl | rfl | rfl | rfl | rfl | rfl | rfl | rfl
    · clear hsc
      go_wp2
      go_ret
      refine ⟨ret_int ?_, HG2.out⟩
      rw [orL 12 4096 _ (t * 4096) (by decide) (by omega) (by omega) (by omega) (by omega) (by omega),
        orMid 7 12 128 4096 _ (c) (d * 128) (t * 4096) (by omega) (by decide) (by decide) (by omega) (by omega) (by omega) (by omega) (by omega) (by omega) (by omega) (by omega),
        orL 15 32768 _ (a * 32768) (by decide) (by omega) (by omega) (by omega) (by omega) (by omega),
        orL 20 1048576 _ (b * 1048576) (by decide) (by omega) (by omega) (by omega) (by omega) (by omega),
        orL 25 33554432 _ (sv * 33554432) (by decide) (by omega) (by omega) (by omega) (by omega) (by omega)]
      unfold Rv.word
      simp only [Int.toNat_natCast, HS.out, HCc.out, HTt.out, HSs.out]
      simp
      omega
    · clear hsc
      have B0 : Hid (b = 0) := VB.out (by decide)
      have HB1 : Hid (∀ w1, Calls Tryd.prog 48 #[.int .u32 (imm % 4294967296), .int .i64 0, .int .i64 11, .int .i64 20] w1 fun e w' => e = .returned (.int .u32 (Rv.part (imm % 4294967296) 0 12 20)) ∧ w1 = w') := fun w1 => rbits_any _ 0 11 20 hi0 hi1 (by omega) (by omega) (by omega) (by omega) w1
      go_wp2_with (first
        | (go_at_call 48; with_reducible refine (HB1.out _).mono ?_; rintro e w1 ⟨rfl, rfl⟩))
      go_ret
      refine ⟨ret_int ?_, HG2.out⟩
      rw [part_num _ 0 12 20 1 4096 1048576 (by decide) (by decide) (by decide),
        orL 12 4096 _ (t * 4096) (by decide) (by omega) (by omega) (by omega) (by omega) (by omega),
        orMid 7 12 128 4096 _ (c) (d * 128) (t * 4096) (by omega) (by decide) (by decide) (by omega) (by omega) (by omega) (by omega) (by omega) (by omega) (by omega) (by omega),
        orL 15 32768 _ (a * 32768) (by decide) (by omega) (by omega) (by omega) (by omega) (by omega),
        orL 20 1048576 _ (imm % 4294967296 / 1 % 4096 * 1048576) (by decide) (by omega) (by omega) (by omega) (by omega) (by omega)]
      have b0 := B0.out
      unfold Rv.word
      simp only [Int.toNat_natCast, HS.out, HCc.out, HTt.out, HSs.out]
      simp
      omega
    · clear hsc
      have B0 : Hid (b = 0) := VB.out (by decide)
      have HB1 : Hid (∀ w1, Calls Tryd.prog 48 #[.int .u32 (imm % 4294967296), .int .i64 0, .int .i64 11, .int .i64 20] w1 fun e w' => e = .returned (.int .u32 (Rv.part (imm % 4294967296) 0 12 20)) ∧ w1 = w') := fun w1 => rbits_any _ 0 11 20 hi0 hi1 (by omega) (by omega) (by omega) (by omega) w1
      go_wp2_with (first
        | (go_at_call 48; with_reducible refine (HB1.out _).mono ?_; rintro e w1 ⟨rfl, rfl⟩))
      go_ret
      refine ⟨ret_int ?_, HG2.out⟩
      rw [part_num _ 0 12 20 1 4096 1048576 (by decide) (by decide) (by decide),
        orL 12 4096 _ (t * 4096) (by decide) (by omega) (by omega) (by omega) (by omega) (by omega),
        orMid 7 12 128 4096 _ (c) (d * 128) (t * 4096) (by omega) (by decide) (by decide) (by omega) (by omega) (by omega) (by omega) (by omega) (by omega) (by omega) (by omega),
        orL 15 32768 _ (a * 32768) (by decide) (by omega) (by omega) (by omega) (by omega) (by omega),
        orL 20 1048576 _ (imm % 4294967296 / 1 % 4096 * 1048576) (by decide) (by omega) (by omega) (by omega) (by omega) (by omega)]
      have b0 := B0.out
      unfold Rv.word
      simp only [Int.toNat_natCast, HS.out, HCc.out, HTt.out, HSs.out]
      simp
      omega
    · clear hsc
      have B0 : Hid (b = 0) := VB.out (by decide)
      have HB1 : Hid (∀ w1, Calls Tryd.prog 48 #[.int .u32 (imm % 4294967296), .int .i64 0, .int .i64 11, .int .i64 20] w1 fun e w' => e = .returned (.int .u32 (Rv.part (imm % 4294967296) 0 12 20)) ∧ w1 = w') := fun w1 => rbits_any _ 0 11 20 hi0 hi1 (by omega) (by omega) (by omega) (by omega) w1
      go_wp2_with (first
        | (go_at_call 48; with_reducible refine (HB1.out _).mono ?_; rintro e w1 ⟨rfl, rfl⟩))
      go_ret
      refine ⟨ret_int ?_, HG2.out⟩
      rw [part_num _ 0 12 20 1 4096 1048576 (by decide) (by decide) (by decide),
        orL 12 4096 _ (t * 4096) (by decide) (by omega) (by omega) (by omega) (by omega) (by omega),
        orMid 7 12 128 4096 _ (c) (d * 128) (t * 4096) (by omega) (by decide) (by decide) (by omega) (by omega) (by omega) (by omega) (by omega) (by omega) (by omega) (by omega),
        orL 15 32768 _ (a * 32768) (by decide) (by omega) (by omega) (by omega) (by omega) (by omega),
        orL 20 1048576 _ (imm % 4294967296 / 1 % 4096 * 1048576) (by decide) (by omega) (by omega) (by omega) (by omega) (by omega)]
      have b0 := B0.out
      unfold Rv.word
      simp only [Int.toNat_natCast, HS.out, HCc.out, HTt.out, HSs.out]
      simp
      omega
    · clear hsc
      have B0 : Hid (b = 0) := VB.out (by decide)
      have HI : Hid (0 ≤ imm ∧ imm ≤ 31) := by
        have h := VI.out (by decide)
        unfold Rv.reaches at h
        simp at h
        exact h
      go_wp2
      go_ret
      refine ⟨ret_int ?_, HG2.out⟩
      obtain ⟨m0, m1⟩ := HI.out
      rw [orL 12 4096 _ (t * 4096) (by decide) (by omega) (by omega) (by omega) (by omega) (by omega),
        orMid 7 12 128 4096 _ (c) (d * 128) (t * 4096) (by omega) (by decide) (by decide) (by omega) (by omega) (by omega) (by omega) (by omega) (by omega) (by omega) (by omega),
        orL 15 32768 _ (a * 32768) (by decide) (by omega) (by omega) (by omega) (by omega) (by omega),
        orL 20 1048576 _ (imm % 4294967296 * 1048576 % 4294967296) (by decide) (by omega) (by omega) (by omega) (by omega) (by omega),
        orL 25 33554432 _ (sv * 33554432) (by decide) (by omega) (by omega) (by omega) (by omega) (by omega)]
      have b0 := B0.out
      unfold Rv.word
      simp only [Int.toNat_natCast, HS.out, HCc.out, HTt.out, HSs.out]
      simp
      omega
    · clear hsc
      have h39 : n = 39 ∨ n = 40 := by have h := HS.out; unfold Rv.shapeN at h; grind
      have HT0 : Hid (t = 0 ∧ c = 115) := by
        show _ ∧ _
        rw [← HTt.out, ← HCc.out]; rcases h39 with rfl | rfl <;> decide
      rcases h39 with rfl | rfl
      · have HB1 : Hid (∀ w1, Calls Tryd.prog 48 #[.int .u32 0, .int .i64 0, .int .i64 0, .int .i64 20] w1 fun e w' => e = .returned (.int .u32 (Rv.part 0 0 1 20)) ∧ w1 = w') := fun w1 => rbits_any 0 0 0 20 (by omega) (by omega) (by omega) (by omega) (by omega) (by omega) w1
        go_wp2_with (first
          | (go_at_call 48; with_reducible refine (HB1.out _).mono ?_; rintro e w1 ⟨rfl, rfl⟩))
        go_ret
        refine ⟨ret_int ?_, HG2.out⟩
        obtain ⟨t0, c0⟩ := HT0.out
        have hw : Rv.word ⟨((39 : Nat) : Int), d, a, b, imm⟩ = 115 := by unfold Rv.word; simp [HS.out]
        rw [t0, c0, hw]
        decide
      · have HB1 : Hid (∀ w1, Calls Tryd.prog 48 #[.int .u32 1, .int .i64 0, .int .i64 0, .int .i64 20] w1 fun e w' => e = .returned (.int .u32 (Rv.part 1 0 1 20)) ∧ w1 = w') := fun w1 => rbits_any 1 0 0 20 (by omega) (by omega) (by omega) (by omega) (by omega) (by omega) w1
        go_wp2_with (first
          | (go_at_call 48; with_reducible refine (HB1.out _).mono ?_; rintro e w1 ⟨rfl, rfl⟩))
        go_ret
        refine ⟨ret_int ?_, HG2.out⟩
        obtain ⟨t0, c0⟩ := HT0.out
        have hw : Rv.word ⟨((40 : Nat) : Int), d, a, b, imm⟩ = 1048691 := by unfold Rv.word; simp [HS.out]
        rw [t0, c0, hw]
        decide
    · clear hsc
      have T0 : Hid (t = 0) := TZ.out (Or.inl rfl)
      have HI : Hid (0 ≤ imm ∧ imm ≤ 1048575) := by
        have h := VI.out (by decide)
        unfold Rv.reaches at h
        simp at h
        exact h
      go_wp2
      go_ret
      refine ⟨ret_int ?_, HG2.out⟩
      obtain ⟨m0, m1⟩ := HI.out
      have t0 := T0.out
      rw [orL 12 4096 _ (t * 4096) (by decide) (by omega) (by omega) (by omega) (by omega) (by omega),
        orMid 7 12 128 4096 _ (c) (d * 128) (t * 4096) (by omega) (by decide) (by decide) (by omega) (by omega) (by omega) (by omega) (by omega) (by omega) (by omega) (by omega),
        orL 12 4096 _ (imm % 4294967296 * 4096 % 4294967296) (by decide) (by omega) (by omega) (by omega) (by omega) (by omega)]
      unfold Rv.word
      simp only [Int.toNat_natCast, HS.out, HCc.out, HTt.out, HSs.out]
      simp
      omega
    · clear hsc
      have D0 : Hid (d = 0) := VD.out (by decide)
      have HB1 : Hid (∀ w1, Calls Tryd.prog 48 #[.int .u32 (imm % 4294967296), .int .i64 0, .int .i64 4, .int .i64 7] w1 fun e w' => e = .returned (.int .u32 (Rv.part (imm % 4294967296) 0 5 7)) ∧ w1 = w') := fun w1 => rbits_any _ 0 4 7 hi0 hi1 (by omega) (by omega) (by omega) (by omega) w1
      have HB2 : Hid (∀ w1, Calls Tryd.prog 48 #[.int .u32 (imm % 4294967296), .int .i64 5, .int .i64 11, .int .i64 25] w1 fun e w' => e = .returned (.int .u32 (Rv.part (imm % 4294967296) 5 7 25)) ∧ w1 = w') := fun w1 => rbits_any _ 5 11 25 hi0 hi1 (by omega) (by omega) (by omega) (by omega) w1
      go_wp2_with (first
        | (go_at_call 48; with_reducible refine (HB1.out _).mono ?_; rintro e w1 ⟨rfl, rfl⟩)
        | (go_at_call 48; with_reducible refine (HB2.out _).mono ?_; rintro e w1 ⟨rfl, rfl⟩))
      go_ret
      refine ⟨ret_int ?_, HG2.out⟩
      have d0 := D0.out
      rw [part_num _ 0 5 7 1 32 128 (by decide) (by decide) (by decide),
        part_num _ 5 7 25 32 128 33554432 (by decide) (by decide) (by decide),
        orL 12 4096 _ (t * 4096) (by decide) (by omega) (by omega) (by omega) (by omega) (by omega),
        orL 15 32768 _ (a * 32768) (by decide) (by omega) (by omega) (by omega) (by omega) (by omega),
        orL 20 1048576 _ (b * 1048576) (by decide) (by omega) (by omega) (by omega) (by omega) (by omega),
        orMid 7 12 128 4096 _ (c) (imm % 4294967296 / 1 % 32 * 128) (t * 4096 + a * 32768 + b * 1048576) (by omega) (by decide) (by decide) (by omega) (by omega) (by omega) (by omega) (by omega) (by omega) (by omega) (by omega),
        orL 25 33554432 _ (imm % 4294967296 / 32 % 128 * 33554432) (by decide) (by omega) (by omega) (by omega) (by omega) (by omega)]
      unfold Rv.word
      simp only [Int.toNat_natCast, HS.out, HCc.out, HTt.out, HSs.out]
      simp
      omega
    · clear hsc
      have D0 : Hid (d = 0) := VD.out (by decide)
      have HB1 : Hid (∀ w1, Calls Tryd.prog 48 #[.int .u32 (imm % 4294967296), .int .i64 11, .int .i64 11, .int .i64 7] w1 fun e w' => e = .returned (.int .u32 (Rv.part (imm % 4294967296) 11 1 7)) ∧ w1 = w') := fun w1 => rbits_any _ 11 11 7 hi0 hi1 (by omega) (by omega) (by omega) (by omega) w1
      have HB2 : Hid (∀ w1, Calls Tryd.prog 48 #[.int .u32 (imm % 4294967296), .int .i64 1, .int .i64 4, .int .i64 8] w1 fun e w' => e = .returned (.int .u32 (Rv.part (imm % 4294967296) 1 4 8)) ∧ w1 = w') := fun w1 => rbits_any _ 1 4 8 hi0 hi1 (by omega) (by omega) (by omega) (by omega) w1
      have HB3 : Hid (∀ w1, Calls Tryd.prog 48 #[.int .u32 (imm % 4294967296), .int .i64 5, .int .i64 10, .int .i64 25] w1 fun e w' => e = .returned (.int .u32 (Rv.part (imm % 4294967296) 5 6 25)) ∧ w1 = w') := fun w1 => rbits_any _ 5 10 25 hi0 hi1 (by omega) (by omega) (by omega) (by omega) w1
      have HB4 : Hid (∀ w1, Calls Tryd.prog 48 #[.int .u32 (imm % 4294967296), .int .i64 12, .int .i64 12, .int .i64 31] w1 fun e w' => e = .returned (.int .u32 (Rv.part (imm % 4294967296) 12 1 31)) ∧ w1 = w') := fun w1 => rbits_any _ 12 12 31 hi0 hi1 (by omega) (by omega) (by omega) (by omega) w1
      go_wp2_with (first
        | (go_at_call 48; with_reducible refine (HB1.out _).mono ?_; rintro e w1 ⟨rfl, rfl⟩)
        | (go_at_call 48; with_reducible refine (HB2.out _).mono ?_; rintro e w1 ⟨rfl, rfl⟩)
        | (go_at_call 48; with_reducible refine (HB3.out _).mono ?_; rintro e w1 ⟨rfl, rfl⟩)
        | (go_at_call 48; with_reducible refine (HB4.out _).mono ?_; rintro e w1 ⟨rfl, rfl⟩))
      go_ret
      refine ⟨ret_int ?_, HG2.out⟩
      have d0 := D0.out
      rw [part_num _ 11 1 7 2048 2 128 (by decide) (by decide) (by decide),
        part_num _ 1 4 8 2 16 256 (by decide) (by decide) (by decide),
        part_num _ 5 6 25 32 64 33554432 (by decide) (by decide) (by decide),
        part_num _ 12 1 31 4096 2 2147483648 (by decide) (by decide) (by decide),
        orL 12 4096 _ (t * 4096) (by decide) (by omega) (by omega) (by omega) (by omega) (by omega),
        orL 15 32768 _ (a * 32768) (by decide) (by omega) (by omega) (by omega) (by omega) (by omega),
        orL 20 1048576 _ (b * 1048576) (by decide) (by omega) (by omega) (by omega) (by omega) (by omega),
        orMid 7 8 128 256 _ (c) (imm % 4294967296 / 2048 % 2 * 128) (t * 4096 + a * 32768 + b * 1048576) (by omega) (by decide) (by decide) (by omega) (by omega) (by omega) (by omega) (by omega) (by omega) (by omega) (by omega),
        orMid 8 12 256 4096 _ (c + imm % 4294967296 / 2048 % 2 * 128) (imm % 4294967296 / 2 % 16 * 256) (t * 4096 + a * 32768 + b * 1048576) (by omega) (by decide) (by decide) (by omega) (by omega) (by omega) (by omega) (by omega) (by omega) (by omega) (by omega),
        orL 25 33554432 _ (imm % 4294967296 / 32 % 64 * 33554432) (by decide) (by omega) (by omega) (by omega) (by omega) (by omega),
        orL 31 2147483648 _ (imm % 4294967296 / 4096 % 2 * 2147483648) (by decide) (by omega) (by omega) (by omega) (by omega) (by omega)]
      unfold Rv.word
      simp only [Int.toNat_natCast, HS.out, HCc.out, HTt.out, HSs.out]
      simp
      omega
    · clear hsc
      have T0 : Hid (t = 0) := TZ.out (Or.inr rfl)
      have HB1 : Hid (∀ w1, Calls Tryd.prog 48 #[.int .u32 (imm % 4294967296), .int .i64 12, .int .i64 19, .int .i64 12] w1 fun e w' => e = .returned (.int .u32 (Rv.part (imm % 4294967296) 12 8 12)) ∧ w1 = w') := fun w1 => rbits_any _ 12 19 12 hi0 hi1 (by omega) (by omega) (by omega) (by omega) w1
      have HB2 : Hid (∀ w1, Calls Tryd.prog 48 #[.int .u32 (imm % 4294967296), .int .i64 11, .int .i64 11, .int .i64 20] w1 fun e w' => e = .returned (.int .u32 (Rv.part (imm % 4294967296) 11 1 20)) ∧ w1 = w') := fun w1 => rbits_any _ 11 11 20 hi0 hi1 (by omega) (by omega) (by omega) (by omega) w1
      have HB3 : Hid (∀ w1, Calls Tryd.prog 48 #[.int .u32 (imm % 4294967296), .int .i64 1, .int .i64 10, .int .i64 21] w1 fun e w' => e = .returned (.int .u32 (Rv.part (imm % 4294967296) 1 10 21)) ∧ w1 = w') := fun w1 => rbits_any _ 1 10 21 hi0 hi1 (by omega) (by omega) (by omega) (by omega) w1
      have HB4 : Hid (∀ w1, Calls Tryd.prog 48 #[.int .u32 (imm % 4294967296), .int .i64 20, .int .i64 20, .int .i64 31] w1 fun e w' => e = .returned (.int .u32 (Rv.part (imm % 4294967296) 20 1 31)) ∧ w1 = w') := fun w1 => rbits_any _ 20 20 31 hi0 hi1 (by omega) (by omega) (by omega) (by omega) w1
      go_wp2_with (first
        | (go_at_call 48; with_reducible refine (HB1.out _).mono ?_; rintro e w1 ⟨rfl, rfl⟩)
        | (go_at_call 48; with_reducible refine (HB2.out _).mono ?_; rintro e w1 ⟨rfl, rfl⟩)
        | (go_at_call 48; with_reducible refine (HB3.out _).mono ?_; rintro e w1 ⟨rfl, rfl⟩)
        | (go_at_call 48; with_reducible refine (HB4.out _).mono ?_; rintro e w1 ⟨rfl, rfl⟩))
      go_ret
      refine ⟨ret_int ?_, HG2.out⟩
      have t0 := T0.out
      rw [part_num _ 12 8 12 4096 256 4096 (by decide) (by decide) (by decide),
        part_num _ 11 1 20 2048 2 1048576 (by decide) (by decide) (by decide),
        part_num _ 1 10 21 2 1024 2097152 (by decide) (by decide) (by decide),
        part_num _ 20 1 31 1048576 2 2147483648 (by decide) (by decide) (by decide),
        orL 12 4096 _ (t * 4096) (by decide) (by omega) (by omega) (by omega) (by omega) (by omega),
        orMid 7 12 128 4096 _ (c) (d * 128) (t * 4096) (by omega) (by decide) (by decide) (by omega) (by omega) (by omega) (by omega) (by omega) (by omega) (by omega) (by omega),
        orL 12 4096 _ (imm % 4294967296 / 4096 % 256 * 4096) (by decide) (by omega) (by omega) (by omega) (by omega) (by omega),
        orL 20 1048576 _ (imm % 4294967296 / 2048 % 2 * 1048576) (by decide) (by omega) (by omega) (by omega) (by omega) (by omega),
        orL 21 2097152 _ (imm % 4294967296 / 2 % 1024 * 2097152) (by decide) (by omega) (by omega) (by omega) (by omega) (by omega),
        orL 31 2147483648 _ (imm % 4294967296 / 1048576 % 2 * 2147483648) (by decide) (by omega) (by omega) (by omega) (by omega) (by omega)]
      unfold Rv.word
      simp only [Int.toNat_natCast, HS.out, HCc.out, HTt.out, HSs.out]
      simp
      omega
end Go.Proofs.YthiaaagoccpkcaaDoor

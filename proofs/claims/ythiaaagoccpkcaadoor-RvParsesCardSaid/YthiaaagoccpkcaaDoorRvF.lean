/- rv.Validate, walked. -/
import Derived.Test.YthiaaagoccpkcaaDoorRvE
namespace Go.Proofs.YthiaaagoccpkcaaDoor
open Go.RowKit

def rvVal (x : RvI) : Value := .agg #[.int .i64 x.op, .int .i64 x.d, .int .i64 x.a, .int .i64 x.b, .int .i64 x.imm]
set_option maxRecDepth 100000 in
set_option maxHeartbeats 8000000 in
theorem pValidate_any (x : RvI) (w : World) : Calls Tryd.prog 14 #[rvVal x] w fun e w' => e = .returned (.int .i64 (Rv.validE x)) ∧ Gr w w' := by
  have HFO : Hid (∀ w1, Calls Tryd.prog 37 #[.int .i64 x.op] w1 fun e w' => e = .returned (.int .i64 (Rv.form x.op)) ∧ w1 = w') := fun w1 => formOf_any x.op w1
  have HHA : Hid (∀ w1, Calls Tryd.prog 38 #[.int .i64 (Rv.form x.op)] w1 fun e w' => e = .returned (.agg #[.bool (Rv.hasP (Rv.form x.op)).1, .bool (Rv.hasP (Rv.form x.op)).2.1, .bool (Rv.hasP (Rv.form x.op)).2.2.1, .bool (Rv.hasP (Rv.form x.op)).2.2.2]) ∧ Gr w1 w') := fun w1 => phas_any _ (form_range x.op) w1
  have HFI : Hid (∀ w1, Calls Tryd.prog 39 #[.int .i64 (Rv.form x.op), .int .i64 x.imm] w1 fun e w' => e = .returned (.bool (Rv.fits (Rv.form x.op) x.imm)) ∧ w1 = w') := fun w1 => fits_any _ _ (form_range x.op) w1
  have HV : Hid (Rv.validE x = if Rv.isReg (Rv.hasP (Rv.form x.op)).1 x.d && Rv.isReg (Rv.hasP (Rv.form x.op)).2.1 x.a && Rv.isReg (Rv.hasP (Rv.form x.op)).2.2.1 x.b && (!(Rv.form x.op == 10) && Rv.fits (Rv.form x.op) x.imm) then 0 else 1) := by show _ = _; unfold Rv.validE; rw [valid_eq]
  obtain ⟨p1, e1⟩ : ∃ p, (Rv.hasP (Rv.form x.op)).1 = p := ⟨_, rfl⟩
  obtain ⟨p2, e2⟩ : ∃ p, (Rv.hasP (Rv.form x.op)).2.1 = p := ⟨_, rfl⟩
  obtain ⟨p3, e3⟩ : ∃ p, (Rv.hasP (Rv.form x.op)).2.2.1 = p := ⟨_, rfl⟩
  obtain ⟨p4, e4⟩ : ∃ p, (Rv.hasP (Rv.form x.op)).2.2.2 = p := ⟨_, rfl⟩
  obtain ⟨ft, e5⟩ : ∃ p, Rv.fits (Rv.form x.op) x.imm = p := ⟨_, rfl⟩
  rw [e1, e2, e3, e5] at HV
  rw [e1, e2, e3, e4] at HHA
  rw [e5] at HFI
  obtain ⟨f, e6⟩ : ∃ p, Rv.form x.op = p := ⟨_, rfl⟩
  rw [e6] at HV HFO HHA HFI
  clear e1 e2 e3 e4 e5 e6
  obtain ⟨op, d, a, b, imm⟩ := x
  dsimp only at HV HFO HFI
  obtain ⟨s1, i1⟩ : ∃ s, Rv.isReg p1 d = s := ⟨_, rfl⟩
  obtain ⟨s2, i2⟩ : ∃ s, Rv.isReg p2 a = s := ⟨_, rfl⟩
  obtain ⟨s3, i3⟩ : ∃ s, Rv.isReg p3 b = s := ⟨_, rfl⟩
  rw [i1, i2, i3] at HV
  rw [isReg_of] at i1 i2 i3
  have I1 := Lib.hid i1
  have I2 := Lib.hid i2
  have I3 := Lib.hid i3
  clear i1 i2 i3
  obtain ⟨W, hW⟩ : ∃ W, w.alloc (.cells #[.int .i64 op, .int .i64 d, .int .i64 a, .int .i64 b, .int .i64 imm] 23) = W := ⟨_, rfl⟩
  have hB0 : Gr w W := by rw [← hW]; exact (Gr.refl w).alloc _
  have hrw : W.heap[w.heap.size]? = some (.cells #[.int .i64 op, .int .i64 d, .int .i64 a, .int .i64 b, .int .i64 imm] 23 (0, 0)) := by rw [← hW]; exact heap_alloc_new w _
  have hWs : W.heap.size = w.heap.size + 1 := by rw [← hW]; simp
  have KP : Hid (∀ w', Gr W w' → w'.cell? ⟨w.heap.size, 0, none⟩ = some (.int .i64 op) ∧ w'.cell? ⟨w.heap.size, 1, none⟩ = some (.int .i64 d) ∧ w'.cell? ⟨w.heap.size, 2, none⟩ = some (.int .i64 a) ∧ w'.cell? ⟨w.heap.size, 3, none⟩ = some (.int .i64 b) ∧ w'.cell? ⟨w.heap.size, 4, none⟩ = some (.int .i64 imm)) := fun w' q => by
    have h := (q.heap _ (by omega)).trans hrw
    exact ⟨cell_of_row _ _ 0 _ _ _ h, cell_of_row _ _ 1 _ _ _ h, cell_of_row _ _ 2 _ _ _ h, cell_of_row _ _ 3 _ _ _ h, cell_of_row _ _ 4 _ _ _ h⟩
  obtain ⟨k0, k1, k2, k3, k4⟩ := KP.out W (Gr.refl _)
  clear hrw
  unfold rvVal
  go_enter Tryd.func14, Tryd.ntmps14
  go_wp2_with (first
    | (go_at_call 37; refine (HFO.out _).mono ?_; rintro e w1 ⟨rfl, rfl⟩)
    | (go_at_call 38; refine (HHA.out _).mono ?_; rintro e w1 ⟨rfl, g1⟩; obtain ⟨l0, l1, l2, l3, l4⟩ := KP.out _ (g1.alloc (.cells #[.bool p1, .bool p2, .bool p3, .bool p4] 64))))
  have gW2 : Gr W ((w1.alloc (.cells #[.bool p1, .bool p2, .bool p3, .bool p4] 64)).alloc (.cells #[.int .i64 d, .int .i64 a, .int .i64 b] 3)) := (g1.alloc _).alloc _
  have hb1 : ((w1.alloc (.cells #[.bool p1, .bool p2, .bool p3, .bool p4] 64)).alloc (.cells #[.int .i64 d, .int .i64 a, .int .i64 b] 3)).heap[w1.heap.size]? = some (.cells #[.bool p1, .bool p2, .bool p3, .bool p4] 64 (0, 0)) := (((Gr.refl _).alloc _).heap _ (by simp)).trans (heap_alloc_new w1 _)
  have hb2 : ((w1.alloc (.cells #[.bool p1, .bool p2, .bool p3, .bool p4] 64)).alloc (.cells #[.int .i64 d, .int .i64 a, .int .i64 b] 3)).heap[w1.heap.size + 1]? = some (.cells #[.int .i64 d, .int .i64 a, .int .i64 b] 3 (0, 0)) := by
    have h := heap_alloc_new (w1.alloc (.cells #[.bool p1, .bool p2, .bool p3, .bool p4] 64)) (.cells #[.int .i64 d, .int .i64 a, .int .i64 b] 3)
    simpa using h
  obtain ⟨W2, hW2⟩ : ∃ W2, ((w1.alloc (.cells #[.bool p1, .bool p2, .bool p3, .bool p4] 64)).alloc (.cells #[.int .i64 d, .int .i64 a, .int .i64 b] 3)) = W2 := ⟨_, rfl⟩
  rw [hW2] at gW2 hb1 hb2 ⊢
  have HG : Hid (Gr w W2) := hB0.trans gW2
  obtain ⟨-, -, -, -, m4⟩ := KP.out _ gW2
  have u0 := cell_of_row _ _ 0 _ _ _ hb1
  have u1 := cell_of_row _ _ 1 _ _ _ hb1
  have u2 := cell_of_row _ _ 2 _ _ _ hb1
  have v0 := cell_of_row _ _ 0 _ _ _ hb2
  have v1 := cell_of_row _ _ 1 _ _ _ hb2
  have v2 := cell_of_row _ _ 2 _ _ _ hb2
  clear hb1 hb2 gW2 hW2 hW k0 k1 k2 k3 k4 l0 l1 l2 l3 l4 HHA HFO
  go_loop [5, 6, 20] (fun _ _ i => ∃ k : Nat, k ≤ 3 ∧ i = .int .i64 k ∧ Hid ((1 ≤ k → s1 = true) ∧ (2 ≤ k → s2 = true) ∧ (3 ≤ k → s3 = true))) (fun _ _ i => 3 - (intOf i).toNat)
  case atStart => exact ⟨0, by omega, rfl, ⟨by omega, by omega, by omega⟩⟩
  case round =>
    obtain ⟨k, hk, rfl, HK⟩ := hrel
    rcases (by omega : k = 0 ∨ k = 1 ∨ k = 2 ∨ k = 3) with rfl | rfl | rfl | rfl
    · by_cases q1 : d < 0
      · have HX : Hid (Rv.validE ⟨op, d, a, b, imm⟩ = 1) := by
          have hs : s1 = false := by rw [← I1.out]; simp; omega
          show _ = _
          rw [HV.out, hs]; simp
        go_wp2
        go_ret
        exact ⟨ret_int HX.out.symm, HG.out⟩
      · by_cases q2 : 31 < d
        · have HX : Hid (Rv.validE ⟨op, d, a, b, imm⟩ = 1) := by
            have hs : s1 = false := by rw [← I1.out]; simp; omega
            show _ = _
            rw [HV.out, hs]; simp
          go_wp2
          go_ret
          exact ⟨ret_int HX.out.symm, HG.out⟩
        · cases p1 with
          | true =>
            have HS : Hid (s1 = true) := by show _ = _; rw [← I1.out]; simp; omega
            go_wp2
            go_round
            case rel => exact ⟨0 + 1, by omega, rfl, by have h := HK.out; have h2 := HS.out; exact ⟨fun _ => by first | exact h2 | exact h.1 (by omega), fun q => by first | omega | exact h2 | exact h.2.1 (by omega), fun q => by first | omega | exact h2 | exact h.2.2 (by omega)⟩⟩
            case measure => simp [intOf]
          | false =>
            by_cases q3 : d = 0
            · have n3 : (d != 0) = false := by simp [q3]
              have HS : Hid (s1 = true) := by show _ = _; rw [← I1.out]; simp [q3]
              clear q3
              go_wp2
              go_round
              case rel => exact ⟨0 + 1, by omega, rfl, by have h := HK.out; have h2 := HS.out; exact ⟨fun _ => by first | exact h2 | exact h.1 (by omega), fun q => by first | omega | exact h2 | exact h.2.1 (by omega), fun q => by first | omega | exact h2 | exact h.2.2 (by omega)⟩⟩
              case measure => simp [intOf]
            · have n3 : (d != 0) = true := by simp [q3]
              have HX : Hid (Rv.validE ⟨op, d, a, b, imm⟩ = 1) := by
                have hs : s1 = false := by rw [← I1.out]; simp [q3]
                show _ = _
                rw [HV.out, hs]; simp
              clear q3
              go_wp2
              go_ret
              exact ⟨ret_int HX.out.symm, HG.out⟩
    · by_cases q1 : a < 0
      · have HX : Hid (Rv.validE ⟨op, d, a, b, imm⟩ = 1) := by
          have hs : s2 = false := by rw [← I2.out]; simp; omega
          show _ = _
          rw [HV.out, hs]; simp
        go_wp2
        go_ret
        exact ⟨ret_int HX.out.symm, HG.out⟩
      · by_cases q2 : 31 < a
        · have HX : Hid (Rv.validE ⟨op, d, a, b, imm⟩ = 1) := by
            have hs : s2 = false := by rw [← I2.out]; simp; omega
            show _ = _
            rw [HV.out, hs]; simp
          go_wp2
          go_ret
          exact ⟨ret_int HX.out.symm, HG.out⟩
        · cases p2 with
          | true =>
            have HS : Hid (s2 = true) := by show _ = _; rw [← I2.out]; simp; omega
            go_wp2
            go_round
            case rel => exact ⟨1 + 1, by omega, rfl, by have h := HK.out; have h2 := HS.out; exact ⟨fun _ => by first | exact h2 | exact h.1 (by omega), fun q => by first | omega | exact h2 | exact h.2.1 (by omega), fun q => by first | omega | exact h2 | exact h.2.2 (by omega)⟩⟩
            case measure => simp [intOf]
          | false =>
            by_cases q3 : a = 0
            · have n3 : (a != 0) = false := by simp [q3]
              have HS : Hid (s2 = true) := by show _ = _; rw [← I2.out]; simp [q3]
              clear q3
              go_wp2
              go_round
              case rel => exact ⟨1 + 1, by omega, rfl, by have h := HK.out; have h2 := HS.out; exact ⟨fun _ => by first | exact h2 | exact h.1 (by omega), fun q => by first | omega | exact h2 | exact h.2.1 (by omega), fun q => by first | omega | exact h2 | exact h.2.2 (by omega)⟩⟩
              case measure => simp [intOf]
            · have n3 : (a != 0) = true := by simp [q3]
              have HX : Hid (Rv.validE ⟨op, d, a, b, imm⟩ = 1) := by
                have hs : s2 = false := by rw [← I2.out]; simp [q3]
                show _ = _
                rw [HV.out, hs]; simp
              clear q3
              go_wp2
              go_ret
              exact ⟨ret_int HX.out.symm, HG.out⟩
    · by_cases q1 : b < 0
      · have HX : Hid (Rv.validE ⟨op, d, a, b, imm⟩ = 1) := by
          have hs : s3 = false := by rw [← I3.out]; simp; omega
          show _ = _
          rw [HV.out, hs]; simp
        go_wp2
        go_ret
        exact ⟨ret_int HX.out.symm, HG.out⟩
      · by_cases q2 : 31 < b
        · have HX : Hid (Rv.validE ⟨op, d, a, b, imm⟩ = 1) := by
            have hs : s3 = false := by rw [← I3.out]; simp; omega
            show _ = _
            rw [HV.out, hs]; simp
          go_wp2
          go_ret
          exact ⟨ret_int HX.out.symm, HG.out⟩
        · cases p3 with
          | true =>
            have HS : Hid (s3 = true) := by show _ = _; rw [← I3.out]; simp; omega
            go_wp2
            go_round
            case rel => exact ⟨2 + 1, by omega, rfl, by have h := HK.out; have h2 := HS.out; exact ⟨fun _ => by first | exact h2 | exact h.1 (by omega), fun q => by first | omega | exact h2 | exact h.2.1 (by omega), fun q => by first | omega | exact h2 | exact h.2.2 (by omega)⟩⟩
            case measure => simp [intOf]
          | false =>
            by_cases q3 : b = 0
            · have n3 : (b != 0) = false := by simp [q3]
              have HS : Hid (s3 = true) := by show _ = _; rw [← I3.out]; simp [q3]
              clear q3
              go_wp2
              go_round
              case rel => exact ⟨2 + 1, by omega, rfl, by have h := HK.out; have h2 := HS.out; exact ⟨fun _ => by first | exact h2 | exact h.1 (by omega), fun q => by first | omega | exact h2 | exact h.2.1 (by omega), fun q => by first | omega | exact h2 | exact h.2.2 (by omega)⟩⟩
              case measure => simp [intOf]
            · have n3 : (b != 0) = true := by simp [q3]
              have HX : Hid (Rv.validE ⟨op, d, a, b, imm⟩ = 1) := by
                have hs : s3 = false := by rw [← I3.out]; simp [q3]
                show _ = _
                rw [HV.out, hs]; simp
              clear q3
              go_wp2
              go_ret
              exact ⟨ret_int HX.out.symm, HG.out⟩
    · have hs1 := HK.out.1 (by omega)
      have hs2 := HK.out.2.1 (by omega)
      have hs3 := HK.out.2.2 (by omega)
      rw [hs1, hs2, hs3] at HV
      by_cases q1 : f = 10
      · have n1 : (f == 10) = true := by simp [q1]
        have HX : Hid (Rv.validE ⟨op, d, a, b, imm⟩ = 1) := by show _ = _; rw [HV.out, n1]; simp
        clear q1
        go_wp2
        go_ret
        exact ⟨ret_int HX.out.symm, HG.out⟩
      · have n1 : (f == 10) = false := by simp [q1]
        have HX : Hid (Rv.validE ⟨op, d, a, b, imm⟩ = if ft then 0 else 1) := by show _ = _; rw [HV.out, n1]; simp
        clear q1
        cases ft
        all_goals
          go_wp2_with (go_at_call 39; refine (HFI.out _).mono ?_; rintro e w1 ⟨rfl, rfl⟩)
          go_ret
          exact ⟨ret_int (by rw [HX.out]; rfl), HG.out⟩
end Go.Proofs.YthiaaagoccpkcaaDoor

/- RvTexts. -/
import Derived.Test.YthiaaagoccpkcaaDoorPaG
import Derived.Test.YthiaaagoccpkcaaDoorRvU
namespace Go.Proofs.YthiaaagoccpkcaaDoor
set_option linter.unusedSimpArgs false
set_option linter.unusedVariables false
open Go.RowKit

theorem text4_size (x : RvI) (hv : Rv.valid x = true) : (text4 x).size ≤ 90000 := by
  obtain ⟨h1, h2, h3, h4, h5, h6⟩ := valid_in x hv
  have hz : ∀ n : Int, -1048576 ≤ n → n ≤ 1048575 → (itoaB n).size ≤ 18 := fun n h0 h1 => by
    show (Lib.itoa n).toArray.size ≤ 18
    rw [List.size_toArray]
    exact Pa.itoa_short n h0 h1
  have zd := hz x.d (by omega) (by omega)
  have za := hz x.a (by omega) (by omega)
  have zb := hz x.b (by omega) (by omega)
  have zi := hz x.imm (by omega) (by omega)
  have z0 := opName_size x.op.toNat
  have l2 : (⟨#[32, 120]⟩ : ByteArray).size = 2 := rfl
  have l1 : (⟨#[32]⟩ : ByteArray).size = 1 := rfl
  have y1 : (text1 x).size ≤ 26 := by unfold text1 regB; split <;> first | (simp only [size_two, l2]; omega) | omega
  have y2 : (text2 x).size ≤ 46 := by unfold text2 regB; split <;> first | (simp only [size_two, l2]; omega) | omega
  have y3 : (text3 x).size ≤ 66 := by unfold text3 regB; split <;> first | (simp only [size_two, l2]; omega) | omega
  unfold text4 immB; split <;> first | (simp only [size_two, l1]; omega) | omega
set_option maxRecDepth 100000 in
set_option maxHeartbeats 8000000 in
theorem rvTexts_bad (x : RvI) (hv : Rv.valid x = false) (w : World) (ht : TabP w) : Calls Tryd.prog 11 #[rvVal x] w fun e w' => e = .returned (.bool true) ∧ Gr w w' := by
  have HKN : Hid (∀ w1, Gr w w1 → Calls Tryd.prog 17 #[] w1 fun e w' => e = .returned (.bool true) ∧ Gr w1 w') := fun w1 g => known_any w1 (ht.gr g).tabs
  have H1 : Hid (∀ w1, Gr w w1 → Calls Tryd.prog 31 #[rvVal x] w1 fun e w' => e = .returned (.tuple #[.string (textR x), .int .i64 (Rv.validE x)]) ∧ Gr w1 w') := fun w1 g => pText_any x w1 (ht.gr g).tabs
  have H2 : Hid (∀ w1, Gr w w1 → Calls Tryd.prog 32 #[rvVal x] w1 fun e w' => e = .returned (.tuple #[.string (textR x), .int .i64 (Rv.validE x)]) ∧ Gr w1 w') := fun w1 g => rText_any x w1 (ht.gr g).tabs
  have e1 : writesV x = .tuple #[.int .i64 0, .bool false, .int .i64 (Rv.validE x)] := by unfold writesV; rw [hv]; rfl
  have H3 : Hid (∀ w1, Calls Tryd.prog 33 #[rvVal x] w1 fun e w' => e = .returned (.tuple #[.int .i64 0, .bool false, .int .i64 (Rv.validE x)]) ∧ Gr w1 w') := fun w1 => by rw [← e1]; exact pWrites_any x w1
  have H4 : Hid (∀ w1, Calls Tryd.prog 34 #[rvVal x] w1 fun e w' => e = .returned (.tuple #[.int .i64 0, .bool false, .int .i64 (Rv.validE x)]) ∧ Gr w1 w') := fun w1 => by rw [← e1]; exact rWrites_any x w1
  have he := validE_ne hv
  generalize Rv.validE x = er at *
  generalize textR x = tx at *
  have c1 : (er != 0) = true := by simpa using he
  obtain ⟨op, d, a, b, imm⟩ := x
  unfold rvVal at H1 H2 H3 H4 ⊢
  dsimp only at H1 H2 H3 H4 ⊢
  obtain ⟨W, hW, HG, KP⟩ := box5 w op d a b imm
  obtain ⟨k0, k1, k2, k3, k4⟩ := KP.out W (Gr.refl _)
  clear hv he e1 ht
  go_enter Tryd.func11, Tryd.ntmps11
  go_wp2_with (first
    | (go_at_call 31; refine (H1.out _ HG.out).mono ?_; rintro e w1 ⟨rfl, g1⟩; have G1 := Lib.hid (HG.out.trans g1); obtain ⟨l0, l1, l2, l3, l4⟩ := KP.out _ g1; have K1 := Lib.hid g1; clear g1)
    | (go_at_call 32; refine (H2.out _ G1.out).mono ?_; rintro e w2 ⟨rfl, g2⟩; have K2 := Lib.hid (K1.out.trans g2); obtain ⟨m0, m1, m2, m3, m4⟩ := KP.out _ (K1.out.trans g2); clear g2)
    | (go_at_call 33; refine (H3.out _).mono ?_; rintro e w3 ⟨rfl, g3⟩; have K3 := Lib.hid (K2.out.trans g3); obtain ⟨n0, n1, n2, n3, n4⟩ := KP.out _ (K2.out.trans g3); clear g3)
    | (go_at_call 34; refine (H4.out _).mono ?_; rintro e w4 ⟨rfl, g4⟩; have K4 := Lib.hid (K3.out.trans g4); clear g4)
    | (go_at_call 17; refine (HKN.out _ (HG.out.trans K4.out)).mono ?_; rintro e w5 ⟨rfl, g5⟩))
  go_ret
  exact ⟨rfl, (HG.out.trans K4.out).trans g5⟩
set_option maxRecDepth 100000 in
set_option maxHeartbeats 8000000 in
theorem rvTexts_good (x : RvI) (hv : Rv.valid x = true) (w : World) (ht : TabP w) : Calls Tryd.prog 11 #[rvVal x] w fun e w' => e = .returned (.bool true) ∧ Gr w w' := by
  have HKN : Hid (∀ w1, Gr w w1 → Calls Tryd.prog 17 #[] w1 fun e w' => e = .returned (.bool true) ∧ Gr w1 w') := fun w1 g => known_any w1 (ht.gr g).tabs
  have et : textR x = text4 x := by unfold textR; rw [hv]; rfl
  have H1 : Hid (∀ w1, Gr w w1 → Calls Tryd.prog 31 #[rvVal x] w1 fun e w' => e = .returned (.tuple #[.string (text4 x), .int .i64 0]) ∧ Gr w1 w') := fun w1 g => by
    have := pText_any x w1 (ht.gr g).tabs
    unfold textV at this
    rw [et, validE_eq hv] at this
    exact this
  have H2 : Hid (∀ w1, Gr w w1 → Calls Tryd.prog 32 #[rvVal x] w1 fun e w' => e = .returned (.tuple #[.string (text4 x), .int .i64 0]) ∧ Gr w1 w') := fun w1 g => by
    have := rText_any x w1 (ht.gr g).tabs
    unfold textV at this
    rw [et, validE_eq hv] at this
    exact this
  have e1 : writesV x = .tuple #[.int .i64 x.d, .bool (decide (0 < x.d)), .int .i64 0] := by unfold writesV; rw [hv]; rfl
  have H3 : Hid (∀ w1, Calls Tryd.prog 33 #[rvVal x] w1 fun e w' => e = .returned (.tuple #[.int .i64 x.d, .bool (decide (0 < x.d)), .int .i64 0]) ∧ Gr w1 w') := fun w1 => by rw [← e1]; exact pWrites_any x w1
  have H4 : Hid (∀ w1, Calls Tryd.prog 34 #[rvVal x] w1 fun e w' => e = .returned (.tuple #[.int .i64 x.d, .bool (decide (0 < x.d)), .int .i64 0]) ∧ Gr w1 w') := fun w1 => by rw [← e1]; exact rWrites_any x w1
  have H5 : Hid (∀ w1, Gr w w1 → Calls Tryd.prog 29 #[.string (text4 x)] w1 fun e w' => e = .returned (.tuple #[rvVal x, .int .i64 0]) ∧ Gr w1 w') := fun w1 g => by
    have := pParse_any (text4 x) (text4_size x hv) w1 (ht.gr g)
    rw [Pa.parse_text x hv] at this
    exact this
  have hd0 : 0 ≤ x.d := (valid_in x hv).2.1.1
  generalize text4 x = tx at *
  obtain ⟨op, d, a, b, imm⟩ := x
  unfold rvVal at H1 H2 H3 H4 H5 ⊢
  dsimp only at H1 H2 H3 H4 H5 hd0 ⊢
  obtain ⟨W, hW, HG, KP⟩ := box5 w op d a b imm
  obtain ⟨k0, k1, k2, k3, k4⟩ := KP.out W (Gr.refl _)
  obtain ⟨q, hq⟩ : ∃ q, decide (0 < d) = q := ⟨_, rfl⟩
  rw [hq] at H3 H4
  have cq : q = false → (d == 0) = true := by
    intro e
    rw [e, decide_eq_false_iff_not] at hq
    rw [beq_iff_eq]; omega
  clear hv et e1 ht hq
  cases q
  all_goals
    try have cd := cq rfl
    clear cq
    go_enter Tryd.func11, Tryd.ntmps11
    go_wp2_with (first
      | (go_at_call 31; refine (H1.out _ HG.out).mono ?_; rintro e w1 ⟨rfl, g1⟩; have G1 := Lib.hid (HG.out.trans g1); obtain ⟨l0, l1, l2, l3, l4⟩ := KP.out _ g1; have K1 := Lib.hid g1; clear g1)
      | (go_at_call 32; refine (H2.out _ G1.out).mono ?_; rintro e w2 ⟨rfl, g2⟩; have K2 := Lib.hid (K1.out.trans g2); obtain ⟨m0, m1, m2, m3, m4⟩ := KP.out _ (K1.out.trans g2); clear g2)
      | (go_at_call 33; refine (H3.out _).mono ?_; rintro e w3 ⟨rfl, g3⟩; have K3 := Lib.hid (K2.out.trans g3); obtain ⟨n0, n1, n2, n3, n4⟩ := KP.out _ (K2.out.trans g3); clear g3)
      | (go_at_call 34; refine (H4.out _).mono ?_; rintro e w4 ⟨rfl, g4⟩; have K4 := Lib.hid (K3.out.trans g4); clear g4)
      | (go_at_call 29; refine (H5.out _ (HG.out.trans K4.out)).mono ?_; rintro e w6 ⟨rfl, g6⟩; have K6 := Lib.hid ((K4.out.trans g6).alloc (.cells #[.int .i64 op, .int .i64 d, .int .i64 a, .int .i64 b, .int .i64 imm] 23)); obtain ⟨o0, o1, o2, o3, o4⟩ := KP.out _ K6.out; clear g6)
      | (go_at_call 17; refine (HKN.out _ (HG.out.trans K6.out)).mono ?_; rintro e w5 ⟨rfl, g5⟩))
    go_ret
    exact ⟨rfl, (HG.out.trans K6.out).trans g5⟩
theorem rvTexts_any (x : RvI) (w : World) (ht : TabP w) : Calls Tryd.prog 11 #[rvVal x] w fun e w' => e = .returned (.bool true) ∧ Gr w w' := by
  cases hv : Rv.valid x with
  | false => exact rvTexts_bad x hv w ht
  | true => exact rvTexts_good x hv w ht
end Go.Proofs.YthiaaagoccpkcaaDoor

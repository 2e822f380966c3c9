/- Text of the document, at any instruction. -/
import Derived.Test.YthiaaagoccpkcaaDoorPaB
import Derived.Deep.CutRange
import Derived.Deep.DeepCutAuto
namespace Go.Proofs.YthiaaagoccpkcaaDoor
set_option linter.unusedSimpArgs false
set_option linter.unusedVariables false
open Go.RowKit

theorem has_five (n : Nat) : (Rv.hasD (Rv.shapeN n), Rv.hasA (Rv.shapeN n), Rv.hasB (Rv.shapeN n), Rv.hasI (Rv.shapeN n)) = (true, true, true, false) ∨ (Rv.hasD (Rv.shapeN n), Rv.hasA (Rv.shapeN n), Rv.hasB (Rv.shapeN n), Rv.hasI (Rv.shapeN n)) = (true, true, false, true) ∨
    (Rv.hasD (Rv.shapeN n), Rv.hasA (Rv.shapeN n), Rv.hasB (Rv.shapeN n), Rv.hasI (Rv.shapeN n)) = (true, false, false, true) ∨ (Rv.hasD (Rv.shapeN n), Rv.hasA (Rv.shapeN n), Rv.hasB (Rv.shapeN n), Rv.hasI (Rv.shapeN n)) = (false, true, true, true) ∨
    (Rv.hasD (Rv.shapeN n), Rv.hasA (Rv.shapeN n), Rv.hasB (Rv.shapeN n), Rv.hasI (Rv.shapeN n)) = (false, false, false, false) := by
  rcases Rv.shape_cases n with e | e | e | e | e | e | e | e | e | e <;> rw [e] <;> decide
set_option maxRecDepth 100000 in
set_option maxHeartbeats 4000000 in
theorem rText_err (x : RvI) (hv : Rv.valid x = false) (w : World) : Calls Tryd.prog 32 #[rvVal x] w fun e w' => e = .returned (.tuple #[.string ⟨#[]⟩, .int .i64 (Rv.validE x)]) ∧ Gr w w' := by
  have he := validE_ne hv
  have HVA : Hid (∀ w1, Calls Tryd.prog 15 #[rvVal x] w1 fun e w' => e = .returned (.int .i64 (Rv.validE x)) ∧ Gr w1 w') := fun w1 => rValidate_any x w1
  generalize Rv.validE x = er at *
  have c1 : (er != 0) = true := by simpa using he
  obtain ⟨op, d, a, b, imm⟩ := x
  unfold rvVal at HVA ⊢
  dsimp only at HVA ⊢
  clear hv he
  go_enter Tryd.func32, Tryd.ntmps32
  go_wp2_with (go_at_call 15; refine (HVA.out _).mono ?_; rintro e w1 ⟨rfl, g1⟩)
  go_ret2
  exact ⟨rfl, ((Gr.refl w).alloc _).trans g1⟩
theorem bapp (a b c : ByteArray) : a ++ (b ++ c) = a ++ b ++ c := (ByteArray.append_assoc).symm
set_option maxRecDepth 100000 in
set_option maxHeartbeats 8000000 in
theorem rText_valid (n : Nat) (d a b imm : Int) (hv : Rv.valid ⟨n, d, a, b, imm⟩ = true) (w : World) (ht : Tabs w) : Calls Tryd.prog 32 #[rvVal ⟨n, d, a, b, imm⟩] w fun e w' => e = .returned (.tuple #[.string (text4 ⟨n, d, a, b, imm⟩), .int .i64 0]) ∧ Gr w w' := by
  obtain ⟨n', e, hn, hd, ha, hb, -, -, -, -, hm⟩ := valid_parts ⟨n, d, a, b, imm⟩ hv
  dsimp only at e hd ha hb hm
  have en : n' = n := by omega
  subst en
  clear e
  have HVA : Hid (∀ w1, Calls Tryd.prog 15 #[rvVal ⟨n', d, a, b, imm⟩] w1 fun e w' => e = .returned (.int .i64 0) ∧ Gr w1 w') := fun w1 => by
    have h := rValidate_any ⟨n', d, a, b, imm⟩ w1
    rw [validE_eq hv] at h; exact h
  have HNM : Hid (∀ w1, Tabs w1 → Calls Tryd.prog 61 #[] w1 fun e w' => ∃ B, e = .returned (.slice (some ⟨B, 0, none⟩) 41 41) ∧ Hid (w'.cell? ⟨B, n', none⟩ = some (.string (opName n'))) ∧ Gr w1 w') := fun w1 h =>
    (names_any w1 h).mono fun _ _ ⟨h1, h2⟩ => ⟨_, h1, by rw [h2]; exact Lib.hid ((cell_of_row _ _ n' _ _ _ (heap_alloc_new w1 _)).trans (namesRow_at n' hn)), by rw [h2]; exact (Gr.refl w1).alloc _⟩
  have HFM : Hid (∀ w1, Calls Tryd.prog 41 #[] w1 fun e w' => ∃ B, e = .returned (.slice (some ⟨B, 0, none⟩) 41 41) ∧ Hid (w'.cell? ⟨B, n' * 4, none⟩ = some (.int .i64 (Rv.shapeN n'))) ∧ Gr w1 w') := fun w1 =>
    (forms_any w1).mono fun _ _ ⟨h1, h2, h3⟩ => ⟨_, h1, (cell_of_row _ _ _ _ _ _ h2.out).trans (form_cells n' hn).1, h3⟩
  have HHA : Hid (∀ w1, Calls Tryd.prog 42 #[.int .i64 (Rv.shapeN n')] w1 fun e w' => e = .returned (.tuple #[.bool (Rv.hasD (Rv.shapeN n')), .bool (Rv.hasA (Rv.shapeN n')), .bool (Rv.hasB (Rv.shapeN n')), .bool (Rv.hasI (Rv.shapeN n'))]) ∧ w1 = w') := fun w1 => rhas_any n' w1
  have HI1 : Hid (∀ w1, Tabs w1 → Calls Tryd.prog 64 #[.int .i64 d] w1 fun e w' => e = .returned (.string (itoaB d)) ∧ Gr w1 w') := fun w1 h => itoa_any d (by omega) (by omega) w1 h
  have z1 := itoaB_size d (by omega) (by omega)
  have HI2 : Hid (∀ w1, Tabs w1 → Calls Tryd.prog 64 #[.int .i64 a] w1 fun e w' => e = .returned (.string (itoaB a)) ∧ Gr w1 w') := fun w1 h => itoa_any a (by omega) (by omega) w1 h
  have z2 := itoaB_size a (by omega) (by omega)
  have HI3 : Hid (∀ w1, Tabs w1 → Calls Tryd.prog 64 #[.int .i64 b] w1 fun e w' => e = .returned (.string (itoaB b)) ∧ Gr w1 w') := fun w1 h => itoa_any b (by omega) (by omega) w1 h
  have z3 := itoaB_size b (by omega) (by omega)
  have HI4 : Hid (∀ w1, Tabs w1 → Calls Tryd.prog 64 #[.int .i64 imm] w1 fun e w' => e = .returned (.string (itoaB imm)) ∧ Gr w1 w') := fun w1 h => itoa_any imm (by omega) (by omega) w1 h
  have z4 := itoaB_size imm (by omega) (by omega)
  have z0 := opName_size n'
  have T1 : Hid (text1 ⟨n', d, a, b, imm⟩ = if Rv.hasD (Rv.shapeN n') then opName n' ++ ⟨#[32, 120]⟩ ++ itoaB d else opName n') := by show _ = _; rw [← bapp]; rfl
  have T2 : Hid (text2 ⟨n', d, a, b, imm⟩ = if Rv.hasA (Rv.shapeN n') then text1 ⟨n', d, a, b, imm⟩ ++ ⟨#[32, 120]⟩ ++ itoaB a else text1 ⟨n', d, a, b, imm⟩) := by show _ = _; rw [← bapp]; rfl
  have T3 : Hid (text3 ⟨n', d, a, b, imm⟩ = if Rv.hasB (Rv.shapeN n') then text2 ⟨n', d, a, b, imm⟩ ++ ⟨#[32, 120]⟩ ++ itoaB b else text2 ⟨n', d, a, b, imm⟩) := by show _ = _; rw [← bapp]; rfl
  have T4 : Hid (text4 ⟨n', d, a, b, imm⟩ = if Rv.hasI (Rv.shapeN n') then text3 ⟨n', d, a, b, imm⟩ ++ ⟨#[32]⟩ ++ itoaB imm else text3 ⟨n', d, a, b, imm⟩) := by show _ = _; rw [← bapp]; rfl
  obtain ⟨t1, e1⟩ : ∃ t, text1 ⟨n', d, a, b, imm⟩ = t := ⟨_, rfl⟩
  obtain ⟨t2, e2⟩ : ∃ t, text2 ⟨n', d, a, b, imm⟩ = t := ⟨_, rfl⟩
  obtain ⟨t3, e3⟩ : ∃ t, text3 ⟨n', d, a, b, imm⟩ = t := ⟨_, rfl⟩
  obtain ⟨t4, e4⟩ : ∃ t, text4 ⟨n', d, a, b, imm⟩ = t := ⟨_, rfl⟩
  rw [e1] at T1 T2
  rw [e2] at T2 T3
  rw [e3] at T3 T4
  rw [e4] at T4 ⊢
  clear e1 e2 e3 e4
  obtain ⟨t0, e0⟩ : ∃ t, opName n' = t := ⟨_, rfl⟩
  rw [e0] at T1 HNM z0
  obtain ⟨j1, hj1⟩ : ∃ t, itoaB d = t := ⟨_, rfl⟩
  rw [hj1] at T1 HI1 z1
  clear hj1
  obtain ⟨j2, hj2⟩ : ∃ t, itoaB a = t := ⟨_, rfl⟩
  rw [hj2] at T2 HI2 z2
  clear hj2
  obtain ⟨j3, hj3⟩ : ∃ t, itoaB b = t := ⟨_, rfl⟩
  rw [hj3] at T3 HI3 z3
  clear hj3
  obtain ⟨j4, hj4⟩ : ∃ t, itoaB imm = t := ⟨_, rfl⟩
  rw [hj4] at T4 HI4 z4
  clear hj4
  have h5 := has_five n'
  obtain ⟨s, hs⟩ : ∃ s, Rv.shapeN n' = s := ⟨_, rfl⟩
  rw [hs] at HHA HFM T1 T2 T3 T4 h5
  obtain ⟨p1, q1⟩ : ∃ p, Rv.hasD s = p := ⟨_, rfl⟩
  obtain ⟨p2, q2⟩ : ∃ p, Rv.hasA s = p := ⟨_, rfl⟩
  obtain ⟨p3, q3⟩ : ∃ p, Rv.hasB s = p := ⟨_, rfl⟩
  obtain ⟨p4, q4⟩ : ∃ p, Rv.hasI s = p := ⟨_, rfl⟩
  rw [q1, q2, q3, q4] at HHA h5
  rw [q1] at T1
  rw [q2] at T2
  rw [q3] at T3
  rw [q4] at T4
  clear q1 q2 q3 q4 e0 hs
  have H5 := Lib.hid h5
  -- the sizes
  have hz : ∀ (x y : ByteArray), (x ++ y).size = x.size + y.size := size_two
  have l2 : (⟨#[32, 120]⟩ : ByteArray).size = 2 := rfl
  have l1 : (⟨#[32]⟩ : ByteArray).size = 1 := rfl
  have y1 : t1.size ≤ 6 + 2147483652 := by rw [T1.out]; split <;> (try rw [hz, hz, l2]) <;> omega
  have y2 : t2.size ≤ 6 + 2 * 2147483652 := by rw [T2.out]; split <;> (try rw [hz, hz, l2]) <;> omega
  have y3 : t3.size ≤ 6 + 3 * 2147483652 := by rw [T3.out]; split <;> (try rw [hz, hz, l2]) <;> omega
  have A1 := fun w : World => run_string_add_sum (P := Tryd.prog) w t0 ⟨#[32, 120]⟩ (by rw [l2]; omega)
  have B1 := fun w : World => run_string_add_sum (P := Tryd.prog) w (t0 ++ ⟨#[32, 120]⟩) j1 (by rw [hz, l2]; omega)
  have A2 := fun w : World => run_string_add_sum (P := Tryd.prog) w t1 ⟨#[32, 120]⟩ (by rw [l2]; omega)
  have B2 := fun w : World => run_string_add_sum (P := Tryd.prog) w (t1 ++ ⟨#[32, 120]⟩) j2 (by rw [hz, l2]; omega)
  have A3 := fun w : World => run_string_add_sum (P := Tryd.prog) w t2 ⟨#[32, 120]⟩ (by rw [l2]; omega)
  have B3 := fun w : World => run_string_add_sum (P := Tryd.prog) w (t2 ++ ⟨#[32, 120]⟩) j3 (by rw [hz, l2]; omega)
  have A4 := fun w : World => run_string_add_sum (P := Tryd.prog) w t3 ⟨#[32]⟩ (by rw [l1]; omega)
  have B4 := fun w : World => run_string_add_sum (P := Tryd.prog) w (t3 ++ ⟨#[32]⟩) j4 (by rw [hz, l1]; omega)
  clear hz l1 l2 y1 y2 y3 z0 z1 z2 z3 z4 h5
  have HT := Lib.hid ht
  unfold rvVal at HVA ⊢
  dsimp only at HVA ⊢
  obtain ⟨W, hW, HG, KP⟩ := box5 w (n' : Int) d a b imm
  obtain ⟨k0, k1, k2, k3, k4⟩ := KP.out W (Gr.refl _)
  have n1 : (n' : Int) < 41 := by omega
  have n0 : (0 : Int) ≤ (n' : Int) := by omega
  clear ht hv hd ha hb hm
  go_enter Tryd.func32, Tryd.ntmps32
  go_wp2_with (go_at_call 15; refine (HVA.out _).mono ?_; rintro e w1 ⟨rfl, g1⟩; obtain ⟨l0, l1, l2, l3, l4⟩ := KP.out _ g1; have HG1 := Lib.hid g1; clear g1)
  go_cut [5] from 10 to 19 (fun s5 wx => s5 = .string t0 ∧ Hid (Gr W wx))
  case first =>
    go_region_with (go_at_call 61; (refine (HNM.out _ ((HT.out.gr HG.out).gr HG1.out.drew)).mono ?_); rintro e3 w3 ⟨B, rfl, HC, g30⟩; have HG3 : Hid (Gr W w3) := HG1.out.trans ((Gr.refl w1).drew.trans g30); have hc3 := HC.out; obtain ⟨c0, -⟩ := KP.out _ HG3.out)
    all_goals (go_wp2_with (fail); go_meet)
    all_goals with_reducible exact ⟨rfl, HG3⟩
  case rest =>
    obtain ⟨rfl, HG4⟩ := hcut
    obtain ⟨m0, m1, m2, m3, m4⟩ := KP.out _ HG4.out
    clear l0 l1 l2 l3 l4 k0 k1 k2 k3 k4
    go_wp2_with (fail)
    go_region_with (first
      | (go_at_call 41; (refine (HFM.out _).mono ?_); rintro e3 w3 ⟨B, rfl, HC, g30⟩; have HG5 : Hid (Gr W w3) := HG4.out.trans ((Gr.refl wc).drew.trans g30); have hc3 := HC.out; obtain ⟨c0, -⟩ := KP.out _ HG5.out)
      | (go_at_call 42; (refine (HHA.out _).mono ?_); rintro e4 w4 ⟨rfl, rfl⟩))
    all_goals
      clear m0 m1 m2 m3 m4 c0 hc3
      obtain ⟨l0, l1, l2, l3, l4⟩ := KP.out _ HG5.out
      have h5 := H5.out
      rcases h5 with h5 | h5 | h5 | h5 | h5
      all_goals
        injection h5 with x1 h5
        injection h5 with x2 h5
        injection h5 with x3 x4
        subst x1; subst x2; subst x3; subst x4
      · have e1 : t1 = t0 ++ ⟨#[32, 120]⟩ ++ j1 := T1.out
        have e2 : t2 = t1 ++ ⟨#[32, 120]⟩ ++ j2 := T2.out
        have e3 : t3 = t2 ++ ⟨#[32, 120]⟩ ++ j3 := T3.out
        have e4 : t4 = t3 := T4.out
        clear T1 T2 T3 T4 H5
        subst e1; subst e2; subst e3; subst e4
        have tok1 : True := trivial
        have tok2 : True := trivial
        have tok3 : True := trivial
        go_wp2_with (first
          | (go_at_call 64; have _t := tok1; refine (HI1.out _ (HT.out.gr (HG.out.trans HG5.out))).mono ?_; rintro e v1 ⟨rfl, h1⟩; have HH1 : Hid (Gr W v1) := HG5.out.trans h1; clear _t tok1 h1; obtain ⟨l10, l11, l12, l13, l14⟩ := KP.out _ HH1.out)
          | (go_at_call 64; have _t := tok2; refine (HI2.out _ (HT.out.gr (HG.out.trans HH1.out))).mono ?_; rintro e v2 ⟨rfl, h2⟩; have HH2 : Hid (Gr W v2) := HH1.out.trans h2; clear _t tok2 h2; obtain ⟨l20, l21, l22, l23, l24⟩ := KP.out _ HH2.out)
          | (go_at_call 64; have _t := tok3; refine (HI3.out _ (HT.out.gr (HG.out.trans HH2.out))).mono ?_; rintro e v3 ⟨rfl, h3⟩; have HH3 : Hid (Gr W v3) := HH2.out.trans h3; clear _t tok3 h3; obtain ⟨l30, l31, l32, l33, l34⟩ := KP.out _ HH3.out))
        go_ret2
        exact ⟨rfl, HG.out.trans HH3.out⟩
      · have e1 : t1 = t0 ++ ⟨#[32, 120]⟩ ++ j1 := T1.out
        have e2 : t2 = t1 ++ ⟨#[32, 120]⟩ ++ j2 := T2.out
        have e3 : t3 = t2 := T3.out
        have e4 : t4 = t3 ++ ⟨#[32]⟩ ++ j4 := T4.out
        clear T1 T2 T3 T4 H5
        subst e1; subst e2; subst e3; subst e4
        have tok1 : True := trivial
        have tok2 : True := trivial
        have tok4 : True := trivial
        go_wp2_with (first
          | (go_at_call 64; have _t := tok1; refine (HI1.out _ (HT.out.gr (HG.out.trans HG5.out))).mono ?_; rintro e v1 ⟨rfl, h1⟩; have HH1 : Hid (Gr W v1) := HG5.out.trans h1; clear _t tok1 h1; obtain ⟨l10, l11, l12, l13, l14⟩ := KP.out _ HH1.out)
          | (go_at_call 64; have _t := tok2; refine (HI2.out _ (HT.out.gr (HG.out.trans HH1.out))).mono ?_; rintro e v2 ⟨rfl, h2⟩; have HH2 : Hid (Gr W v2) := HH1.out.trans h2; clear _t tok2 h2; obtain ⟨l20, l21, l22, l23, l24⟩ := KP.out _ HH2.out)
          | (go_at_call 64; have _t := tok4; refine (HI4.out _ (HT.out.gr (HG.out.trans HH2.out))).mono ?_; rintro e v4 ⟨rfl, h4⟩; have HH4 : Hid (Gr W v4) := HH2.out.trans h4; clear _t tok4 h4; obtain ⟨l40, l41, l42, l43, l44⟩ := KP.out _ HH4.out))
        go_ret2
        exact ⟨rfl, HG.out.trans HH4.out⟩
      · have e1 : t1 = t0 ++ ⟨#[32, 120]⟩ ++ j1 := T1.out
        have e2 : t2 = t1 := T2.out
        have e3 : t3 = t2 := T3.out
        have e4 : t4 = t3 ++ ⟨#[32]⟩ ++ j4 := T4.out
        clear T1 T2 T3 T4 H5
        subst e1; subst e2; subst e3; subst e4
        have tok1 : True := trivial
        have tok4 : True := trivial
        go_wp2_with (first
          | (go_at_call 64; have _t := tok1; refine (HI1.out _ (HT.out.gr (HG.out.trans HG5.out))).mono ?_; rintro e v1 ⟨rfl, h1⟩; have HH1 : Hid (Gr W v1) := HG5.out.trans h1; clear _t tok1 h1; obtain ⟨l10, l11, l12, l13, l14⟩ := KP.out _ HH1.out)
          | (go_at_call 64; have _t := tok4; refine (HI4.out _ (HT.out.gr (HG.out.trans HH1.out))).mono ?_; rintro e v4 ⟨rfl, h4⟩; have HH4 : Hid (Gr W v4) := HH1.out.trans h4; clear _t tok4 h4; obtain ⟨l40, l41, l42, l43, l44⟩ := KP.out _ HH4.out))
        go_ret2
        exact ⟨rfl, HG.out.trans HH4.out⟩
      · have e1 : t1 = t0 := T1.out
        have e2 : t2 = t1 ++ ⟨#[32, 120]⟩ ++ j2 := T2.out
        have e3 : t3 = t2 ++ ⟨#[32, 120]⟩ ++ j3 := T3.out
        have e4 : t4 = t3 ++ ⟨#[32]⟩ ++ j4 := T4.out
        clear T1 T2 T3 T4 H5
        subst e1; subst e2; subst e3; subst e4
        have tok2 : True := trivial
        have tok3 : True := trivial
        have tok4 : True := trivial
        go_wp2_with (first
          | (go_at_call 64; have _t := tok2; refine (HI2.out _ (HT.out.gr (HG.out.trans HG5.out))).mono ?_; rintro e v2 ⟨rfl, h2⟩; have HH2 : Hid (Gr W v2) := HG5.out.trans h2; clear _t tok2 h2; obtain ⟨l20, l21, l22, l23, l24⟩ := KP.out _ HH2.out)
          | (go_at_call 64; have _t := tok3; refine (HI3.out _ (HT.out.gr (HG.out.trans HH2.out))).mono ?_; rintro e v3 ⟨rfl, h3⟩; have HH3 : Hid (Gr W v3) := HH2.out.trans h3; clear _t tok3 h3; obtain ⟨l30, l31, l32, l33, l34⟩ := KP.out _ HH3.out)
          | (go_at_call 64; have _t := tok4; refine (HI4.out _ (HT.out.gr (HG.out.trans HH3.out))).mono ?_; rintro e v4 ⟨rfl, h4⟩; have HH4 : Hid (Gr W v4) := HH3.out.trans h4; clear _t tok4 h4; obtain ⟨l40, l41, l42, l43, l44⟩ := KP.out _ HH4.out))
        go_ret2
        exact ⟨rfl, HG.out.trans HH4.out⟩
      · have e1 : t1 = t0 := T1.out
        have e2 : t2 = t1 := T2.out
        have e3 : t3 = t2 := T3.out
        have e4 : t4 = t3 := T4.out
        clear T1 T2 T3 T4 H5
        subst e1; subst e2; subst e3; subst e4
        go_wp2
        go_ret2
        exact ⟨rfl, HG.out.trans HG5.out⟩
theorem rText_any (x : RvI) (w : World) (ht : Tabs w) : Calls Tryd.prog 32 #[rvVal x] w fun e w' => e = .returned (textV x) ∧ Gr w w' := by
  unfold textV textR
  cases hv : Rv.valid x with
  | false => rw [if_neg (by decide)]; exact rText_err x hv w
  | true =>
    rw [if_pos rfl, validE_eq hv]
    obtain ⟨n, e, -⟩ := valid_parts x hv
    obtain ⟨op, d, a, b, imm⟩ := x
    dsimp only at e
    subst e
    exact rText_valid n d a b imm hv w ht
end Go.Proofs.YthiaaagoccpkcaaDoor

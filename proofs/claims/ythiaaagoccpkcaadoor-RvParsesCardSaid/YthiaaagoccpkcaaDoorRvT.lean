/- Text of the program. -/
import Derived.Test.YthiaaagoccpkcaaDoorRvS
namespace Go.Proofs.YthiaaagoccpkcaaDoor
set_option linter.unusedSimpArgs false
set_option linter.unusedVariables false
open Go.RowKit

def itoaB (n : Int) : ByteArray := ⟨(Lib.itoa n).toArray⟩
def regB (r : Int) : ByteArray := ⟨#[32, 120]⟩ ++ itoaB r
def immB (n : Int) : ByteArray := ⟨#[32]⟩ ++ itoaB n
def text1 (x : RvI) : ByteArray := if Rv.hasD (Rv.shapeN x.op.toNat) then opName x.op.toNat ++ regB x.d else opName x.op.toNat
def text2 (x : RvI) : ByteArray := if Rv.hasA (Rv.shapeN x.op.toNat) then text1 x ++ regB x.a else text1 x
def text3 (x : RvI) : ByteArray := if Rv.hasB (Rv.shapeN x.op.toNat) then text2 x ++ regB x.b else text2 x
def text4 (x : RvI) : ByteArray := if Rv.hasI (Rv.shapeN x.op.toNat) then text3 x ++ immB x.imm else text3 x
/-- The text of an instruction. -/
def textR (x : RvI) : ByteArray := if Rv.valid x then text4 x else ⟨#[]⟩

theorem decDigits_le (u : Nat) : (Lib.decDigits u).length ≤ u + 1 := by
  induction u using Nat.strongRecOn with
  | ind u ih =>
    unfold Lib.decDigits
    split
    · simp
    · have := ih (u / 10) (by omega)
      simp
      omega
theorem itoaB_size (n : Int) (h0 : -2147483648 ≤ n) (h1 : n ≤ 2147483648) : (itoaB n).size ≤ 2147483650 := by
  show (Lib.itoa n).toArray.size ≤ _
  rw [List.size_toArray]
  unfold Lib.itoa
  split
  · have := decDigits_le n.natAbs
    simp; omega
  · have := decDigits_le n.toNat
    omega
theorem size_two (a b : ByteArray) : (a ++ b).size = a.size + b.size := ByteArray.size_append
theorem itoa_any (n : Int) (h0 : -2147483648 ≤ n) (h1 : n ≤ 2147483648) (w : World) (ht : Tabs w) : Calls Tryd.prog 64 #[.int .i64 n] w fun e w' => e = .returned (.string (itoaB n)) ∧ Gr w w' :=
  (Tryd.strconv_Itoa n (by omega) (by omega) w ht.2).mono fun _ _ ⟨q1, k, os, q2⟩ => ⟨q1, q2 ▸ gr_grow w k os⟩

set_option maxRecDepth 100000 in
set_option maxHeartbeats 8000000 in
theorem pText_valid (n : Nat) (d a b imm : Int) (hv : Rv.valid ⟨n, d, a, b, imm⟩ = true) (w : World) (ht : Tabs w) : Calls Tryd.prog 31 #[rvVal ⟨n, d, a, b, imm⟩] w fun e w' => e = .returned (.tuple #[.string (text4 ⟨n, d, a, b, imm⟩), .int .i64 0]) ∧ Gr w w' := by
  obtain ⟨n', e, hn, hd, ha, hb, -, -, -, -, hm⟩ := valid_parts ⟨n, d, a, b, imm⟩ hv
  dsimp only at e hd ha hb hm
  have en : n' = n := by omega
  subst en
  clear e
  have HVA : Hid (∀ w1, Calls Tryd.prog 14 #[rvVal ⟨n', d, a, b, imm⟩] w1 fun e w' => e = .returned (.int .i64 0) ∧ Gr w1 w') := fun w1 => by
    have h := pValidate_any ⟨n', d, a, b, imm⟩ w1
    have e : Rv.validE ⟨n', d, a, b, imm⟩ = 0 := by unfold Rv.validE; rw [hv]; rfl
    rw [e] at h; exact h
  have HNA : Hid (∀ w1, Tabs w1 → Calls Tryd.prog 63 #[.int .i64 (n' : Int)] w1 fun e w' => e = .returned (.string (opName n')) ∧ Gr w1 w') := fun w1 h => name_any n' hn w1 h
  have HFO : Hid (∀ w1, Calls Tryd.prog 37 #[.int .i64 (n' : Int)] w1 fun e w' => e = .returned (.int .i64 (Rv.shapeN n')) ∧ w1 = w') := fun w1 => by
    have h := formOf_any (n' : Int) w1
    have e : Rv.form (n' : Int) = Rv.shapeN n' := by unfold Rv.form; rw [if_neg (by omega)]; simp
    rw [e] at h; exact h
  have HHA : Hid (∀ w1, Calls Tryd.prog 38 #[.int .i64 (Rv.shapeN n')] w1 fun e w' => e = .returned (.agg #[.bool (Rv.hasD (Rv.shapeN n')), .bool (Rv.hasA (Rv.shapeN n')), .bool (Rv.hasB (Rv.shapeN n')), .bool (Rv.hasI (Rv.shapeN n'))]) ∧ Gr w1 w') := fun w1 => by
    have hs9 : Rv.shapeN n' ≠ 10 := by rcases Rv.shape_cases n' with e | e | e | e | e | e | e | e | e | e <;> rw [e] <;> decide
    have hsc := Rv.shape_cases n'
    have h := phas_any (Rv.shapeN n') (by omega) w1
    have e : Rv.hasP (Rv.shapeN n') = (Rv.hasD (Rv.shapeN n'), Rv.hasA (Rv.shapeN n'), Rv.hasB (Rv.shapeN n'), Rv.hasI (Rv.shapeN n')) := by unfold Rv.hasP; rw [if_neg (by omega)]
    rw [e] at h; exact h
  have HI1 : Hid (∀ w1, Tabs w1 → Calls Tryd.prog 64 #[.int .i64 d] w1 fun e w' => e = .returned (.string (itoaB d)) ∧ Gr w1 w') := fun w1 h => itoa_any d (by omega) (by omega) w1 h
  have z1 := itoaB_size d (by omega) (by omega)
  have HI2 : Hid (∀ w1, Tabs w1 → Calls Tryd.prog 64 #[.int .i64 a] w1 fun e w' => e = .returned (.string (itoaB a)) ∧ Gr w1 w') := fun w1 h => itoa_any a (by omega) (by omega) w1 h
  have z2 := itoaB_size a (by omega) (by omega)
  have HI3 : Hid (∀ w1, Tabs w1 → Calls Tryd.prog 64 #[.int .i64 b] w1 fun e w' => e = .returned (.string (itoaB b)) ∧ Gr w1 w') := fun w1 h => itoa_any b (by omega) (by omega) w1 h
  have z3 := itoaB_size b (by omega) (by omega)
  have HI4 : Hid (∀ w1, Tabs w1 → Calls Tryd.prog 64 #[.int .i64 imm] w1 fun e w' => e = .returned (.string (itoaB imm)) ∧ Gr w1 w') := fun w1 h => itoa_any imm (by omega) (by omega) w1 h
  have z4 := itoaB_size imm (by omega) (by omega)
  have z0 := opName_size n'
  have T1 : Hid (text1 ⟨n', d, a, b, imm⟩ = if Rv.hasD (Rv.shapeN n') then opName n' ++ (⟨#[32, 120]⟩ ++ itoaB d) else opName n') := by show _ = _; rfl
  have T2 : Hid (text2 ⟨n', d, a, b, imm⟩ = if Rv.hasA (Rv.shapeN n') then text1 ⟨n', d, a, b, imm⟩ ++ (⟨#[32, 120]⟩ ++ itoaB a) else text1 ⟨n', d, a, b, imm⟩) := by show _ = _; rfl
  have T3 : Hid (text3 ⟨n', d, a, b, imm⟩ = if Rv.hasB (Rv.shapeN n') then text2 ⟨n', d, a, b, imm⟩ ++ (⟨#[32, 120]⟩ ++ itoaB b) else text2 ⟨n', d, a, b, imm⟩) := by show _ = _; rfl
  have T4 : Hid (text4 ⟨n', d, a, b, imm⟩ = if Rv.hasI (Rv.shapeN n') then text3 ⟨n', d, a, b, imm⟩ ++ (⟨#[32]⟩ ++ itoaB imm) else text3 ⟨n', d, a, b, imm⟩) := by show _ = _; rfl
  obtain ⟨t1, e1⟩ : ∃ t, text1 ⟨n', d, a, b, imm⟩ = t := ⟨_, rfl⟩
  obtain ⟨t2, e2⟩ : ∃ t, text2 ⟨n', d, a, b, imm⟩ = t := ⟨_, rfl⟩
  obtain ⟨t3, e3⟩ : ∃ t, text3 ⟨n', d, a, b, imm⟩ = t := ⟨_, rfl⟩
  obtain ⟨t4, e4⟩ : ∃ t, text4 ⟨n', d, a, b, imm⟩ = t := ⟨_, rfl⟩
  rw [e1] at T1 T2
  rw [e2] at T2 T3
  rw [e3] at T3 T4
  rw [e4] at T4 ⊢
  clear e1 e2 e3 e4
  obtain ⟨t0, e0⟩ : ∃ t, opName n' = t := ⟨_, rfl⟩
  rw [e0] at T1 HNA z0
  obtain ⟨j1, hj1⟩ : ∃ t, itoaB d = t := ⟨_, rfl⟩
  rw [hj1] at T1 HI1 z1
  clear hj1
  obtain ⟨j2, hj2⟩ : ∃ t, itoaB a = t := ⟨_, rfl⟩
  rw [hj2] at T2 HI2 z2
  clear hj2
  obtain ⟨j3, hj3⟩ : ∃ t, itoaB b = t := ⟨_, rfl⟩
  rw [hj3] at T3 HI3 z3
  clear hj3
  obtain ⟨j4, hj4⟩ : ∃ t, itoaB imm = t := ⟨_, rfl⟩
  rw [hj4] at T4 HI4 z4
  clear hj4
  obtain ⟨p1, q1⟩ : ∃ p, Rv.hasD (Rv.shapeN n') = p := ⟨_, rfl⟩
  obtain ⟨p2, q2⟩ : ∃ p, Rv.hasA (Rv.shapeN n') = p := ⟨_, rfl⟩
  obtain ⟨p3, q3⟩ : ∃ p, Rv.hasB (Rv.shapeN n') = p := ⟨_, rfl⟩
  obtain ⟨p4, q4⟩ : ∃ p, Rv.hasI (Rv.shapeN n') = p := ⟨_, rfl⟩
  rw [q1, q2, q3, q4] at HHA
  rw [q1] at T1
  rw [q2] at T2
  rw [q3] at T3
  rw [q4] at T4
  clear q1 q2 q3 q4 e0
  obtain ⟨s, hs⟩ : ∃ s, Rv.shapeN n' = s := ⟨_, rfl⟩
  rw [hs] at HHA HFO
  clear hs
  -- the sizes
  have hz : ∀ (x y : ByteArray), (x ++ y).size = x.size + y.size := size_two
  have l2 : (⟨#[32, 120]⟩ : ByteArray).size = 2 := rfl
  have l1 : (⟨#[32]⟩ : ByteArray).size = 1 := rfl
  have y1 : t1.size ≤ 6 + 2147483652 := by rw [T1.out]; split <;> (try rw [hz, hz, l2]) <;> omega
  have y2 : t2.size ≤ 6 + 2 * 2147483652 := by rw [T2.out]; split <;> (try rw [hz, hz, l2]) <;> omega
  have y3 : t3.size ≤ 6 + 3 * 2147483652 := by rw [T3.out]; split <;> (try rw [hz, hz, l2]) <;> omega
  have A1 := fun w : World => run_string_add_sum (P := Tryd.prog) w ⟨#[32, 120]⟩ j1 (by rw [l2]; omega)
  have B1 := fun w : World => run_string_add_sum (P := Tryd.prog) w t0 (⟨#[32, 120]⟩ ++ j1) (by rw [hz, l2]; omega)
  have A2 := fun w : World => run_string_add_sum (P := Tryd.prog) w ⟨#[32, 120]⟩ j2 (by rw [l2]; omega)
  have B2 := fun w : World => run_string_add_sum (P := Tryd.prog) w t1 (⟨#[32, 120]⟩ ++ j2) (by rw [hz, l2]; omega)
  have A3 := fun w : World => run_string_add_sum (P := Tryd.prog) w ⟨#[32, 120]⟩ j3 (by rw [l2]; omega)
  have B3 := fun w : World => run_string_add_sum (P := Tryd.prog) w t2 (⟨#[32, 120]⟩ ++ j3) (by rw [hz, l2]; omega)
  have A4 := fun w : World => run_string_add_sum (P := Tryd.prog) w ⟨#[32]⟩ j4 (by rw [l1]; omega)
  have B4 := fun w : World => run_string_add_sum (P := Tryd.prog) w t3 (⟨#[32]⟩ ++ j4) (by rw [hz, l1]; omega)
  clear hz l1 l2 y1 y2 y3 z0 z1 z2 z3 z4
  have HT := Lib.hid ht
  clear ht hv
  obtain ⟨W, hW⟩ : ∃ W, w.alloc (.cells #[.int .i64 (n' : Int), .int .i64 d, .int .i64 a, .int .i64 b, .int .i64 imm] 23) = W := ⟨_, rfl⟩
  have hB0 : Gr w W := by rw [← hW]; exact (Gr.refl w).alloc _
  have hrw : W.heap[w.heap.size]? = some (.cells #[.int .i64 (n' : Int), .int .i64 d, .int .i64 a, .int .i64 b, .int .i64 imm] 23 (0, 0)) := by rw [← hW]; exact heap_alloc_new w _
  have hWs : W.heap.size = w.heap.size + 1 := by rw [← hW]; simp
  have KP : Hid (∀ w', Gr W w' → w'.cell? ⟨w.heap.size, 0, none⟩ = some (.int .i64 n') ∧ w'.cell? ⟨w.heap.size, 1, none⟩ = some (.int .i64 d) ∧ w'.cell? ⟨w.heap.size, 2, none⟩ = some (.int .i64 a) ∧ w'.cell? ⟨w.heap.size, 3, none⟩ = some (.int .i64 b) ∧ w'.cell? ⟨w.heap.size, 4, none⟩ = some (.int .i64 imm)) := fun w' q => by
    have h := (q.heap _ (by omega)).trans hrw
    exact ⟨cell_of_row _ _ 0 _ _ _ h, cell_of_row _ _ 1 _ _ _ h, cell_of_row _ _ 2 _ _ _ h, cell_of_row _ _ 3 _ _ _ h, cell_of_row _ _ 4 _ _ _ h⟩
  obtain ⟨k0, k1, k2, k3, k4⟩ := KP.out W (Gr.refl _)
  have HB0 := Lib.hid hB0
  clear hrw hWs hB0
  unfold rvVal at HVA ⊢
  dsimp only at HVA ⊢
  go_enter Tryd.func31, Tryd.ntmps31
  go_wp2_with (first
    | (go_at_call 14; refine (HVA.out _).mono ?_; rintro e w1 ⟨rfl, g1⟩; obtain ⟨l0, l1, l2, l3, l4⟩ := KP.out _ g1)
    | (go_at_call 63; refine (HNA.out _ ((HT.out.gr HB0.out).gr g1)).mono ?_; rintro e w2 ⟨rfl, g2⟩; obtain ⟨m0, m1, m2, m3, m4⟩ := KP.out _ (g1.trans g2))
    | (go_at_call 37; refine (HFO.out _).mono ?_; rintro e w3 ⟨rfl, rfl⟩)
    | (go_at_call 38; refine (HHA.out _).mono ?_; rintro e w3 ⟨rfl, g3⟩; have m1' : ∀ o, (w3.alloc o).cell? ⟨w.heap.size, 1, none⟩ = some (.int .i64 d) := fun o => (KP.out _ ((g1.trans (g2.trans g3)).alloc o)).2.1; have m2' : ∀ o, (w3.alloc o).cell? ⟨w.heap.size, 2, none⟩ = some (.int .i64 a) := fun o => (KP.out _ ((g1.trans (g2.trans g3)).alloc o)).2.2.1; have m3' : ∀ o, (w3.alloc o).cell? ⟨w.heap.size, 3, none⟩ = some (.int .i64 b) := fun o => (KP.out _ ((g1.trans (g2.trans g3)).alloc o)).2.2.2.1))
  have HL : Hid (Gr W ((w3.alloc (.cells #[.bool p1, .bool p2, .bool p3, .bool p4] 64)).alloc (.cells #[.int .i64 d, .int .i64 a, .int .i64 b] 3))) := ((g1.trans (g2.trans g3)).alloc _).alloc _
  have hb1 : ((w3.alloc (.cells #[.bool p1, .bool p2, .bool p3, .bool p4] 64)).alloc (.cells #[.int .i64 d, .int .i64 a, .int .i64 b] 3)).heap[w3.heap.size]? = some (.cells #[.bool p1, .bool p2, .bool p3, .bool p4] 64 (0, 0)) := (((Gr.refl _).alloc _).heap _ (by simp)).trans (heap_alloc_new w3 _)
  have hb2 : ((w3.alloc (.cells #[.bool p1, .bool p2, .bool p3, .bool p4] 64)).alloc (.cells #[.int .i64 d, .int .i64 a, .int .i64 b] 3)).heap[w3.heap.size + 1]? = some (.cells #[.int .i64 d, .int .i64 a, .int .i64 b] 3 (0, 0)) := by
    have h := heap_alloc_new (w3.alloc (.cells #[.bool p1, .bool p2, .bool p3, .bool p4] 64)) (.cells #[.int .i64 d, .int .i64 a, .int .i64 b] 3)
    simpa using h
  obtain ⟨W2, hW2⟩ : ∃ W2, ((w3.alloc (.cells #[.bool p1, .bool p2, .bool p3, .bool p4] 64)).alloc (.cells #[.int .i64 d, .int .i64 a, .int .i64 b] 3)) = W2 := ⟨_, rfl⟩
  rw [hW2] at HL hb1 hb2 ⊢
  have KQ : Hid (∀ w', Gr W2 w' → w'.heap[w3.heap.size]? = some (.cells #[.bool p1, .bool p2, .bool p3, .bool p4] 64 (0, 0)) ∧ w'.heap[w3.heap.size + 1]? = some (.cells #[.int .i64 d, .int .i64 a, .int .i64 b] 3 (0, 0))) := fun w' g => ⟨(g.heap _ (Array.getElem?_eq_some_iff.1 hb1).1).trans hb1, (g.heap _ (Array.getElem?_eq_some_iff.1 hb2).1).trans hb2⟩
  clear hb1 hb2 hW2 hW k0 k1 k2 k3 k4 l0 l1 l2 l3 l4 m0 m1 m2 m3 m4 m1' m2' m3' HHA HFO HNA HVA g1 g2 g3
  go_loopw [5, 29] (fun s i wr => ∃ k : Nat, k ≤ 3 ∧ i = .int .i64 k ∧ s = .string (if k = 0 then t0 else if k = 1 then t1 else if k = 2 then t2 else t3) ∧ Hid (Gr W2 wr)) (fun _ i _ => 3 - (intOf i).toNat)
  case atStart => exact ⟨0, by omega, rfl, rfl, Lib.hid (Gr.refl _)⟩
  case round =>
    obtain ⟨k, hk, rfl, hs, HG⟩ := hrel
    obtain ⟨hq1, hq2⟩ := KQ.out wr HG.out
    rcases (by omega : k = 0 ∨ k = 1 ∨ k = 2 ∨ k = 3) with rfl | rfl | rfl | rfl
    · simp only [Nat.reduceEqDiff, Nat.zero_ne_one, Nat.one_ne_zero, if_true, if_false, reduceIte] at hs
      subst hs
      have u0 := cell_of_row _ _ 0 _ _ _ hq1
      have v0 := cell_of_row _ _ 0 _ _ _ hq2
      clear hq1 hq2
      cases p1 with
      | true =>
        have HE : Hid (t1 = t0 ++ (⟨#[32, 120]⟩ ++ j1)) := by show _ = _; rw [T1.out]; rfl
        go_wp2_with (go_at_call 64; refine (HI1.out _ (((HT.out.gr HB0.out).gr HL.out).gr HG.out)).mono ?_; rintro e w4 ⟨rfl, g4⟩)
        go_roundw
        case rel => exact ⟨1, by omega, rfl, by rw [← HE.out]; rfl, Lib.hid (HG.out.trans g4)⟩
        case measure => simp [intOf]
      | false =>
        have HE : Hid (t1 = t0) := by show _ = _; rw [T1.out]; rfl
        go_wp2
        go_roundw
        case rel => exact ⟨1, by omega, rfl, by rw [← HE.out]; rfl, HG⟩
        case measure => simp [intOf]
    · simp only [Nat.reduceEqDiff, Nat.zero_ne_one, Nat.one_ne_zero, if_true, if_false, reduceIte] at hs
      subst hs
      have u0 := cell_of_row _ _ 1 _ _ _ hq1
      have v0 := cell_of_row _ _ 1 _ _ _ hq2
      clear hq1 hq2
      cases p2 with
      | true =>
        have HE : Hid (t2 = t1 ++ (⟨#[32, 120]⟩ ++ j2)) := by show _ = _; rw [T2.out]; rfl
        go_wp2_with (go_at_call 64; refine (HI2.out _ (((HT.out.gr HB0.out).gr HL.out).gr HG.out)).mono ?_; rintro e w4 ⟨rfl, g4⟩)
        go_roundw
        case rel => exact ⟨2, by omega, rfl, by rw [← HE.out]; rfl, Lib.hid (HG.out.trans g4)⟩
        case measure => simp [intOf]
      | false =>
        have HE : Hid (t2 = t1) := by show _ = _; rw [T2.out]; rfl
        go_wp2
        go_roundw
        case rel => exact ⟨2, by omega, rfl, by rw [← HE.out]; rfl, HG⟩
        case measure => simp [intOf]
    · simp only [Nat.reduceEqDiff, Nat.zero_ne_one, Nat.one_ne_zero, if_true, if_false, reduceIte] at hs
      subst hs
      have u0 := cell_of_row _ _ 2 _ _ _ hq1
      have v0 := cell_of_row _ _ 2 _ _ _ hq2
      clear hq1 hq2
      cases p3 with
      | true =>
        have HE : Hid (t3 = t2 ++ (⟨#[32, 120]⟩ ++ j3)) := by show _ = _; rw [T3.out]; rfl
        go_wp2_with (go_at_call 64; refine (HI3.out _ (((HT.out.gr HB0.out).gr HL.out).gr HG.out)).mono ?_; rintro e w4 ⟨rfl, g4⟩)
        go_roundw
        case rel => exact ⟨3, by omega, rfl, by rw [← HE.out]; rfl, Lib.hid (HG.out.trans g4)⟩
        case measure => simp [intOf]
      | false =>
        have HE : Hid (t3 = t2) := by show _ = _; rw [T3.out]; rfl
        go_wp2
        go_roundw
        case rel => exact ⟨3, by omega, rfl, by rw [← HE.out]; rfl, HG⟩
        case measure => simp [intOf]
    · simp only [Nat.reduceEqDiff, Nat.zero_ne_one, Nat.one_ne_zero, if_true, if_false, reduceIte] at hs
      subst hs
      have u3 := cell_of_row _ _ 3 _ _ _ hq1
      have k4 := (KP.out wr (HL.out.trans HG.out)).2.2.2.2
      clear hq1 hq2
      cases p4 with
      | true =>
        have HE : Hid (t4 = t3 ++ (⟨#[32]⟩ ++ j4)) := by show _ = _; rw [T4.out]; rfl
        go_wp2_with (go_at_call 64; refine (HI4.out _ (((HT.out.gr HB0.out).gr HL.out).gr HG.out)).mono ?_; rintro e w4 ⟨rfl, g4⟩)
        go_ret2
        exact ⟨by rw [HE.out]; rfl, HB0.out.trans (HL.out.trans (HG.out.trans g4))⟩
      | false =>
        have HE : Hid (t4 = t3) := by show _ = _; rw [T4.out]; rfl
        go_wp2
        go_ret2
        exact ⟨by rw [HE.out]; rfl, HB0.out.trans (HL.out.trans HG.out)⟩
end Go.Proofs.YthiaaagoccpkcaaDoor

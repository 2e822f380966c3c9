/- step of the program's machine: what is executed. -/
import Derived.Test.YthiaaagoccpkcaaDoorMachA
import Derived.StillTailTactics
import Derived.Deep.QuietTactic
import Derived.BigQuiet
import Derived.IntWalk
namespace Go.Proofs.YthiaaagoccpkcaaDoor
set_option linter.unusedSimpArgs false
set_option linter.unusedVariables false
open Go.RowKit

/-- What a fetch finds. -/
structure Fetch (w : World) (m : Mach) (B g : Nat) (mv : Value) : Prop where
  load : ∃ z, Calls Tryd.prog 73 #[.pointer (some ⟨B, 0, none⟩), .int .u32 m.pc, .int .i64 4] w (fun e w' => e = .returned (.tuple #[.int .u32 z, .bool true]) ∧ Gr w w') ∧ z = Rv.rd m.mem m.pc.toNat 4 ∧ 0 ≤ z ∧ z < 4294967296
theorem fetch_ok {N : Nat} {w : World} {B g : Nat} {m : Mach} {mv : Value} (h : MS N w B m mv g) (hf : ¬ (m.mem.length < m.pc.toNat + 4 ∨ m.pc % 4 ≠ 0)) :
    Calls Tryd.prog 73 #[.pointer (some ⟨B, 0, none⟩), .int .u32 m.pc, .int .i64 4] w (fun e w' => e = .returned (.tuple #[.int .u32 (Rv.rd m.mem m.pc.toNat 4), .bool true]) ∧ Gr w w') := by
  have HL := load_any h m.pc 4 h.wf.pc.1 h.wf.pc.2 (by omega)
  have hlt : ¬ m.mem.length < m.pc.toNat + 4 := fun e => hf (.inl e)
  have hd : decide (¬ m.mem.length < m.pc.toNat + 4) = true := by simp; omega
  rw [hd, if_neg hlt] at HL
  exact HL
set_option maxRecDepth 100000 in
set_option maxHeartbeats 8000000 in
theorem step_none {N : Nat} {w : World} {B g : Nat} {m : Mach} {mv : Value} (h : MS N w B m mv g) (hf : ¬ (m.mem.length < m.pc.toNat + 4 ∨ m.pc % 4 ≠ 0)) (hd : Rv.decode (Rv.rd m.mem m.pc.toNat 4) = none) :
    Calls Tryd.prog 52 #[.pointer (some ⟨B, 0, none⟩)] w (StepRet N w B m mv g) := by
  have HM := Lib.hid h
  have HL := Lib.hid (fetch_ok h hf)
  have HR : Hid (Rv.stepO m = none) := stepO_none hf hd
  obtain ⟨i0, i1⟩ := Rv.rd4_in h.wf.mem m.pc.toNat
  have HD : Hid (∀ w1, Gr w w1 → Calls Tryd.prog 46 #[.map (some g), .int .u32 (Rv.rd m.mem m.pc.toNat 4)] w1 fun e w' => e = .returned (.tuple #[rvVal rv0, .bool false]) ∧ Gr w1 w') := by
    intro w1 g1
    have := decode_any _ i0 i1 g w1 (HM.out.dec.gr g1)
    rw [hd] at this
    exact this
  have k33 := h.row.pc
  have HK : Hid (∀ w1, Gr w w1 → w1.cell? ⟨B, 33, none⟩ = some (.int .u32 m.pc) ∧ w1.cell? ⟨B, 36, none⟩ = some (.map (some g))) := fun w1 g1 => ⟨(HM.out.gr g1).row.pc, (HM.out.gr g1).row.tail1⟩
  have hz : m.pc % 4 = 0 := by
    rcases Decidable.em (m.pc % 4 = 0) with h' | h'
    · exact h'
    · exact absurd (.inr h') hf
  have hz' : (m.pc % 4 != 0) = false := by simpa using hz
  generalize Rv.rd m.mem m.pc.toNat 4 = z at *
  have p0 := HM.out.wf.pc
  generalize m.pc = pc at *
  unfold rvVal rv0 at HD
  dsimp only at HD
  clear hd hf h hz
  go_enter Tryd.func52, Tryd.ntmps52
  go_wp2_with (first
    | (go_at_call 73; refine HL.out.mono ?_; rintro _ w1 ⟨rfl, g1⟩; obtain ⟨kk, kg⟩ := HK.out _ g1)
    | (go_at_call 46; refine (HD.out _ g1).mono ?_; rintro _ w2 ⟨rfl, g2⟩))
  go_ret
  have g3 := (g1.trans g2).alloc (.cells #[.int .i64 0, .int .i64 0, .int .i64 0, .int .i64 0, .int .i64 0] 23)
  refine ⟨?_, ?_, HM.out.below g3⟩
  · rw [HR.out]; rfl
  · rw [HR.out]; exact HM.out.gr g3
theorem region_tail {P : Program} {id : Nat} {Q : Exit → Act → World → Prop} {a : Act} {w : World} {l : List Oper} (n : Nat) (hm : P.follows .mixedOrders = true) (hB : Region.lexTailB .any l.toArray n = true)
    (h : ∀ W, w.drew = W → wpStill P l.toArray W (fun a' => wpList P l.toArray Q (l.drop n) a' W) (l.take n) a) : (Code.region id l.toArray true).wp P Q a w :=
  wp_region_still_tail n hm hB (h _ rfl)
theorem andNot_one (x : Int) (h0 : 0 ≤ x) (h1 : x < 4294967296) : bits .andNot .u32 x 1 = x / 2 * 2 := by
  obtain ⟨n, rfl⟩ : ∃ n : Nat, x = n := ⟨x.toNat, by omega⟩
  have e : (BitVec.ofInt 32 (n : Int) &&& ~~~ BitVec.ofInt 32 1) = ((BitVec.ofInt 32 (n : Int)) >>> 1) <<< 1 := by
    apply BitVec.eq_of_getLsbD_eq
    intro i hi
    rcases Nat.eq_zero_or_pos i with rfl | hp
    · simp
    · have this : BitVec.ofInt 32 1 = 1#32 := by rfl
      rw [this]
      have h1' : (1#32).getLsbD i = false := by
        rw [BitVec.getLsbD_one]
        simp [show ¬ (i = 0) by omega]
      have hi' : 1 + (i - 1) = i := by omega
      rw [BitVec.getLsbD_and, BitVec.getLsbD_not, h1', BitVec.getLsbD_shiftLeft, BitVec.getLsbD_ushiftRight, hi']
      simp [hi]
      intro h; omega
  unfold bits
  show IntKind.u32.wrap (((BitVec.ofInt 32 (n : Int) &&& ~~~ BitVec.ofInt 32 1).toNat : Nat) : Int) = _
  rw [e]
  have e2 : (((BitVec.ofInt 32 (n : Int)) >>> 1) <<< 1).toNat = n / 2 * 2 := by
    rw [BitVec.toNat_shiftLeft, BitVec.toNat_ushiftRight, ofInt_nat, Nat.shiftRight_eq_div_pow, Nat.shiftLeft_eq]
    omega
  rw [e2, wrap_u32_in _ (by omega) (by omega)]
  omega
theorem rd_u32 {bs : List Int} (h : Rv.isBytes bs) (i c : Nat) (hc : c ≤ 4) : 0 ≤ Rv.rd bs i c ∧ Rv.rd bs i c < 4294967296 := by
  obtain ⟨q0, q1⟩ := Rv.rd_in h c i
  refine ⟨q0, ?_⟩
  rcases (by omega : c = 0 ∨ c = 1 ∨ c = 2 ∨ c = 3 ∨ c = 4) with e | e | e | e | e <;> rw [e] at q1 ⊢ <;> simp only [Int.reducePow] at q1 <;> omega
theorem sizeM_le (op : Nat) : Rv.sizeM op ≤ 4 := by
  unfold Rv.sizeM
  by_cases h : op = 25 ∨ op = 28
  · simp [h]
  · by_cases h' : op = 26 ∨ op = 29 <;> simp [h, h']
theorem execS_4 (m : Mach) (o : Nat) (d a b n : Int) : Rv.execS m 4 o d a b n = if m.mem.length < ((a + n) % 4294967296).toNat + Rv.sizeM o then none else some (Rv.setR m d (Rv.rd m.mem ((a + n) % 4294967296).toNat (Rv.sizeM o))) := by
  unfold Rv.execS
  rw [if_neg (by decide), if_neg (by decide), if_neg (by decide), if_pos rfl]
theorem execS_5 (m : Mach) (o : Nat) (d a b n : Int) : Rv.execS m 5 o d a b n = if m.mem.length < ((a + n) % 4294967296).toNat + Rv.sizeM o then none else some { m with mem := Rv.wr m.mem ((a + n) % 4294967296).toNat (Rv.sizeM o) b, pc := (m.pc + 4) % 4294967296 } := by
  unfold Rv.execS
  rw [if_neg (by decide), if_neg (by decide), if_neg (by decide), if_neg (by decide), if_pos rfl]
theorem reg_in {m : Mach} (h : Rv.WfM m) (i : Nat) (hi : i < 32) : 0 ≤ m.regs.getD i 0 ∧ m.regs.getD i 0 < 4294967296 := by
  have e : m.regs[i]? = some (m.regs.getD i 0) := by rw [List.getD_eq_getElem?_getD, List.getElem?_eq_getElem (by rw [h.regs]; exact hi)]; rfl
  exact h.rin _ (List.mem_of_getElem? e)
theorem form_shape (op : Int) (h0 : 0 ≤ op) (h1 : op ≤ 40) : Rv.form op = Rv.shapeN op.toNat := by unfold Rv.form; rw [if_neg (by omega)]
theorem shape_range' (op : Nat) : Rv.shapeN op = 0 ∨ Rv.shapeN op = 1 ∨ Rv.shapeN op = 2 ∨ Rv.shapeN op = 3 ∨ Rv.shapeN op = 4 ∨ Rv.shapeN op = 5 ∨ Rv.shapeN op = 6 ∨ Rv.shapeN op = 7 ∨ Rv.shapeN op = 8 ∨ Rv.shapeN op = 9 := Rv.shape_cases op
set_option maxRecDepth 100000 in
set_option maxHeartbeats 16000000 in
theorem step_some {N : Nat} {w : World} {B g : Nat} {m : Mach} {mv : Value} (h : MS N w B m mv g) (hf : ¬ (m.mem.length < m.pc.toNat + 4 ∨ m.pc % 4 ≠ 0)) (x : RvI) (hd : Rv.decode (Rv.rd m.mem m.pc.toNat 4) = some x) :
    Calls Tryd.prog 52 #[.pointer (some ⟨B, 0, none⟩)] w (StepRet N w B m mv g) := by
  have HM := Lib.hid h
  have HL := Lib.hid (fetch_ok h hf)
  obtain ⟨i0, i1⟩ := Rv.rd4_in h.wf.mem m.pc.toNat
  have HX := Lib.hid (valid_in x (Rv.decode_word _ i0 i1 x hd).1)
  have HD : Hid (∀ w1, Gr w w1 → Calls Tryd.prog 46 #[.map (some g), .int .u32 (Rv.rd m.mem m.pc.toNat 4)] w1 fun e w' => e = .returned (.tuple #[rvVal x, .bool true]) ∧ Gr w1 w') := by
    intro w1 g1
    have := decode_any _ i0 i1 g w1 (HM.out.dec.gr g1)
    rw [hd] at this
    exact this
  have k33 := h.row.pc
  have HK : Hid (∀ w1, Gr w w1 → w1.cell? ⟨B, 33, none⟩ = some (.int .u32 m.pc) ∧ w1.cell? ⟨B, 36, none⟩ = some (.map (some g))) := fun w1 g1 => ⟨(HM.out.gr g1).row.pc, (HM.out.gr g1).row.tail1⟩
  have hz : m.pc % 4 = 0 := by
    rcases Decidable.em (m.pc % 4 = 0) with h' | h'
    · exact h'
    · exact absurd (.inr h') hf
  have hz' : (m.pc % 4 != 0) = false := by simpa using hz
  have HST : Hid (Rv.stepO m = Rv.execO m x) := by
    show _ = _
    unfold Rv.stepO
    rw [if_neg hf, hd]
  generalize Rv.rd m.mem m.pc.toNat 4 = z at *
  have p0 := HM.out.wf.pc
  obtain ⟨pc, hpc⟩ : ∃ pc, m.pc = pc := ⟨_, rfl⟩
  have HPC := Lib.hid hpc
  rw [hpc] at k33 HK hz' p0 HL
  obtain ⟨op, d, a, b, imm⟩ := x
  unfold rvVal at HD
  dsimp only at HD HX HST
  obtain ⟨⟨o0, o1⟩, ⟨d0, d1⟩, ⟨a0, a1⟩, ⟨c0, c1⟩, m0, m1⟩ := HX.out
  obtain ⟨op, rfl⟩ : ∃ k : Nat, op = k := ⟨op.toNat, by omega⟩
  obtain ⟨d, rfl⟩ : ∃ k : Nat, d = k := ⟨d.toNat, by omega⟩
  obtain ⟨a, rfl⟩ : ∃ k : Nat, a = k := ⟨a.toNat, by omega⟩
  obtain ⟨b, rfl⟩ : ∃ k : Nat, b = k := ⟨b.toNat, by omega⟩
  have HF : Hid (∀ W, Calls Tryd.prog 37 #[.int .i64 (op : Nat)] W fun e w' => e = .returned (.int .i64 (Rv.shapeN op)) ∧ W = w') := by
    intro W
    have := formOf_any op W
    rw [form_shape _ o0 o1] at this
    exact this
  clear hd hf h hz hpc
  go_enter Tryd.func52, Tryd.ntmps52
  go_wp2_with (first
    | (go_at_call 73; refine HL.out.mono ?_; rintro _ w1 ⟨rfl, g1⟩; obtain ⟨kk, kg⟩ := HK.out _ g1)
    | (go_at_call 46; refine (HD.out _ g1).mono ?_; rintro _ w2 ⟨rfl, g2⟩))
  have HG := Lib.hid (g1.trans g2)
  have HB : Hid (B < w2.heap.size) := (HM.out.gr HG.out).row.lt
  obtain ⟨W, hW⟩ : ∃ W, w2.alloc (.cells #[.int .i64 op, .int .i64 d, .int .i64 a, .int .i64 b, .int .i64 imm] 23) = W := ⟨_, rfl⟩
  obtain ⟨D, hD⟩ : ∃ D, w2.heap.size = D := ⟨_, rfl⟩
  have HW : Hid (Gr w W) := by rw [← hW]; exact HG.out.alloc _
  have hrow : W.heap[D]? = some (.cells #[.int .i64 op, .int .i64 d, .int .i64 a, .int .i64 b, .int .i64 imm] 23 (0, 0)) := by rw [← hW, ← hD]; exact heap_alloc_new w2 _
  have b0 := cell_of_row W D 0 _ _ _ hrow
  have b1 := cell_of_row W D 1 _ _ _ hrow
  have b2 := cell_of_row W D 2 _ _ _ hrow
  have b3 := cell_of_row W D 3 _ _ _ hrow
  have b4 := cell_of_row W D 4 _ _ _ hrow
  simp at b0 b1 b2 b3 b4
  rw [hW, hD]
  obtain ⟨A, hA⟩ : ∃ A, m.regs.getD a 0 = A := ⟨_, rfl⟩
  obtain ⟨Bv, hBv⟩ : ∃ A, m.regs.getD b 0 = A := ⟨_, rfl⟩
  have ra := (HM.out.gr HW.out).row.reg a (by omega)
  have rb := (HM.out.gr HW.out).row.reg b (by omega)
  rw [hA] at ra
  rw [hBv] at rb
  have HR32 : Hid ((0 ≤ A ∧ A < 4294967296) ∧ 0 ≤ Bv ∧ Bv < 4294967296) := by
    rw [← hA, ← hBv]
    exact ⟨reg_in HM.out.wf a (by omega), reg_in HM.out.wf b (by omega)⟩
  have HA := Lib.hid hA
  have HBv := Lib.hid hBv
  have a2 : (a : Int) < 32 := a1
  have c2 : (b : Int) < 32 := c1
  have hDW : D < W.heap.size := (Array.getElem?_eq_some_iff.1 hrow).1
  clear hA hBv hW hD hrow kk kg g1 g2
  go_quiet (fail)
  obtain ⟨W3, hW3⟩ : ∃ W3, W.drewN nq = W3 := ⟨_, rfl⟩
  have HM3 : Hid (MS N W3 B m mv g ∧ Below N w W3) := by rw [← hW3]; exact ⟨(HM.out.gr HW.out).gr ((Gr.refl _).drewN _), HM.out.below (HW.out.drewN _)⟩
  have e0 : W3.cell? ⟨D, 0, none⟩ = some (.int .i64 op) := by rw [← hW3]; exact b0
  have e1 : W3.cell? ⟨D, 1, none⟩ = some (.int .i64 d) := by rw [← hW3]; exact b1
  have KB : Hid (D < W3.heap.size ∧ ∀ w5, Gr W3 w5 → w5.cell? ⟨D, 1, none⟩ = some (.int .i64 d)) := by
    have hD3 : D < W3.heap.size := by rw [← hW3]; exact hDW
    exact ⟨hD3, fun w5 g5 => (g5.cell _ _ hD3).trans e1⟩
  rw [hW3]
  clear hW3 ra rb b0 b1 b2 b3 b4
  obtain ⟨I, hI⟩ : ∃ I, imm % 4294967296 = I := ⟨_, rfl⟩
  have i2 : 0 ≤ I := by omega
  have i3 : I < 4294967296 := by omega
  have HII := Lib.hid hI
  rw [hI]
  clear hI m0 m1
  obtain ⟨s, hs⟩ : ∃ s, Rv.shapeN op = s := ⟨_, rfl⟩
  have HS := Lib.hid hs
  have hsr := shape_range' op
  rw [hs] at hsr HF
  clear hs
  have HE : Hid (Rv.stepO m = Rv.execS m s op d A Bv I) := by
    show _ = _
    rw [HST.out, ← HS.out, ← HA.out, ← HBv.out, ← HII.out]; rfl
  rcases hsr with rfl | rfl | rfl | rfl | rfl | rfl | rfl | rfl | rfl | rfl
  · have hop : op ≤ 14 := by have h := HS.out; unfold Rv.shapeN at h; repeat' split at h; all_goals omega
    have HR : Hid (Rv.stepO m = some (Rv.setR m d (Rv.calcM op A Bv))) := by
      show _ = _
      rw [HE.out]
      simp [Rv.execS, HPC.out]
    have HCL : Hid (∀ W, Calls Tryd.prog 75 #[.int .i64 (op : Nat), .int .u32 A, .int .u32 Bv] W fun e w' => e = .returned (.int .u32 (Rv.calcM op A Bv)) ∧ w' = W) := fun W => (calculate_at op (by omega) A Bv HR32.out.1.1 HR32.out.1.2 HR32.out.2.1 HR32.out.2.2 W).mono fun _ _ h => ⟨h.1, h.2.symm⟩
    have HRI : Hid (0 ≤ Rv.calcM op A Bv ∧ Rv.calcM op A Bv < 4294967296) := calcM_in op A Bv HR32.out.1.1 HR32.out.1.2 HR32.out.2.1 HR32.out.2.2
    generalize Rv.calcM op A Bv = R at *
    go_wp2_with (go_at_call 37; refine (HF.out _).mono ?_; rintro _ _ ⟨rfl, rfl⟩)
    refine region_tail 8 (by kernel_rfl) (by kernel_rfl) fun W4 hW4 => ?_
    have HM4 : Hid (MS N W4 B m mv g ∧ Below N w W4) := by rw [← hW4]; exact ⟨HM3.out.1.gr ((Gr.refl _).drew), HM3.out.2.drew⟩
    have f0 : W4.cell? ⟨D, 0, none⟩ = some (.int .i64 op) := by rw [← hW4]; exact e0
    have f1 : W4.cell? ⟨D, 1, none⟩ = some (.int .i64 d) := by rw [← hW4]; exact e1
    clear hW4
    simp only [List.take_succ_cons, List.take_zero, List.drop_succ_cons, List.drop_zero]
    repeat (first | still_step | still_call (HCL.out _))
    refine wpStill_nil ?_
    go_wp2_with (go_at_call 74; refine (set_any HM4.out.1 d R d0 d1 HRI.out.1 HRI.out.2).mono ?_; rintro _ w5 ⟨rfl, hm5, hb5⟩)
    go_ret
    exact ⟨by rw [HR.out]; rfl, by rw [HR.out]; exact hm5, HM4.out.2.trans hb5⟩
  · have hop : 15 ≤ op ∧ op ≤ 20 := by have h := HS.out; unfold Rv.shapeN at h; repeat' split at h; all_goals omega
    have HR : Hid (Rv.stepO m = some (Rv.setR m d (Rv.calcM op A I))) := by
      show _ = _
      rw [HE.out]
      simp [Rv.execS, HPC.out]
    have HCL : Hid (∀ W, Calls Tryd.prog 75 #[.int .i64 (op : Nat), .int .u32 A, .int .u32 I] W fun e w' => e = .returned (.int .u32 (Rv.calcM op A I)) ∧ w' = W) := fun W => (calculate_at op (by omega) A I HR32.out.1.1 HR32.out.1.2 (by omega) (by omega) W).mono fun _ _ h => ⟨h.1, h.2.symm⟩
    have HRI : Hid (0 ≤ Rv.calcM op A I ∧ Rv.calcM op A I < 4294967296) := calcM_in op A I HR32.out.1.1 HR32.out.1.2 (by omega) (by omega)
    generalize Rv.calcM op A I = R at *
    go_wp2_with (go_at_call 37; refine (HF.out _).mono ?_; rintro _ _ ⟨rfl, rfl⟩)
    refine region_tail 8 (by kernel_rfl) (by kernel_rfl) fun W4 hW4 => ?_
    have HM4 : Hid (MS N W4 B m mv g ∧ Below N w W4) := by rw [← hW4]; exact ⟨HM3.out.1.gr ((Gr.refl _).drew), HM3.out.2.drew⟩
    have f0 : W4.cell? ⟨D, 0, none⟩ = some (.int .i64 op) := by rw [← hW4]; exact e0
    have f1 : W4.cell? ⟨D, 1, none⟩ = some (.int .i64 d) := by rw [← hW4]; exact e1
    clear hW4
    simp only [List.take_succ_cons, List.take_zero, List.drop_succ_cons, List.drop_zero]
    repeat (first | still_step | still_call (HCL.out _))
    refine wpStill_nil ?_
    go_wp2_with (go_at_call 74; refine (set_any HM4.out.1 d R d0 d1 HRI.out.1 HRI.out.2).mono ?_; rintro _ w5 ⟨rfl, hm5, hb5⟩)
    go_ret
    exact ⟨by rw [HR.out]; rfl, by rw [HR.out]; exact hm5, HM4.out.2.trans hb5⟩
  · have hop : 21 ≤ op ∧ op ≤ 23 := by have h := HS.out; unfold Rv.shapeN at h; repeat' split at h; all_goals omega
    have HR : Hid (Rv.stepO m = some (Rv.setR m d (Rv.calcM op A I))) := by
      show _ = _
      rw [HE.out]
      simp [Rv.execS, HPC.out]
    have HCL : Hid (∀ W, Calls Tryd.prog 75 #[.int .i64 (op : Nat), .int .u32 A, .int .u32 I] W fun e w' => e = .returned (.int .u32 (Rv.calcM op A I)) ∧ w' = W) := fun W => (calculate_at op (by omega) A I HR32.out.1.1 HR32.out.1.2 (by omega) (by omega) W).mono fun _ _ h => ⟨h.1, h.2.symm⟩
    have HRI : Hid (0 ≤ Rv.calcM op A I ∧ Rv.calcM op A I < 4294967296) := calcM_in op A I HR32.out.1.1 HR32.out.1.2 (by omega) (by omega)
    generalize Rv.calcM op A I = R at *
    go_wp2_with (go_at_call 37; refine (HF.out _).mono ?_; rintro _ _ ⟨rfl, rfl⟩)
    refine region_tail 8 (by kernel_rfl) (by kernel_rfl) fun W4 hW4 => ?_
    have HM4 : Hid (MS N W4 B m mv g ∧ Below N w W4) := by rw [← hW4]; exact ⟨HM3.out.1.gr ((Gr.refl _).drew), HM3.out.2.drew⟩
    have f0 : W4.cell? ⟨D, 0, none⟩ = some (.int .i64 op) := by rw [← hW4]; exact e0
    have f1 : W4.cell? ⟨D, 1, none⟩ = some (.int .i64 d) := by rw [← hW4]; exact e1
    clear hW4
    simp only [List.take_succ_cons, List.take_zero, List.drop_succ_cons, List.drop_zero]
    repeat (first | still_step | still_call (HCL.out _))
    refine wpStill_nil ?_
    go_wp2_with (go_at_call 74; refine (set_any HM4.out.1 d R d0 d1 HRI.out.1 HRI.out.2).mono ?_; rintro _ w5 ⟨rfl, hm5, hb5⟩)
    go_ret
    exact ⟨by rw [HR.out]; rfl, by rw [HR.out]; exact hm5, HM4.out.2.trans hb5⟩
  · have HR : Hid (Rv.stepO m = some (Rv.setR m d (I * 4096 % 4294967296))) := by
      show _ = _
      rw [HE.out]
      simp [Rv.execS, HPC.out]
    have HI : Hid (0 ≤ I * 4096 % 4294967296 ∧ I * 4096 % 4294967296 < 4294967296) := by show _ ∧ _; omega
    go_wp2_with (first
      | (go_at_call 37; refine (HF.out _).mono ?_; rintro _ _ ⟨rfl, rfl⟩)
      | (go_at_call 74; refine (set_any HM3.out.1 d _ d0 d1 HI.out.1 HI.out.2).mono ?_; rintro _ w5 ⟨rfl, hm5, hb5⟩))
    go_ret
    exact ⟨by rw [HR.out]; rfl, by rw [HR.out]; exact hm5, HM3.out.2.trans hb5⟩
  · have hop : 25 ≤ op ∧ op ≤ 27 := by have h := HS.out; unfold Rv.shapeN at h; repeat' split at h; all_goals omega
    have HI : Hid (0 ≤ (A + I) % 4294967296 ∧ (A + I) % 4294967296 < 4294967296) := by show _ ∧ _; omega
    have HSZ : Hid (Rv.sizeM op ≤ 4) := sizeM_le op
    have HSI := Lib.hid (fun W => size_at op (by omega) W)
    have HLD : Hid (∀ W, MS N W B m mv g → Calls Tryd.prog 73 #[.pointer (some ⟨B, 0, none⟩), .int .u32 ((A + I) % 4294967296), .int .i64 (Rv.sizeM op : Nat)] W fun e w' => e = .returned (.tuple #[.int .u32 (if m.mem.length < (((A + I) % 4294967296)).toNat + Rv.sizeM op then 0 else Rv.rd m.mem (((A + I) % 4294967296)).toNat (Rv.sizeM op)), .bool (decide (¬ m.mem.length < (((A + I) % 4294967296)).toNat + Rv.sizeM op))]) ∧ Gr W w') := fun W h4 => load_any h4 ((A + I) % 4294967296) (Rv.sizeM op) HI.out.1 HI.out.2 HSZ.out
    have HVI : Hid (0 ≤ Rv.rd m.mem ((A + I) % 4294967296).toNat (Rv.sizeM op) ∧ Rv.rd m.mem ((A + I) % 4294967296).toNat (Rv.sizeM op) < 4294967296) := rd_u32 HM.out.wf.mem _ _ HSZ.out
    by_cases hlt : m.mem.length < ((A + I) % 4294967296).toNat + Rv.sizeM op
    · have HR : Hid (Rv.stepO m = none) := by
        show _ = _
        rw [HE.out, execS_4, if_pos hlt]
      have hdf : decide (¬ m.mem.length < ((A + I) % 4294967296).toNat + Rv.sizeM op) = false := by simpa using hlt
      simp only [hdf, if_pos hlt] at HLD
      clear hlt hdf
      generalize Rv.sizeM op = sz at *
      go_wp2_with (first
        | (go_at_call 37; refine (HF.out _).mono ?_; rintro _ _ ⟨rfl, rfl⟩)
        | (go_at_call 76; refine (HSI.out _).mono ?_; rintro _ _ ⟨rfl, rfl⟩)
        | (go_at_call 73; refine (HLD.out _ HM3.out.1).mono ?_; rintro _ w5 ⟨rfl, g5⟩))
      go_ret
      exact ⟨by rw [HR.out]; rfl, by rw [HR.out]; exact HM3.out.1.gr g5, HM3.out.2.trans (HM3.out.1.below g5)⟩
    · have HR : Hid (Rv.stepO m = some (Rv.setR m d (Rv.rd m.mem ((A + I) % 4294967296).toNat (Rv.sizeM op)))) := by
        show _ = _
        rw [HE.out, execS_4, if_neg hlt]
      have hdf : decide (¬ m.mem.length < ((A + I) % 4294967296).toNat + Rv.sizeM op) = true := by simpa using hlt
      simp only [hdf, if_neg hlt] at HLD
      clear hlt hdf
      generalize Rv.rd m.mem ((A + I) % 4294967296).toNat (Rv.sizeM op) = V at *
      generalize Rv.sizeM op = sz at *
      go_wp2_with (first
        | (go_at_call 37; refine (HF.out _).mono ?_; rintro _ _ ⟨rfl, rfl⟩)
        | (go_at_call 76; refine (HSI.out _).mono ?_; rintro _ _ ⟨rfl, rfl⟩)
        | (go_at_call 73; refine (HLD.out _ HM3.out.1).mono ?_; rintro _ w5 ⟨rfl, g5⟩; have HM5 := Lib.hid (HM3.out.1.gr g5); have HB5 := Lib.hid (HM3.out.2.trans (HM3.out.1.below g5)); have j1 := KB.out.2 _ g5)
        | (go_at_call 74; refine (set_any HM5.out d _ d0 d1 HVI.out.1 HVI.out.2).mono ?_; rintro _ w6 ⟨rfl, hm6, hb6⟩))
      go_ret
      exact ⟨by rw [HR.out]; rfl, by rw [HR.out]; exact hm6, HB5.out.trans hb6⟩
  · have hop : 28 ≤ op ∧ op ≤ 30 := by have h := HS.out; unfold Rv.shapeN at h; repeat' split at h; all_goals omega
    have HI : Hid (0 ≤ (A + I) % 4294967296 ∧ (A + I) % 4294967296 < 4294967296) := by show _ ∧ _; omega
    have HSZ : Hid (Rv.sizeM op ≤ 4) := sizeM_le op
    have HSI := Lib.hid (fun W => size_at op (by omega) W)
    have HSD : Hid (∀ W, MS N W B m mv g → Calls Tryd.prog 77 #[.pointer (some ⟨B, 0, none⟩), .int .u32 ((A + I) % 4294967296), .int .i64 (Rv.sizeM op : Nat), .int .u32 Bv] W fun e w' => e = .returned (.bool (decide (¬ m.mem.length < (((A + I) % 4294967296)).toNat + Rv.sizeM op))) ∧ MS N w' B (if m.mem.length < (((A + I) % 4294967296)).toNat + Rv.sizeM op then m else { m with mem := Rv.wr m.mem (((A + I) % 4294967296)).toNat (Rv.sizeM op) Bv }) mv g ∧ Below N W w') := fun W h4 => store_any h4 ((A + I) % 4294967296) Bv (Rv.sizeM op) HI.out.1 HI.out.2 HSZ.out HR32.out.2.1 HR32.out.2.2
    by_cases hlt : m.mem.length < ((A + I) % 4294967296).toNat + Rv.sizeM op
    · have HR : Hid (Rv.stepO m = none) := by
        show _ = _
        rw [HE.out, execS_5, if_pos hlt]
      have hdf : decide (¬ m.mem.length < ((A + I) % 4294967296).toNat + Rv.sizeM op) = false := by simpa using hlt
      simp only [hdf, if_pos hlt] at HSD
      clear hlt hdf
      generalize Rv.sizeM op = sz at *
      go_wp2_with (first
        | (go_at_call 37; refine (HF.out _).mono ?_; rintro _ _ ⟨rfl, rfl⟩)
        | (go_at_call 76; refine (HSI.out _).mono ?_; rintro _ _ ⟨rfl, rfl⟩)
        | (go_at_call 77; refine (HSD.out _ HM3.out.1).mono ?_; rintro _ w5 ⟨rfl, hm5, hb5⟩))
      go_ret
      exact ⟨by rw [HR.out]; rfl, by rw [HR.out]; exact hm5, HM3.out.2.trans hb5⟩
    · have HR : Hid (Rv.stepO m = some { m with mem := Rv.wr m.mem ((A + I) % 4294967296).toNat (Rv.sizeM op) Bv, pc := (pc + 4) % 4294967296 }) := by
        show _ = _
        rw [HE.out, execS_5, if_neg hlt, HPC.out]
      have hdf : decide (¬ m.mem.length < ((A + I) % 4294967296).toNat + Rv.sizeM op) = true := by simpa using hlt
      simp only [hdf, if_neg hlt] at HSD
      clear hlt hdf
      generalize Rv.wr m.mem ((A + I) % 4294967296).toNat (Rv.sizeM op) Bv = V at *
      generalize Rv.sizeM op = sz at *
      go_wp2_with (first
        | (go_at_call 37; refine (HF.out _).mono ?_; rintro _ _ ⟨rfl, rfl⟩)
        | (go_at_call 76; refine (HSI.out _).mono ?_; rintro _ _ ⟨rfl, rfl⟩)
        | (go_at_call 77; refine (HSD.out _ HM3.out.1).mono ?_; rintro _ w5 ⟨rfl, hm5, hb5⟩; have HM5 := Lib.hid hm5; have j33 := HM5.out.row.pc; have f33 := HM5.out.row.frozen 33; simp only [HPC.out] at j33))
      go_ret
      exact ⟨by rw [HR.out]; rfl, by rw [HR.out]; exact HM5.out.setCell (HM5.out.row.setPc ((pc + 4) % 4294967296)) rfl (wf_pc HM5.out.wf _ (by omega) (by omega)), (HM3.out.2.trans hb5).setCell HM5.out.nB _⟩
  · have hop : 31 ≤ op ∧ op ≤ 36 := by have h := HS.out; unfold Rv.shapeN at h; repeat' split at h; all_goals omega
    have HR : Hid (Rv.stepO m = some { m with pc := if Rv.takenM op A Bv = true then (pc + I) % 4294967296 else (pc + 4) % 4294967296 }) := by
      show _ = _
      rw [HE.out]
      simp [Rv.execS, HPC.out]
    have HTK : Hid (∀ W, Calls Tryd.prog 78 #[.int .i64 (op : Nat), .int .u32 A, .int .u32 Bv] W fun e w' => e = .returned (.bool (Rv.takenM op A Bv)) ∧ W = w') := fun W => taken_at op (by omega) A Bv HR32.out.1.1 HR32.out.1.2 HR32.out.2.1 HR32.out.2.2 W
    have j33 := HM3.out.1.row.pc
    rw [HPC.out] at j33
    have f33 := HM3.out.1.row.frozen 33
    generalize Rv.takenM op A Bv = tk at *
    cases tk
    · go_wp2_with (first
        | (go_at_call 37; refine (HF.out _).mono ?_; rintro _ _ ⟨rfl, rfl⟩)
        | (go_at_call 78; refine (HTK.out _).mono ?_; rintro _ _ ⟨rfl, rfl⟩))
      go_ret
      exact ⟨by rw [HR.out]; rfl, by rw [HR.out]; exact HM3.out.1.setCell (HM3.out.1.row.setPc ((pc + 4) % 4294967296)) rfl (wf_pc HM3.out.1.wf _ (by omega) (by omega)), HM3.out.2.setCell HM3.out.1.nB _⟩
    · go_wp2_with (first
        | (go_at_call 37; refine (HF.out _).mono ?_; rintro _ _ ⟨rfl, rfl⟩)
        | (go_at_call 78; refine (HTK.out _).mono ?_; rintro _ _ ⟨rfl, rfl⟩))
      go_ret
      exact ⟨by rw [HR.out]; rfl, by rw [HR.out]; exact HM3.out.1.setCell (HM3.out.1.row.setPc ((pc + I) % 4294967296)) rfl (wf_pc HM3.out.1.wf _ (by omega) (by omega)), HM3.out.2.setCell HM3.out.1.nB _⟩
  · have HR : Hid (Rv.stepO m = some { Rv.setR m d ((pc + 4) % 4294967296) with pc := (pc + I) % 4294967296 }) := by
      show _ = _
      rw [HE.out]
      simp [Rv.execS, HPC.out]
    have HI : Hid (0 ≤ (pc + 4) % 4294967296 ∧ (pc + 4) % 4294967296 < 4294967296) := by show _ ∧ _; omega
    have j33 := HM3.out.1.row.pc
    rw [HPC.out] at j33
    go_wp2_with (go_at_call 37; refine (HF.out _).mono ?_; rintro _ _ ⟨rfl, rfl⟩)
    refine region_tail 9 (by kernel_rfl) (by kernel_rfl) fun W4 hW4 => ?_
    have HM4 : Hid (MS N W4 B m mv g ∧ Below N w W4) := by rw [← hW4]; exact ⟨HM3.out.1.gr ((Gr.refl _).drew), HM3.out.2.drew⟩
    have f0 : W4.cell? ⟨D, 0, none⟩ = some (.int .i64 op) := by rw [← hW4]; exact e0
    have f1 : W4.cell? ⟨D, 1, none⟩ = some (.int .i64 d) := by rw [← hW4]; exact e1
    have f33 : W4.cell? ⟨B, 33, none⟩ = some (.int .u32 pc) := by rw [← hW4]; exact j33
    clear hW4
    simp only [List.take_succ_cons, List.take_zero, List.drop_succ_cons, List.drop_zero]
    repeat still_step
    refine wpStill_nil ?_
    go_wp2_with (go_at_call 74; refine (set_any HM4.out.1 d _ d0 d1 HI.out.1 HI.out.2).mono ?_; rintro _ w5 ⟨rfl, hm5, hb5⟩; have HM5 := Lib.hid hm5; have z33 := HM5.out.row.pc; have zf := HM5.out.row.frozen 33)
    go_ret
    exact ⟨by rw [HR.out]; rfl, by rw [HR.out]; exact HM5.out.setCell (HM5.out.row.setPc ((pc + I) % 4294967296)) rfl (wf_pc HM5.out.wf _ (by omega) (by omega)), (HM4.out.2.trans hb5).setCell HM5.out.nB _⟩
  · have HR : Hid (Rv.stepO m = some { Rv.setR m d ((pc + 4) % 4294967296) with pc := (A + I) % 4294967296 / 2 * 2 }) := by
      show _ = _
      rw [HE.out]
      simp [Rv.execS, HPC.out]
    have HI : Hid (0 ≤ (pc + 4) % 4294967296 ∧ (pc + 4) % 4294967296 < 4294967296) := by show _ ∧ _; omega
    have j33 := HM3.out.1.row.pc
    rw [HPC.out] at j33
    have HAN := Lib.hid (andNot_one ((A + I) % 4294967296) (by omega) (by omega))
    go_wp2_with (go_at_call 37; refine (HF.out _).mono ?_; rintro _ _ ⟨rfl, rfl⟩)
    refine region_tail 9 (by kernel_rfl) (by kernel_rfl) fun W4 hW4 => ?_
    have HM4 : Hid (MS N W4 B m mv g ∧ Below N w W4) := by rw [← hW4]; exact ⟨HM3.out.1.gr ((Gr.refl _).drew), HM3.out.2.drew⟩
    have f0 : W4.cell? ⟨D, 0, none⟩ = some (.int .i64 op) := by rw [← hW4]; exact e0
    have f1 : W4.cell? ⟨D, 1, none⟩ = some (.int .i64 d) := by rw [← hW4]; exact e1
    have f33 : W4.cell? ⟨B, 33, none⟩ = some (.int .u32 pc) := by rw [← hW4]; exact j33
    clear hW4
    simp only [List.take_succ_cons, List.take_zero, List.drop_succ_cons, List.drop_zero]
    repeat still_step
    refine wpStill_nil ?_
    go_wp2_with (go_at_call 74; refine (set_any HM4.out.1 d _ d0 d1 HI.out.1 HI.out.2).mono ?_; rintro _ w5 ⟨rfl, hm5, hb5⟩; have HM5 := Lib.hid hm5; have z33 := HM5.out.row.pc; have zf := HM5.out.row.frozen 33)
    go_ret
    rw [HAN.out]
    exact ⟨by rw [HR.out]; rfl, by rw [HR.out]; exact HM5.out.setCell (HM5.out.row.setPc ((A + I) % 4294967296 / 2 * 2)) rfl (wf_pc HM5.out.wf _ (by omega) (by omega)), (HM4.out.2.trans hb5).setCell HM5.out.nB _⟩
  · have hop : op = 39 ∨ op = 40 := by have h := HS.out; unfold Rv.shapeN at h; repeat' split at h; all_goals omega
    have j35 := HM3.out.1.row.fin
    have f35 := HM3.out.1.row.frozen 35
    have h2 := HM3.out.1.setCell (HM3.out.1.row.setFin 2) rfl (wf_fin HM3.out.1.wf 2)
    have j35' := h2.row.fin
    have f35' := h2.row.frozen 35
    have H2 := Lib.hid h2
    clear h2
    rcases hop with rfl | rfl
    · have HR : Hid (Rv.stepO m = some { m with fin := 2 }) := by
        show _ = _
        rw [HE.out]
        simp [Rv.execS]
      go_wp2_with (go_at_call 37; refine (HF.out _).mono ?_; rintro _ _ ⟨rfl, rfl⟩)
      go_ret
      exact ⟨by rw [HR.out]; rfl, by rw [HR.out]; exact H2.out, HM3.out.2.setCell HM3.out.1.nB _⟩
    · have HR : Hid (Rv.stepO m = some { m with fin := 1 }) := by
        show _ = _
        rw [HE.out]
        simp [Rv.execS]
      go_wp2_with (go_at_call 37; refine (HF.out _).mono ?_; rintro _ _ ⟨rfl, rfl⟩)
      go_ret
      exact ⟨by rw [HR.out]; rfl, by rw [HR.out]; exact H2.out.setCell (H2.out.row.setFin 1) rfl (wf_fin H2.out.wf 1), (HM3.out.2.setCell HM3.out.1.nB _).setCell HM3.out.1.nB _⟩
theorem step_any {N : Nat} {w : World} {B g : Nat} {m : Mach} {mv : Value} (h : MS N w B m mv g) :
    Calls Tryd.prog 52 #[.pointer (some ⟨B, 0, none⟩)] w (StepRet N w B m mv g) := by
  rcases Decidable.em (m.mem.length < m.pc.toNat + 4 ∨ m.pc % 4 ≠ 0) with hf | hf
  · exact step_fetch h hf
  · cases hd : Rv.decode (Rv.rd m.mem m.pc.toNat 4) with
    | none => exact step_none h hf hd
    | some x => exact step_some h hf x hd
end Go.Proofs.YthiaaagoccpkcaaDoor

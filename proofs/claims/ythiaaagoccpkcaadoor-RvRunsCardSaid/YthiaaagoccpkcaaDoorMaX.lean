/- Step of the document. -/
import Derived.Test.YthiaaagoccpkcaaDoorMaW
namespace Go.Proofs.YthiaaagoccpkcaaDoor
set_option linter.unusedSimpArgs false
set_option linter.unusedVariables false
open Go.RowKit

theorem asked_at {w : World} {m : Mach} {mv : Value} (hv : BytesAt w mv m.mem) (hw : Rv.WfM m) (ea : Int) (he : (if 32768 < m.mem.length ∨ m.regs.getD 0 0 ≠ 0 then (1 : Int) else 0) = ea) (w1 : World) :
    Calls Tryd.prog 53 #[.agg (machL m mv).toArray] w1 fun e w' => e = .returned (.int .i64 ea) ∧ Gr w1 w' := by
  obtain ⟨-, A, c, rfl, -, -, h3, -⟩ := hv
  rw [← he]
  exact asked_any hw h3
/-- The worlds of the first statements. -/
theorem step_front {w : World} {m : Mach} {mv : Value} (hw : Rv.WfM m) :
    ∃ W W1, w.alloc (.cells (machL m mv).toArray 45) = W ∧ W.alloc (.cells (machL Mach.zero (.slice none 0 0)).toArray 45) = W1 ∧ Hid (MRow W1 w.heap.size 45 m mv []) ∧
      Hid (W1.heap[W.heap.size]? = some (.cells (machL Mach.zero (.slice none 0 0)).toArray 45 (0, 0))) ∧ Hid (Gr w W1) ∧ Hid (W.heap.size = w.heap.size + 1 ∧ W1.heap.size = w.heap.size + 2) := by
  obtain ⟨W, hW⟩ : ∃ W, w.alloc (.cells (machL m mv).toArray 45) = W := ⟨_, rfl⟩
  obtain ⟨W1, hW1⟩ : ∃ W1, W.alloc (.cells (machL Mach.zero (.slice none 0 0)).toArray 45) = W1 := ⟨_, rfl⟩
  have hr : MRow W w.heap.size 45 m mv [] := by rw [← hW]; exact MRow.new0 hw.regs w _ mv
  have g1 : Gr W W1 := by rw [← hW1]; exact (Gr.refl W).alloc _
  have g0 : Gr w W := by rw [← hW]; exact (Gr.refl w).alloc _
  exact ⟨W, W1, hW, hW1, Lib.hid (hr.gr g1), Lib.hid (by rw [← hW1]; exact heap_alloc_new W _), Lib.hid (g0.trans g1), Lib.hid ⟨by rw [← hW]; simp, by rw [← hW1, ← hW]; simp⟩⟩
theorem zero_end {w W : World} {B2 : Nat} (h2 : W.heap[B2]? = some (.cells (machL Mach.zero (.slice none 0 0)).toArray 45 (0, 0))) (hg : Gr w W) (hB : w.heap.size ≤ B2) (err : Int) :
    MRow (W.setRow B2 (machL Mach.zero (.slice none 0 0)).toArray) B2 45 Mach.zero (.slice none 0 0) [] ∧
      MachRet w Mach.zero err (.returned (.tuple #[.agg (machL Mach.zero (.slice none 0 0)).toArray, .int .i64 err])) (W.setRow B2 (machL Mach.zero (.slice none 0 0)).toArray) := by
  have := MRow.setRow (m := Mach.zero) (by rfl) h2 (.slice none 0 0) []
  rw [List.append_nil] at this
  exact ⟨this, _, rfl, Own1.nil _ _ _, hg.setRow hB _⟩
set_option maxRecDepth 100000 in
set_option maxHeartbeats 8000000 in
theorem rStep_err {w : World} {m : Mach} {mv : Value} (hv : BytesAt w mv m.mem) (hw : Rv.WfM m) (he : Rv.errM m 0 ≠ 0) :
    Calls Tryd.prog 25 #[.agg (machL m mv).toArray] w (MachRet w Mach.zero (Rv.errM m 0)) := by
  obtain ⟨W, W1, hW, hW1, HR, HZ, HG, HZS⟩ := step_front (w := w) (mv := mv) hw
  rw [zeroM_eq] at hW1
  have k35 := HR.out.fin
  by_cases h1 : 32768 < m.mem.length ∨ m.regs.getD 0 0 ≠ 0
  · have e1 : Rv.errM m 0 = 1 := by
      unfold Rv.errM
      rw [if_pos (by rcases h1 with h | h; exact .inl h; exact .inr (.inl h))]
    rw [e1]
    have HAS := Lib.hid (asked_at hv hw 1 (by rw [if_pos h1]))
    clear hv hw he h1 e1 k35
    go_enter Tryd.func25, Tryd.ntmps25
    go_wp2_with (first
      | (refine wpList_loadM2 rfl (.tmp 1) rfl w.heap.size (by simp [Act.eval]) HR.out ?_)
      | (go_at_call 53; refine (HAS.out _).mono ?_; rintro _ w2 ⟨rfl, g2⟩; have HZ2 : Hid (w2.heap[W.heap.size]? = some (.cells (machL Mach.zero (.slice none 0 0)).toArray 45 (0, 0))) := (g2.heap _ (by have := HZS.out; omega)).trans HZ.out)
      | (refine wpList_store_row rfl 45 (.tmp 2) (.tmp 9) rfl W.heap.size (machL Mach.zero (.slice none 0 0)).toArray (by simp [Act.eval]) (by simp [Act.eval, zeroM_eq]) 45 (machL Mach.zero (.slice none 0 0)).toArray HZ2.out zeroM_size rfl zeroM_one ?_))
    obtain ⟨q1, q2⟩ := zero_end HZ2.out (HG.out.trans g2) (by have := HZS.out; omega) 1
    refine bodyPost_ret (results_mach rfl _ _ W.heap.size 45 Mach.zero (.slice none 0 0) (by simp [Act.put]) q1) rfl ?_
    exact q2
  · have h9 : m.fin ≠ 0 := by
      intro h
      apply he
      unfold Rv.errM
      rw [if_neg (by omega), if_neg (by omega)]
    have e1 : Rv.errM m 0 = 9 := by
      unfold Rv.errM
      rw [if_neg (by omega), if_pos h9]
    rw [e1]
    have HAS := Lib.hid (asked_at hv hw 0 (by rw [if_neg h1]))
    have HK : Hid (∀ w1, Gr W1 w1 → w1.cell? ⟨w.heap.size, 35, none⟩ = some (.int .i64 m.fin)) := fun w1 g => (HR.out.gr g).fin
    have c1 : (m.fin != 0) = true := by simpa using h9
    generalize m.fin = fi at *
    clear hv hw he h1 e1 k35 h9
    go_enter Tryd.func25, Tryd.ntmps25
    go_wp2_with (first
      | (refine wpList_loadM2 rfl (.tmp 1) rfl w.heap.size (by simp [Act.eval]) HR.out ?_)
      | (go_at_call 53; refine (HAS.out _).mono ?_; rintro _ w2 ⟨rfl, g2⟩; have k2 := HK.out _ g2; have HZ2 : Hid (w2.heap[W.heap.size]? = some (.cells (machL Mach.zero (.slice none 0 0)).toArray 45 (0, 0))) := (g2.heap _ (by have := HZS.out; omega)).trans HZ.out)
      | (refine wpList_store_row rfl 45 (.tmp 2) (.tmp 14) rfl W.heap.size (machL Mach.zero (.slice none 0 0)).toArray (by simp [Act.eval]) (by simp [Act.eval, zeroM_eq]) 45 (machL Mach.zero (.slice none 0 0)).toArray HZ2.out zeroM_size rfl zeroM_one ?_))
    obtain ⟨q1, q2⟩ := zero_end HZ2.out (HG.out.trans g2) (by have := HZS.out; omega) 9
    refine bodyPost_ret (results_mach rfl _ _ W.heap.size 45 Mach.zero (.slice none 0 0) (by simp [Act.put]) q1) rfl ?_
    exact q2
/-- The machine with a memory of its own. -/
structure RO (w W : World) (B1 B2 N : Nat) (m : Mach) (mv : Value) : Prop where
  r1 : MRow W B1 45 m mv []
  r2 : W.heap[B2]? = some (.cells (machL Mach.zero (.slice none 0 0)).toArray 45 (0, 0))
  mem : Own1 N 5 W mv (m.mem.map (Value.int .u8))
  gr : Gr w W
  n0 : w.heap.size ≤ B1
  n1 : B1 < B2
  n2 : B2 < N
  nW : N ≤ W.heap.size
set_option maxRecDepth 100000 in
set_option maxHeartbeats 8000000 in
theorem rStep_ok {w : World} {m : Mach} {mv : Value} (hv : BytesAt w mv m.mem) (hw : Rv.WfM m) (he : Rv.errM m 0 = 0) :
    Calls Tryd.prog 25 #[.agg (machL m mv).toArray] w (MachRet w (Rv.stepM m) 0) := by
  obtain ⟨A, c, hmv⟩ : ∃ A c, mv = .slice A m.mem.length c := by
    obtain ⟨-, A, c, e, -⟩ := hv
    exact ⟨A, c, e⟩
  subst hmv
  obtain ⟨W, W1, hW, hW1, HR, HZ, HG, HZS⟩ := step_front (w := w) (mv := .slice A m.mem.length c) hw
  rw [zeroM_eq] at hW1
  obtain ⟨h0, hlen, h9⟩ : m.regs.getD 0 0 = 0 ∧ m.mem.length ≤ 32768 ∧ m.fin = 0 := by
    unfold Rv.errM at he
    split at he
    · cases he
    · split at he
      · cases he
      · omega
  have HAS := Lib.hid (asked_at hv hw 0 (by rw [if_neg (by omega)]))
  have HK : Hid (∀ w1, Gr W1 w1 → w1.cell? ⟨w.heap.size, 35, none⟩ = some (.int .i64 0) ∧ w1.cell? ⟨w.heap.size, 34, none⟩ = some (.slice A m.mem.length c) ∧ w1.frozen? ⟨w.heap.size, 34, none⟩ = false) := fun w1 g => ⟨by rw [← h9]; exact (HR.out.gr g).fin, (HR.out.gr g).mem, (HR.out.gr g).frozen 34⟩
  have HV := Lib.hid hv
  have HW := Lib.hid hw
  have H0 := Lib.hid h0
  have HL := Lib.hid hlen
  have HLR := Lib.hid hw.regs
  have HLS : Hid ((Rv.stepM m).regs.length = 32) := stepM_len hw
  clear hv hw he h0 h9 hlen
  go_enter Tryd.func25, Tryd.ntmps25
  go_wp2_with (first
    | (refine wpList_loadM2 rfl (.tmp 1) rfl w.heap.size (by simp [Act.eval]) HR.out ?_)
    | (go_at_call 53; refine (HAS.out _).mono ?_; rintro _ w2 ⟨rfl, g2⟩; have k2 := HK.out _ g2; obtain ⟨k35, k34, f34⟩ := k2; have a34 : ∀ o, (w2.alloc o).cell? ⟨w.heap.size, 34, none⟩ = some (.slice A m.mem.length c) := fun o => (HK.out _ (g2.alloc o)).2.1; have HG2 := Lib.hid g2; clear g2)
    | (at_builtin; refine appB rfl _ _ rfl (by simp [Act.eval]) rfl (HV.out.gr (HG.out.trans HG2.out)) (by have := HL.out; omega) ?_; intro A' c' w3 hown hg; have HO := Lib.hid hown; have HG3 := Lib.hid hg; obtain ⟨j35, j34, e34⟩ := HK.out _ (HG2.out.trans hg); obtain ⟨W4, hW4⟩ : ∃ W4, w3.setCell ⟨w.heap.size, 34, none⟩ (.slice A' m.mem.length c') = W4 := ⟨_, rfl⟩; have HRO : Hid (RO w W4 w.heap.size W.heap.size w2.heap.size m (.slice A' m.mem.length c')) := Lib.hid (by { have s2 := HG2.out.size; have s3 := hg.size; have s0 := HZS.out; rw [← hW4]; exact ⟨((HR.out.gr (HG2.out.trans hg))).setMem _, (Below.heap_setCell w3 ⟨w.heap.size, 34, none⟩ _ W.heap.size (fun e => by { have e' : W.heap.size = w.heap.size := e; omega })).trans (((HG2.out.trans hg).heap _ (by omega)).trans HZ.out), hown.setOther (fun e => by { have := (own_block_lt hown _ e).1; have e' : w2.heap.size ≤ w.heap.size := this; omega }) _, (HG.out.trans (HG2.out.trans hg)).setCell (p := ⟨w.heap.size, 34, none⟩) (Nat.le_refl _) _, Nat.le_refl _, by omega, by omega, by { have : w2.heap.size ≤ w3.heap.size := s3; simpa using this }⟩ }); clear hown hg k35 k34 f34)
    | (refine wpList_loadM2 rfl (.tmp 1) rfl w.heap.size (by simp [Act.eval]) HRO.out.r1 ?_)
    | (go_at_call 54; refine (rstep_any HRO.out.mem HRO.out.nW HW.out H0.out HL.out).mono ?_; rintro _ w5 ⟨rfl, ho5, hb5⟩; have HO5 := Lib.hid ho5; have HB5 := Lib.hid hb5; have HZ5 : Hid (w5.heap[W.heap.size]? = some (.cells (machL Mach.zero (.slice none 0 0)).toArray 45 (0, 0))) := (hb5.block _ HRO.out.n2).trans HRO.out.r2; clear ho5 hb5)
    | (refine wpList_store_row rfl 45 (.tmp 2) (.tmp 21) rfl W.heap.size (machL (Rv.stepM m) (.slice A' m.mem.length c')).toArray (by simp [Act.eval, Act.put]) (by simp [Act.eval, Act.put]) 45 (machL Mach.zero (.slice none 0 0)).toArray HZ5.out (by rw [infoM]; simp [machL, HLS.out]) (by simp [machL, Mach.zero, HLS.out]) (machL_one _ rfl) ?_))
  refine bodyPost_ret (results_mach rfl _ _ W.heap.size 45 (Rv.stepM m) (.slice A' m.mem.length c') (by simp [Act.put]) ?_) rfl ?_
  · have := MRow.setRow (m := Rv.stepM m) HLS.out HZ5.out (.slice A' m.mem.length c') []
    rw [List.append_nil] at this
    exact this
  · exact ⟨_, rfl, own_base (HO5.out.rowOther HRO.out.n2 _) (by have := HRO.out.n0; have := HRO.out.n1; have := HRO.out.n2; omega), (Gr.below HRO.out.gr HB5.out (by have := HRO.out.n0; have := HRO.out.n1; have := HRO.out.n2; omega)).setRow (by have := HRO.out.n0; have := HRO.out.n1; omega) _⟩
theorem rStep_any {w : World} {m : Mach} {mv : Value} (hv : BytesAt w mv m.mem) (hw : Rv.WfM m) :
    Calls Tryd.prog 25 #[.agg (machL m mv).toArray] w (MachRet w (if Rv.errM m 0 = 0 then Rv.stepM m else Mach.zero) (Rv.errM m 0)) := by
  by_cases he : Rv.errM m 0 = 0
  · rw [if_pos he, he]; exact rStep_ok hv hw he
  · rw [if_neg he]; exact rStep_err hv hw he
end Go.Proofs.YthiaaagoccpkcaaDoor

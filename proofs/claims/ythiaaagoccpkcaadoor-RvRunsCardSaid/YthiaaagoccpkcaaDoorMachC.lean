/- What a step leaves; RvZeros. -/
import Derived.Test.YthiaaagoccpkcaaDoorMachA
import Derived.Test.YthiaaagoccpkcaaDoorDec
import Derived.Test.YthiaaagoccpkcaaDoorMaI
import Derived.Test.YthiaaagoccpkcaaDoorMachB
import Derived.Test.YthiaaagoccpkcaaDoorRvZc
import Derived.Lib.SlicesS
import Derived.Deep.QuietTactic
import Derived.BigQuiet
import Derived.IntWalk

namespace Go.Proofs.YthiaaagoccpkcaaDoor
set_option linter.unusedSimpArgs false
set_option linter.unusedVariables false

namespace Rv
theorem setR_keeps (m : Mach) (d n : Int) : (setR m d n).flags = m.flags ∧ (setR m d n).mem = m.mem ∧ (setR m d n).regs.getD 0 0 = m.regs.getD 0 0 := by
  refine ⟨rfl, rfl, ?_⟩
  unfold setR
  dsimp only
  split
  · have h : d.toNat ≠ 0 := by omega
    rw [List.getD_eq_getElem?_getD, List.getD_eq_getElem?_getD, List.getElem?_set_ne h]
  · rfl
/-- What stays: the flags, the register 0, the memory but for a store. -/
def Keeps (m m' : Mach) (s : Int) : Prop := m'.flags = m.flags ∧ m'.regs.getD 0 0 = m.regs.getD 0 0 ∧ m'.mem.length = m.mem.length ∧ (s ≠ 5 → m'.mem = m.mem) ∧ (s = 5 → m'.regs = m.regs)
theorem keeps_set (m : Mach) (d n : Int) (s : Int) (h : s ≠ 5) : Keeps m (setR m d n) s := by
  obtain ⟨h1, h2, h3⟩ := setR_keeps m d n
  exact ⟨h1, h3, by rw [h2], fun _ => h2, fun e => absurd e h⟩
theorem execS_keeps (m m' : Mach) (s : Int) (o : Nat) (d a b n : Int) (h : execS m s o d a b n = some m') : Keeps m m' s := by
  unfold execS at h
  by_cases h0 : s = 0
  · rw [if_pos h0] at h; cases h; exact keeps_set _ _ _ _ (by omega)
  rw [if_neg h0] at h
  by_cases h1 : s = 1 ∨ s = 2
  · rw [if_pos h1] at h; cases h; exact keeps_set _ _ _ _ (by omega)
  rw [if_neg h1] at h
  by_cases h3 : s = 3
  · rw [if_pos h3] at h; cases h; exact keeps_set _ _ _ _ (by omega)
  rw [if_neg h3] at h
  by_cases h4 : s = 4
  · rw [if_pos h4] at h
    split at h
    · cases h
    · cases h; exact keeps_set _ _ _ _ (by omega)
  rw [if_neg h4] at h
  by_cases h5 : s = 5
  · rw [if_pos h5] at h
    split at h
    · cases h
    · cases h; exact ⟨rfl, rfl, wr_len _ _ _ _, fun e => absurd h5 e, fun _ => rfl⟩
  rw [if_neg h5] at h
  by_cases h6 : s = 6
  · rw [if_pos h6] at h; cases h; exact ⟨rfl, rfl, rfl, fun _ => rfl, fun e => absurd e h5⟩
  rw [if_neg h6] at h
  by_cases h7 : s = 7
  · rw [if_pos h7] at h; cases h
    obtain ⟨q1, q2, q3⟩ := setR_keeps m d ((m.pc + 4) % 4294967296)
    exact ⟨q1, q3, by rw [show m.mem.length = m.mem.length from rfl]; exact congrArg List.length q2, fun _ => q2, fun e => absurd e h5⟩
  rw [if_neg h7] at h
  by_cases h8 : s = 8
  · rw [if_pos h8] at h; cases h
    obtain ⟨q1, q2, q3⟩ := setR_keeps m d ((m.pc + 4) % 4294967296)
    exact ⟨q1, q3, congrArg List.length q2, fun _ => q2, fun e => absurd e h5⟩
  rw [if_neg h8] at h
  cases h
  exact ⟨rfl, rfl, rfl, fun _ => rfl, fun e => absurd e h5⟩
/-- A step leaves the flags, the register 0 and the memory's length; where it turns the memory it is a store. -/
theorem stepM_keeps (m : Mach) : (stepM m).flags = m.flags ∧ (stepM m).regs.getD 0 0 = m.regs.getD 0 0 ∧ (stepM m).mem.length = m.mem.length ∧
    ((stepM m).mem = m.mem ∨ ¬ m.mem.length < m.pc.toNat + 4 ∧ ∃ x, decode (rd m.mem m.pc.toNat 4) = some x ∧ shapeN x.op.toNat = 5 ∧ (stepM m).regs = m.regs) := by
  cases hs : stepO m with
  | none =>
    have e : stepM m = { m with fin := 3 } := by unfold stepM; rw [hs]
    rw [e]
    exact ⟨rfl, rfl, rfl, .inl rfl⟩
  | some m' =>
    have e : stepM m = m' := by unfold stepM; rw [hs]
    rw [e]
    unfold stepO at hs
    split at hs
    · cases hs
    next hf =>
      cases hd : decode (rd m.mem m.pc.toNat 4) with
      | none => rw [hd] at hs; cases hs
      | some x =>
        rw [hd] at hs
        obtain ⟨q1, q2, q3, q4, q5⟩ := execS_keeps _ _ _ _ _ _ _ _ hs
        refine ⟨q1, q2, q3, ?_⟩
        by_cases h5 : shapeN x.op.toNat = 5
        · exact .inr ⟨fun h => hf (.inl h), x, rfl, h5, q5 h5⟩
        · exact .inl (q4 h5)
end Rv
end Go.Proofs.YthiaaagoccpkcaaDoor

namespace Go.Proofs.YthiaaagoccpkcaaDoor
set_option linter.unusedSimpArgs false
set_option linter.unusedVariables false

theorem reg_in' {m : Mach} (h : Rv.WfM m) (i : Int) : 0 ≤ Rv.reg m i ∧ Rv.reg m i < 4294967296 := by
  unfold Rv.reg
  rcases Nat.lt_or_ge i.toNat 32 with hi | hi
  · exact reg_in h _ hi
  · rw [List.getD_eq_getElem?_getD, List.getElem?_eq_none (by rw [h.regs]; exact hi)]
    decide
theorem execS_wf {m m' : Mach} (hm : Rv.WfM m) {s : Int} {o : Nat} {d a b n : Int} (a0 : 0 ≤ a ∧ a < 4294967296) (b0 : 0 ≤ b ∧ b < 4294967296) (n0 : 0 ≤ n ∧ n < 4294967296) (h : Rv.execS m s o d a b n = some m') : Rv.WfM m' := by
  unfold Rv.execS at h
  have hc := calcM_in o a b a0.1 a0.2 b0.1 b0.2
  have hn := calcM_in o a n a0.1 a0.2 n0.1 n0.2
  have hp : 0 ≤ (m.pc + 4) % 4294967296 ∧ (m.pc + 4) % 4294967296 < 4294967296 := by omega
  by_cases h0 : s = 0
  · rw [if_pos h0] at h; cases h; exact wf_setR hm _ _ hc.1 hc.2
  rw [if_neg h0] at h
  by_cases h1 : s = 1 ∨ s = 2
  · rw [if_pos h1] at h; cases h; exact wf_setR hm _ _ hn.1 hn.2
  rw [if_neg h1] at h
  by_cases h3 : s = 3
  · rw [if_pos h3] at h; cases h; exact wf_setR hm _ _ (by omega) (by omega)
  rw [if_neg h3] at h
  by_cases h4 : s = 4
  · rw [if_pos h4] at h
    split at h
    · cases h
    · cases h
      have hr := rd_u32 hm.mem ((a + n) % 4294967296).toNat (Rv.sizeM o) (sizeM_le o)
      exact wf_setR hm _ _ hr.1 hr.2
  rw [if_neg h4] at h
  by_cases h5 : s = 5
  · rw [if_pos h5] at h
    split at h
    · cases h
    · cases h; exact wf_pc (wf_mem hm _ (Rv.wr_bytes _ _ _ _ hm.mem)) _ hp.1 hp.2
  rw [if_neg h5] at h
  by_cases h6 : s = 6
  · rw [if_pos h6] at h; cases h
    refine wf_pc hm _ ?_ ?_ <;> split <;> omega
  rw [if_neg h6] at h
  by_cases h7 : s = 7
  · rw [if_pos h7] at h; cases h
    exact wf_pc (wf_setR hm d _ hp.1 hp.2) _ (by omega) (by omega)
  rw [if_neg h7] at h
  by_cases h8 : s = 8
  · rw [if_pos h8] at h; cases h
    exact wf_pc (wf_setR hm d _ hp.1 hp.2) _ (by omega) (by omega)
  rw [if_neg h8] at h
  cases h
  exact wf_fin hm _
theorem stepM_wf {m : Mach} (hw : Rv.WfM m) : Rv.WfM (Rv.stepM m) := by
  cases hs : Rv.stepO m with
  | none =>
    have e : Rv.stepM m = { m with fin := 3 } := by unfold Rv.stepM; rw [hs]
    rw [e]; exact wf_fin hw _
  | some m' =>
    have e : Rv.stepM m = m' := by unfold Rv.stepM; rw [hs]
    rw [e]
    unfold Rv.stepO at hs
    split at hs
    · cases hs
    · cases hd : Rv.decode (Rv.rd m.mem m.pc.toNat 4) with
      | none => rw [hd] at hs; cases hs
      | some x =>
        rw [hd] at hs
        exact execS_wf hw (reg_in' hw _) (reg_in' hw _) (by omega) hs
end Go.Proofs.YthiaaagoccpkcaaDoor

namespace Go.Proofs.YthiaaagoccpkcaaDoor
set_option linter.unusedSimpArgs false
set_option linter.unusedVariables false
open Go.RowKit

set_option maxRecDepth 100000 in
set_option maxHeartbeats 8000000 in
theorem rvZeros_long (m : Mach) (mv : Value) (w : World) (hv : BytesAt w mv m.mem) (hw : Rv.WfM m) (ht : Tabs w) (hlong : 40000 < m.mem.length) :
    Calls Tryd.prog 8 #[.agg (machL m mv).toArray] w fun e w' => e = .returned (.bool true) ∧ Gr w w' := by
  have HKN : Hid (∀ w1, Gr w w1 → Calls Tryd.prog 17 #[] w1 fun e w' => e = .returned (.bool true) ∧ Gr w1 w') := fun w1 g => known_any w1 (ht.gr g)
  obtain ⟨W, hW⟩ : ∃ W, w.alloc (.cells (machL m mv).toArray 45) = W := ⟨_, rfl⟩
  have hr : MRow W w.heap.size 45 m mv [] := by rw [← hW]; exact MRow.new0 hw.regs w _ mv
  have HG : Hid (Gr w W) := by rw [← hW]; exact (Gr.refl w).alloc _
  have k34 := hr.mem
  obtain ⟨A, c, hmv⟩ : ∃ A c, mv = .slice A m.mem.length c := by
    obtain ⟨-, A, c, e, -⟩ := hv
    exact ⟨A, c, e⟩
  rw [hmv] at k34
  generalize m.mem.length = l at *
  have c1 : decide ((40000 : Int) < (l : Int)) = true := by rw [decide_eq_true_iff]; omega
  clear hmv hr hv hw ht hlong
  go_enter Tryd.func8, Tryd.ntmps8
  go_wp2_with (go_at_call 17; refine (HKN.out _ HG.out).mono ?_; rintro e w1 ⟨rfl, g1⟩)
  go_ret
  exact ⟨rfl, HG.out.trans g1⟩
set_option maxRecDepth 100000 in
set_option maxHeartbeats 8000000 in
theorem rvZeros_err (m : Mach) (mv : Value) (w : World) (hv : BytesAt w mv m.mem) (hw : Rv.WfM m) (ht : Tabs w) (hlong : ¬ 40000 < m.mem.length) (he : Rv.errM m 0 ≠ 0) :
    Calls Tryd.prog 8 #[.agg (machL m mv).toArray] w fun e w' => e = .returned (.bool true) ∧ Gr w w' := by
  have HKN : Hid (∀ w1, Gr w w1 → Calls Tryd.prog 17 #[] w1 fun e w' => e = .returned (.bool true) ∧ Gr w1 w') := fun w1 g => known_any w1 (ht.gr g)
  obtain ⟨W, hW⟩ : ∃ W, w.alloc (.cells (machL m mv).toArray 45) = W := ⟨_, rfl⟩
  have hr : MRow W w.heap.size 45 m mv [] := by rw [← hW]; exact MRow.new0 hw.regs w _ mv
  have HR := Lib.hid hr
  have HG : Hid (Gr w W) := by rw [← hW]; exact (Gr.refl w).alloc _
  have HST : Hid (Calls Tryd.prog 24 #[.agg (machL m mv).toArray] W (MachRet W Mach.zero (Rv.errM m 0))) := by
    have := pStep_any (hv.gr HG.out) hw
    rw [if_neg he] at this
    exact this
  have k34 := hr.mem
  obtain ⟨A, c, hmv⟩ : ∃ A c, mv = .slice A m.mem.length c := by
    obtain ⟨-, A, c, e, -⟩ := hv
    exact ⟨A, c, e⟩
  rw [hmv] at k34
  have c2 : (Rv.errM m 0 != 0) = true := by simpa using he
  generalize Rv.errM m 0 = er at *
  obtain ⟨l, hl⟩ : ∃ l, m.mem.length = l := ⟨_, rfl⟩
  rw [hl] at k34 hlong
  have c1 : decide ((40000 : Int) < (l : Int)) = false := by rw [decide_eq_false_iff_not]; omega
  clear hmv hr hv hw ht hlong he hl
  go_enter Tryd.func8, Tryd.ntmps8
  go_wp2_with (first
    | (refine wpList_loadM2 rfl (.tmp 1) rfl w.heap.size (by simp [Act.eval]) HR.out ?_)
    | (go_at_call 24; refine HST.out.mono ?_; rintro e w1 ⟨u, rfl, ho1, g1⟩; have HG1 := Lib.hid (HG.out.trans g1); clear g1)
    | (refine wpList_store_row rfl 45 (.tmp 3) (.tmp 16) rfl w1.heap.size (machL Mach.zero u).toArray (by simp [Act.eval]) (by simp [Act.eval]) 45 (machL Mach.zero (.slice none 0 0)).toArray (heap_alloc_new w1 _) (by rw [infoM]; simp [machL, Mach.zero]) (by simp [machL, Mach.zero]) (machL_one _ ho1.slice1) ?_)
    | (go_at_call 17; refine (HKN.out _ ((HG1.out.alloc _).setRow HG1.out.size _)).mono ?_; rintro e w2 ⟨rfl, g2⟩))
  go_ret
  exact ⟨rfl, ((HG1.out.alloc _).setRow HG1.out.size _).trans g2⟩
end Go.Proofs.YthiaaagoccpkcaaDoor

namespace Go.Proofs.YthiaaagoccpkcaaDoor
set_option linter.unusedSimpArgs false
set_option linter.unusedVariables false
open Go.RowKit

theorem wpList_wanted {P : Program} {ops : Array Oper} {rest : List Oper} {o : Oper} {a : Act} {w : World} {Q : Exit → Act → World → Prop} (hw : Region.wanted o (yielded ops a.tmps) = true)
    (h : ∀ K : Act → World → Prop, (∀ a w, wpList P ops Q rest a w → K a w) → o.wp P a w K Q) : wpList P ops Q (o :: rest) a w := by
  unfold wpList
  rw [if_pos hw]
  exact .inl (h _ fun _ _ h => h)
theorem wpList_loadR {ops : Array Oper} {rest : List Oper} {o : Oper} {a : Act} {w : World} {Q : Exit → Act → World → Prop} (hw : Region.wanted o (yielded ops a.tmps) = true) (x : Operand) (ho : o.op = .load 43 x)
    (B : Nat) (hx : a.eval x = .pointer (some ⟨B, 0, none⟩)) {t : TypeId} {m : Mach} {mv : Value} {tail : List Value} (hr : MRow w B t m mv tail)
    (h : wpList Tryd.prog ops Q rest (a.put o.dst (.agg (m.regs.map (Value.int .u32)).toArray)) w) : wpList Tryd.prog ops Q (o :: rest) a w :=
  wpList_wanted hw fun K hK => by
    unfold Oper.wp execOp
    simp only [ho, hx, Instr.loadAt, Instr.sureAddr, Sem.run_bind, Sem.run_pure, Result.andThen_ok, loadR hr]
    exact hK _ _ h
end Go.Proofs.YthiaaagoccpkcaaDoor

namespace Go.Proofs.YthiaaagoccpkcaaDoor
set_option linter.unusedSimpArgs false
set_option linter.unusedVariables false
open Go.RowKit

theorem execS_len {m m' : Mach} (hm : m.regs.length = 32) {s : Int} {o : Nat} {d a b n : Int} (h : Rv.execS m s o d a b n = some m') : m'.regs.length = 32 := by
  have hs : ∀ (r n : Int), (Rv.setR m r n).regs.length = 32 := by
    intro r n
    unfold Rv.setR; dsimp only; split <;> simp [hm]
  unfold Rv.execS at h
  repeat' split at h
  all_goals first
    | (cases h; exact hs _ _)
    | (cases h; exact hm)
    | (cases h; done)
theorem stepM_len {m : Mach} (hw : Rv.WfM m) : (Rv.stepM m).regs.length = 32 := by
  cases hs : Rv.stepO m with
  | none =>
    have e : Rv.stepM m = { m with fin := 3 } := by unfold Rv.stepM; rw [hs]
    rw [e]; exact hw.regs
  | some m' =>
    have e : Rv.stepM m = m' := by unfold Rv.stepM; rw [hs]
    rw [e]
    unfold Rv.stepO at hs
    split at hs
    · cases hs
    · cases hd : Rv.decode (Rv.rd m.mem m.pc.toNat 4) with
      | none => rw [hd] at hs; cases hs
      | some x => rw [hd] at hs; exact execS_len hw.regs hs
set_option maxRecDepth 100000 in
set_option maxHeartbeats 8000000 in
theorem rvZeros_same (m : Mach) (mv : Value) (w : World) (hv : BytesAt w mv m.mem) (hw : Rv.WfM m) (ht : Tabs w) (he : Rv.errM m 0 = 0) (h0 : m.regs.getD 0 0 = 0) (hlen : m.mem.length ≤ 32768) (hmem : (Rv.stepM m).mem = m.mem) :
    Calls Tryd.prog 8 #[.agg (machL m mv).toArray] w fun e w' => e = .returned (.bool true) ∧ Gr w w' := by
  have HKN : Hid (∀ w1, Gr w w1 → Calls Tryd.prog 17 #[] w1 fun e w' => e = .returned (.bool true) ∧ Gr w1 w') := fun w1 g => known_any w1 (ht.gr g)
  obtain ⟨W, hW⟩ : ∃ W, w.alloc (.cells (machL m mv).toArray 45) = W := ⟨_, rfl⟩
  have hr : MRow W w.heap.size 45 m mv [] := by rw [← hW]; exact MRow.new0 hw.regs w _ mv
  have HR := Lib.hid hr
  have HG : Hid (Gr w W) := by rw [← hW]; exact (Gr.refl w).alloc _
  have HV := Lib.hid hv
  obtain ⟨q1, q2, q3, -⟩ := Rv.stepM_keeps m
  have HST : Hid (Calls Tryd.prog 24 #[.agg (machL m mv).toArray] W (MachRet W (Rv.stepM m) 0)) := by
    have := pStep_any (hv.gr HG.out) hw
    rw [if_pos he, he] at this
    exact this
  have k34 := hr.mem
  have k32 := hr.flags
  obtain ⟨A, c, hmv⟩ : ∃ A c, mv = .slice A m.mem.length c := by
    obtain ⟨-, A, c, e, -⟩ := hv
    exact ⟨A, c, e⟩
  rw [hmv] at k34
  have HMV := Lib.hid hmv
  obtain ⟨m', hm'⟩ : ∃ m', Rv.stepM m = m' := ⟨_, rfl⟩
  rw [hm'] at q1 q2 q3 HST hmem
  have HQ : Hid (m'.flags = m.flags ∧ m'.regs.getD 0 0 = 0 ∧ m'.mem = m.mem) := ⟨q1, by rw [q2, h0], hmem⟩
  have HST2 : Hid (Calls Tryd.prog 24 #[.agg (machL m mv).toArray] W (fun e w' => ∃ A c, e = .returned (.tuple #[.agg (machL m' (.slice A m.mem.length c)).toArray, .int .i64 0]) ∧ Own1 W.heap.size 5 w' (.slice A m.mem.length c) (m.mem.map (Value.int .u8)) ∧ Gr W w')) := HST.out.mono fun e w' hh => by
    obtain ⟨u, rfl, ho, hg⟩ := hh
    rw [hmem] at ho
    obtain ⟨A, c, hu⟩ := ho.form
    rw [List.length_map] at hu
    subst hu
    exact ⟨A, c, rfl, ho, hg⟩
  have HL := Lib.hid hlen
  have HIN := Lib.hid hv.1
  have hl' : m'.regs.length = 32 := by rw [← hm']; exact stepM_len hw
  have HLR := Lib.hid hl'
  obtain ⟨l, hl⟩ : ∃ l, m.mem.length = l := ⟨_, rfl⟩
  have HLL := Lib.hid hl
  rw [hl] at k34 hlen HST2
  have c1 : decide ((40000 : Int) < (l : Int)) = false := by rw [decide_eq_false_iff_not]; omega
  have hlI : (l : Int) ≤ 32768 := by omega
  obtain ⟨fl, hfl⟩ : ∃ fl, m.flags = fl := ⟨_, rfl⟩
  rw [hfl] at k32
  have HFL := Lib.hid hfl
  clear hmv hr hv hw ht he h0 hlen hmem q1 q2 q3 HST hm' hl' hl hfl
  go_enter Tryd.func8, Tryd.ntmps8
  go_wp2_with (first
    | (refine wpList_loadM2 rfl (.tmp 1) rfl w.heap.size (by simp [Act.eval]) HR.out ?_)
    | (go_at_call 24; refine HST2.out.mono ?_; rintro e w1 ⟨A1, cc1, rfl, ho1, g1⟩; have HG1 := Lib.hid (HG.out.trans g1); have HW1 := Lib.hid g1; have HO1 := Lib.hid ho1; clear g1 ho1)
    | (refine wpList_store_row rfl 45 (.tmp 3) (.tmp 16) rfl w1.heap.size (machL m' (.slice A1 l cc1)).toArray (by simp [Act.eval]) (by simp [Act.eval]) 45 (machL Mach.zero (.slice none 0 0)).toArray (heap_alloc_new w1 _) (by rw [infoM]; simp [machL, HLR.out]) (by simp [machL, Mach.zero, HLR.out]) (machL_one _ HO1.out.slice1) ?_; have hR2 := MRow.setRow (m := m') HLR.out (heap_alloc_new w1 (.cells (machL Mach.zero (.slice none 0 0)).toArray 45)) (.slice A1 l cc1) []; rw [List.append_nil] at hR2; have hG2 : Gr w1 _ := ((Gr.refl w1).alloc (.cells (machL Mach.zero (.slice none 0 0)).toArray 45)).setRow (Nat.le_refl _) (machL m' (.slice A1 l cc1)).toArray; change wpList _ _ _ _ _ ((w1.alloc (.cells (machL Mach.zero (.slice none 0 0)).toArray 45)).setRow w1.heap.size (machL m' (.slice A1 l cc1)).toArray); generalize (w1.alloc (.cells (machL Mach.zero (.slice none 0 0)).toArray 45)).setRow w1.heap.size (machL m' (.slice A1 l cc1)).toArray = W2 at hR2 hG2 ⊢; have HR2 := Lib.hid hR2; have HG2 : Hid (Gr w W2) := HG1.out.trans hG2; have HO2 := Lib.hid (HO1.out.gr hG2); have hR0 := HR.out.gr (HW1.out.trans hG2); have y0 := hR2.reg 0 (by omega); rw [HQ.out.2.1] at y0; have y32 := hR2.flags; rw [HQ.out.1, HFL.out] at y32; have y34 := hR2.mem; have x32 := hR0.flags; rw [HFL.out] at x32; have x34 := hR0.mem; rw [HMV.out, HLL.out] at x34; have t1 := run_bytes (P := Tryd.prog) (own_bytes HO2.out HIN.out (by have := HL.out; omega)) Tryd.underlying35 Tryd.underlying5 Tryd.underlying9; have t2 := run_bytes (P := Tryd.prog) (HV.out.gr HG2.out) Tryd.underlying35 Tryd.underlying5 Tryd.underlying9; rw [HMV.out, HLL.out] at t2; clear hR2 hG2 hR0)
    | (go_at_call 17; refine (HKN.out _ HG2.out).mono ?_; rintro e w2 ⟨rfl, g2⟩))
  go_ret
  exact ⟨rfl, HG2.out.trans g2⟩
end Go.Proofs.YthiaaagoccpkcaaDoor

namespace Go.Proofs.YthiaaagoccpkcaaDoor
set_option linter.unusedSimpArgs false
set_option linter.unusedVariables false
open Go.RowKit

theorem wpList_loadRg {ops : Array Oper} {rest : List Oper} {o : Oper} {a : Act} {w : World} {Q : Exit → Act → World → Prop} (hw : Region.wanted o (yielded ops a.tmps) = true) (x : Operand) (ho : o.op = .load 43 x)
    (B : Nat) (hx : a.eval x = .pointer (some ⟨B, 0, none⟩)) {t : TypeId} {m : Mach} {mv : Value} {tail : List Value} (hr : MRow w B t m mv tail) {RG : Array Value} (hm : (m.regs.map (Value.int .u32)).toArray = RG)
    (h : wpList Tryd.prog ops Q rest (a.put o.dst (.agg RG)) w) : wpList Tryd.prog ops Q (o :: rest) a w := by
  subst hm
  exact wpList_loadR hw x ho B hx hr h
theorem shape5 {k : Nat} (h : Rv.shapeN k = 5) : 28 ≤ k ∧ k ≤ 30 := by
  unfold Rv.shapeN at h
  repeat' split at h
  all_goals omega
set_option maxRecDepth 100000 in
set_option maxHeartbeats 8000000 in
theorem rvZeros_store (m : Mach) (mv : Value) (w : World) (hv : BytesAt w mv m.mem) (hw : Rv.WfM m) (ht : Tabs w) (he : Rv.errM m 0 = 0) (h0 : m.regs.getD 0 0 = 0) (hlen : m.mem.length ≤ 32768) (hmem : (Rv.stepM m).mem ≠ m.mem) (hin : ¬ m.mem.length < m.pc.toNat + 4) (x : RvI)
    (hx : Rv.decode (Rv.rd m.mem m.pc.toNat 4) = some x) (hsh : Rv.shapeN x.op.toNat = 5) (hregs : (Rv.stepM m).regs = m.regs) :
    Calls Tryd.prog 8 #[.agg (machL m mv).toArray] w fun e w' => e = .returned (.bool true) ∧ Gr w w' := by
  have HKN : Hid (∀ w1, Gr w w1 → Calls Tryd.prog 17 #[] w1 fun e w' => e = .returned (.bool true) ∧ Gr w1 w') := fun w1 g => known_any w1 (ht.gr g)
  obtain ⟨W, hW⟩ : ∃ W, w.alloc (.cells (machL m mv).toArray 45) = W := ⟨_, rfl⟩
  have hr : MRow W w.heap.size 45 m mv [] := by rw [← hW]; exact MRow.new0 hw.regs w _ mv
  have HR := Lib.hid hr
  have HG : Hid (Gr w W) := by rw [← hW]; exact (Gr.refl w).alloc _
  have HV := Lib.hid hv
  obtain ⟨q1, q2, q3, -⟩ := Rv.stepM_keeps m
  have HST : Hid (Calls Tryd.prog 24 #[.agg (machL m mv).toArray] W (MachRet W (Rv.stepM m) 0)) := by
    have := pStep_any (hv.gr HG.out) hw
    rw [if_pos he, he] at this
    exact this
  have k34 := hr.mem
  have k32 := hr.flags
  have hin' : Rv.isBytes (Rv.stepM m).mem := (stepM_wf hw).mem
  rcases SlAt.cases hv.2 with ⟨hz, -⟩ | ⟨hz, bb, off, c, hmv, hc, hcm, hbb, hRB⟩
  · omega
  rw [hmv] at k34
  have HMV := Lib.hid hmv
  obtain ⟨m', hm'⟩ : ∃ m', Rv.stepM m = m' := ⟨_, rfl⟩
  rw [hm'] at q1 q2 q3 HST hmem hregs hin'
  have HQ : Hid (m'.flags = m.flags ∧ m'.regs.getD 0 0 = 0) := ⟨q1, by rw [q2, h0]⟩
  have HST2 : Hid (Calls Tryd.prog 24 #[.agg (machL m mv).toArray] W (fun e w' => ∃ A c, e = .returned (.tuple #[.agg (machL m' (.slice A m.mem.length c)).toArray, .int .i64 0]) ∧ Own1 W.heap.size 5 w' (.slice A m.mem.length c) (m'.mem.map (Value.int .u8)) ∧ Gr W w')) := HST.out.mono fun e w' hh => by
    obtain ⟨u, rfl, ho, hg⟩ := hh
    obtain ⟨A, c, hu⟩ := ho.form
    rw [List.length_map, q3] at hu
    subst hu
    exact ⟨A, c, rfl, ho, hg⟩
  have HL := Lib.hid hlen
  have HIN := Lib.hid hin'
  have hl' : m'.regs.length = 32 := by rw [hregs]; exact hw.regs
  have HLR := Lib.hid hl'
  obtain ⟨l, hl⟩ : ∃ l, m.mem.length = l := ⟨_, rfl⟩
  have HLL := Lib.hid hl
  have HLL2 : Hid (m'.mem.length = l) := by show _ = _; rw [q3, hl]
  have HRB := Lib.hid hRB
  rw [hl] at k34 hlen HST2 hin hc hz
  have c1 : decide ((40000 : Int) < (l : Int)) = false := by rw [decide_eq_false_iff_not]; omega
  have hlI : (l : Int) ≤ 32768 := by omega
  obtain ⟨fl, hfl⟩ : ∃ fl, m.flags = fl := ⟨_, rfl⟩
  rw [hfl] at k32
  have HFL := Lib.hid hfl
  obtain ⟨s1, hs1⟩ : ∃ s1, bytesB m.mem = s1 := ⟨_, rfl⟩
  obtain ⟨s2, hs2⟩ : ∃ s2, bytesB m'.mem = s2 := ⟨_, rfl⟩
  have HS1 := Lib.hid hs1
  have HS2 := Lib.hid hs2
  have cS : (s2.toList == s1.toList) = false := by
    rw [Lib.bytes_beq_false_iff]
    intro e
    rw [← hs1, ← hs2] at e
    exact hmem (bytesB_inj hin' hw.mem e)
  obtain ⟨RG, hRG⟩ : ∃ RG, (m.regs.map (Value.int .u32)).toArray = RG := ⟨_, rfl⟩
  have HRG := Lib.hid hRG
  have HRG2 : Hid ((m'.regs.map (Value.int .u32)).toArray = RG) := by show _ = _; rw [hregs, hRG]
  have cR : ∀ w : World, (binOp .eql 43 (.agg RG) (.agg RG)).run Tryd.prog w = .ok (.bool true) w := fun w => by
    rw [← hRG]; exact eqlR w m.regs hw.regs
  obtain ⟨p, hp⟩ : ∃ p : Nat, m.pc = p := ⟨m.pc.toNat, by have := hw.pc; omega⟩
  have HP := Lib.hid hp
  rw [hp, Int.toNat_natCast] at hin hx
  have g0 := Rv.getD_in hw.mem p
  have g1 := Rv.getD_in hw.mem (p + 1)
  have g2 := Rv.getD_in hw.mem (p + 2)
  have g3 := Rv.getD_in hw.mem (p + 3)
  have HE := Lib.hid (Rv.rd4 m.mem p)
  have hr0 := hRB p _ (getD_of (by omega))
  have hr1 := hRB (p + 1) _ (getD_of (by omega))
  have hr2 := hRB (p + 2) _ (getD_of (by omega))
  have hr3 := hRB (p + 3) _ (getD_of (by omega))
  obtain ⟨y0, hy0⟩ : ∃ y, m.mem.getD (p + 0) 0 = y := ⟨_, rfl⟩
  obtain ⟨y1, hy1⟩ : ∃ y, m.mem.getD (p + 1) 0 = y := ⟨_, rfl⟩
  obtain ⟨y2, hy2⟩ : ∃ y, m.mem.getD (p + 2) 0 = y := ⟨_, rfl⟩
  obtain ⟨y3, hy3⟩ : ∃ y, m.mem.getD (p + 3) 0 = y := ⟨_, rfl⟩
  rw [Nat.add_zero] at hy0
  rw [hy0] at g0 HE hr0
  rw [hy1] at g1 HE hr1
  rw [hy2] at g2 HE hr2
  rw [hy3] at g3 HE hr3
  have HC : Hid (∀ w1, Gr w w1 → w1.cell? ⟨bb, off + p, none⟩ = some (.int .u8 y0) ∧ w1.cell? ⟨bb, off + (p + 1), none⟩ = some (.int .u8 y1) ∧ w1.cell? ⟨bb, off + (p + 2), none⟩ = some (.int .u8 y2) ∧ w1.cell? ⟨bb, off + (p + 3), none⟩ = some (.int .u8 y3)) :=
    fun w1 g => ⟨(g.cell _ _ hbb).trans hr0, (g.cell _ _ hbb).trans hr1, (g.cell _ _ hbb).trans hr2, (g.cell _ _ hbb).trans hr3⟩
  have HO := Lib.hid (or4 y0 y1 y2 y3 g0 g1 g2 g3)
  rw [HE.out] at hx
  have m1 : y1 * 256 % 4294967296 = y1 * 256 := by omega
  have m2 : y2 * 65536 % 4294967296 = y2 * 65536 := by omega
  have m3 : y3 * 16777216 % 4294967296 = y3 * 16777216 := by omega
  have b0 : (p : Int) < (l : Int) := by omega
  have b1 : (p : Int) + 1 < (l : Int) := by omega
  have b2 : (p : Int) + 2 < (l : Int) := by omega
  have b3 : (p : Int) + 3 < (l : Int) := by omega
  have b4 : (p : Int) + 4 ≤ (l : Int) := by omega
  have z0 : (0 : Int) ≤ (p : Int) := by omega
  have z1 : (0 : Int) ≤ (p : Int) + 1 := by omega
  have z2 : (0 : Int) ≤ (p : Int) + 2 := by omega
  have z3 : (0 : Int) ≤ (p : Int) + 3 := by omega
  have t1 : ((p : Int) + 1).toNat = p + 1 := by omega
  have t2 : ((p : Int) + 2).toNat = p + 2 := by omega
  have t3 : ((p : Int) + 3).toNat = p + 3 := by omega
  have s1' : ((p : Int) + 1) % 4294967296 = (p : Int) + 1 := by omega
  have s2' : ((p : Int) + 2) % 4294967296 = (p : Int) + 2 := by omega
  have s3' : ((p : Int) + 3) % 4294967296 = (p : Int) + 3 := by omega
  have c4 : decide ((l : Int) < (p : Int) + 4) = false := by rw [decide_eq_false_iff_not]; omega
  obtain ⟨o1, o2⟩ := shape5 hsh
  obtain ⟨op, d, a, b, im⟩ := x
  dsimp only at o1 o2
  have o3 : (28 : Int) ≤ op := by omega
  have o4 : op ≤ 30 := by omega
  have d3 : decide ((28 : Int) ≤ op) = true := by rw [decide_eq_true_iff]; omega
  have d4 : decide (op ≤ (30 : Int)) = true := by rw [decide_eq_true_iff]; omega
  have HDE : Hid (∀ w1, Calls Tryd.prog 16 #[.int .u32 (y0 + y1 * 256 + y2 * 65536 + y3 * 16777216)] w1 fun e w' => e = .returned (.tuple #[.agg #[.int .i64 op, .int .i64 d, .int .i64 a, .int .i64 b, .int .i64 im], .bool true]) ∧ Gr w1 w') := fun w1 => by
    have q := pDecode_any (y0 + y1 * 256 + y2 * 65536 + y3 * 16777216) (by omega) (by omega) w1
    rw [hx] at q
    exact q
  clear hmv hr hv hw ht he h0 hlen hmem q1 q2 q3 HST hm' hl' hl hfl hs1 hs2 hRG hp hregs hin' hin hx hsh hy0 hy1 hy2 hy3 hRB hr0 hr1 hr2 hr3 o1 o2 hbb hz
  unfold maxLen at hcm
  have hlc : (l : Int) ≤ (c : Int) := by omega
  go_enter Tryd.func8, Tryd.ntmps8
  go_wp2_with (first
    | (refine wpList_loadM2 rfl (.tmp 1) rfl w.heap.size (by simp [Act.eval]) HR.out ?_)
    | (go_at_call 24; refine HST2.out.mono ?_; rintro e w1 ⟨A1, cc1, rfl, ho1, g1⟩; have HG1 := Lib.hid (HG.out.trans g1); have HW1 := Lib.hid g1; have HO1 := Lib.hid ho1; clear g1 ho1)
    | (refine wpList_store_row rfl 45 (.tmp 3) (.tmp 16) rfl w1.heap.size (machL m' (.slice A1 l cc1)).toArray (by simp [Act.eval]) (by simp [Act.eval]) 45 (machL Mach.zero (.slice none 0 0)).toArray (heap_alloc_new w1 _) (by rw [infoM]; simp [machL, HLR.out]) (by simp [machL, Mach.zero, HLR.out]) (machL_one _ HO1.out.slice1) ?_; have hR2 := MRow.setRow (m := m') HLR.out (heap_alloc_new w1 (.cells (machL Mach.zero (.slice none 0 0)).toArray 45)) (.slice A1 l cc1) []; rw [List.append_nil] at hR2; have hG2 : Gr w1 _ := ((Gr.refl w1).alloc (.cells (machL Mach.zero (.slice none 0 0)).toArray 45)).setRow (Nat.le_refl _) (machL m' (.slice A1 l cc1)).toArray; change wpList _ _ _ _ _ ((w1.alloc (.cells (machL Mach.zero (.slice none 0 0)).toArray 45)).setRow w1.heap.size (machL m' (.slice A1 l cc1)).toArray); generalize (w1.alloc (.cells (machL Mach.zero (.slice none 0 0)).toArray 45)).setRow w1.heap.size (machL m' (.slice A1 l cc1)).toArray = W2 at hR2 hG2 ⊢; have HR2 := Lib.hid hR2; have HG2 : Hid (Gr w W2) := HG1.out.trans hG2; have HO2 := Lib.hid (HO1.out.gr hG2); have hR0 := HR.out.gr (HW1.out.trans hG2); have HR0 := Lib.hid hR0; have y0' := hR2.reg 0 (by omega); rw [HQ.out.2] at y0'; have y32 := hR2.flags; rw [HQ.out.1, HFL.out] at y32; have y34 := hR2.mem; have x32 := hR0.flags; rw [HFL.out] at x32; have x34 := hR0.mem; rw [HMV.out, HLL.out] at x34; have x33 := hR0.pc; rw [HP.out] at x33; have k1 := own_bytes HO2.out HIN.out (by have := HL.out; have := HLL.out; have := HLL2.out; omega); have u1 := run_bytes (P := Tryd.prog) k1 Tryd.underlying35 Tryd.underlying5 Tryd.underlying9; have u2 := run_bytes (P := Tryd.prog) (HV.out.gr HG2.out) Tryd.underlying35 Tryd.underlying5 Tryd.underlying9; rw [HMV.out, HLL.out, HS1.out] at u2; rw [HS2.out] at u1; obtain ⟨e0, e1, e2, e3⟩ := HC.out _ HG2.out; clear hR2 hG2 hR0 k1))
  clear cS u1 u2 k34 k32 y0' y32 y34
  go_quiet (fail)
  go_wp2_with (first
    | (go_at_call 16; rw [HO.out]; refine (HDE.out _).mono ?_; rintro e w3 ⟨rfl, g3⟩; have HX3 : Hid (Gr W2 w3) := ((Gr.refl W2).drewN _).trans g3; clear g3)
    | (refine wpList_loadRg (by rfl) (.tmp 111) rfl w1.heap.size (by simp [Act.eval]) (HR2.out.gr (HX3.out.alloc _)) HRG2.out ?_)
    | (refine wpList_loadRg (by rfl) (.tmp 113) rfl w.heap.size (by simp [Act.eval]) (HR0.out.gr (HX3.out.alloc _)) HRG.out ?_)
    | (go_at_call 17; refine (HKN.out _ ((HG2.out.trans HX3.out).alloc _)).mono ?_; rintro e w4 ⟨rfl, g4⟩))
  go_ret
  exact ⟨rfl, ((HG2.out.trans HX3.out).alloc _).trans g4⟩
theorem rvZeros_any (m : Mach) (mv : Value) (w : World) (hv : BytesAt w mv m.mem) (hw : Rv.WfM m) (ht : Tabs w) :
    Calls Tryd.prog 8 #[.agg (machL m mv).toArray] w fun e w' => e = .returned (.bool true) ∧ Gr w w' := by
  by_cases hlong : 40000 < m.mem.length
  · exact rvZeros_long m mv w hv hw ht hlong
  by_cases he : Rv.errM m 0 = 0
  · obtain ⟨h0, hlen⟩ : m.regs.getD 0 0 = 0 ∧ m.mem.length ≤ 32768 := by
      unfold Rv.errM at he
      split at he
      · cases he
      · omega
    obtain ⟨-, -, -, h4⟩ := Rv.stepM_keeps m
    by_cases hm : (Rv.stepM m).mem = m.mem
    · exact rvZeros_same m mv w hv hw ht he h0 hlen hm
    · rcases h4 with h4 | ⟨hin, x, hx, hs, hr⟩
      · exact absurd h4 hm
      · exact rvZeros_store m mv w hv hw ht he h0 hlen hm hin x hx hs hr
  · exact rvZeros_err m mv w hv hw ht hlong he
end Go.Proofs.YthiaaagoccpkcaaDoor

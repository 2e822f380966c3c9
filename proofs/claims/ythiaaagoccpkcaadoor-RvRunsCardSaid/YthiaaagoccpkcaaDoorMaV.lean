/- step of the document: a fault at the fetch. -/
import Derived.Test.YthiaaagoccpkcaaDoorMachC
namespace Go.Proofs.YthiaaagoccpkcaaDoor
set_option linter.unusedSimpArgs false
set_option linter.unusedVariables false
open Go.RowKit

theorem results_mach1 {fn : Func} {p : Nat} (h : fn.results = #[.cell p 45]) (tmps : Array Value) (w : World) (g : Nat) (t : TypeId) (m : Mach) (u : Value)
    (hp : tmps.getD p undef = .pointer (some ⟨g, 0, none⟩)) (hr : MRow w g t m u []) :
    (results fn tmps).run Tryd.prog w = .ok (.agg (machL m u).toArray) w := by
  have hp' : tmps[p]?.getD undef = .pointer (some ⟨g, 0, none⟩) := by simpa using hp
  simp [results, h, hp', asAddr, loadM2 hr]
theorem wpList_loadMg {ops : Array Oper} {rest : List Oper} {o : Oper} {a : Act} {w : World} {Q : Exit → Act → World → Prop} (hw : Region.wanted o (yielded ops a.tmps) = true) (x : Operand) (ho : o.op = .load 45 x)
    (B : Nat) (hx : a.eval x = .pointer (some ⟨B, 0, none⟩)) {t : TypeId} {m : Mach} {mv : Value} {tail : List Value} (hr : MRow w B t m mv tail)
    (h : wpList Tryd.prog ops Q rest (a.put o.dst (.agg (machL m mv).toArray)) w) : wpList Tryd.prog ops Q (o :: rest) a w :=
  wpList_wanted hw fun K hK => by
    unfold Oper.wp execOp
    simp only [ho, hx, Instr.loadAt, Instr.sureAddr, Sem.run_bind, Sem.run_pure, Result.andThen_ok, loadM2 hr]
    exact hK _ _ h
/-- What the document's step hands back. -/
def RStep (N : Nat) (w : World) (m : Mach) (mv : Value) : Ending → World → Prop :=
  fun e w' => e = .returned (.agg (machL (Rv.stepM m) mv).toArray) ∧ Own1 N 5 w' mv ((Rv.stepM m).mem.map (Value.int .u8)) ∧ Below N w w'
/-- The world of step, once the fault is laid. -/
structure RS (N : Nat) (w0 w : World) (B1 B2 B3 : Nat) (m : Mach) (mv : Value) : Prop where
  r1 : MRow w B1 45 m mv []
  r2 : w.heap[B2]? = some (.cells (machL Mach.zero (.slice none 0 0)).toArray 45 (0, 0))
  r3 : MRow w B3 45 { m with fin := 3 } mv []
  mem : Own1 N 5 w mv (m.mem.map (Value.int .u8))
  n1 : N ≤ B1
  l1 : B1 < B2
  l2 : B2 < B3
  bel : Below N w0 w
  own : ∀ k, mv.ownBlock = some k → k < B1
theorem RS.gr {N : Nat} {w0 w w' : World} {B1 B2 B3 : Nat} {m : Mach} {mv : Value} (h : RS N w0 w B1 B2 B3 m mv) (g : Gr w w') : RS N w0 w' B1 B2 B3 m mv :=
  ⟨h.r1.gr g, (g.heap _ (Array.getElem?_eq_some_iff.1 h.r2).1).trans h.r2, h.r3.gr g, h.mem.gr g, h.n1, h.l1, h.l2, h.bel.trans (g.mono (Nat.le_trans h.n1 (Nat.le_of_lt h.r1.lt))), h.own⟩

theorem Below.setRow' {w a : World} {N g : Nat} (h : Below N w a) (hg : N ≤ g) (cs : Array Value) : Below N w (a.setRow g cs) :=
  Below.trans h ⟨rfl, rfl, rfl, by simp [World.setRow], fun k hk => by
    simp only [World.setRow, Array.getElem?_modify]
    rw [if_neg (by omega)]⟩
theorem Own1.rowNe {B : Nat} {e : TypeId} {w : World} {v : Value} {xs : List Value} (h : Own1 B e w v xs) {g : Nat} (hg : ∀ k, v.ownBlock = some k → k ≠ g) (cs : Array Value) : Own1 B e (w.setRow g cs) v xs := by
  obtain ⟨h1, h2⟩ := h
  refine ⟨h1, ?_⟩
  rcases h2 with h2 | ⟨k, cap, cur, hv, hb, hk, r⟩
  · exact .inl h2
  · exact .inr ⟨k, cap, cur, hv, hb, (heap_setRow_other w g k cs (hg k (by rw [hv]; rfl))).trans hk, r⟩
/-- The end of step: the result's cell is written. -/
theorem re_end {N : Nat} {w W : World} {B2 : Nat} {m6 : Mach} {mv : Value} {xs : List Value} (h2 : W.heap[B2]? = some (.cells (machL Mach.zero (.slice none 0 0)).toArray 45 (0, 0))) (hl : m6.regs.length = 32)
    (mem : Own1 N 5 W mv xs) (own : ∀ k, mv.ownBlock = some k → k < B2) (bel : Below N w W) (n2 : N ≤ B2) :
    MRow (W.setRow B2 (machL m6 mv).toArray) B2 45 m6 mv [] ∧ Own1 N 5 (W.setRow B2 (machL m6 mv).toArray) mv xs ∧ Below N w (W.setRow B2 (machL m6 mv).toArray) := by
  refine ⟨?_, mem.rowNe (fun k hk => by have := own k hk; omega) _, Below.setRow' bel n2 _⟩
  have := MRow.setRow (m := m6) hl h2 mv []
  rw [List.append_nil] at this
  exact this
/-- The worlds of the first statements of step. -/
theorem rstep_front {N : Nat} {w : World} {m : Mach} {mv : Value} (ho : Own1 N 5 w mv (m.mem.map (Value.int .u8))) (hN : N ≤ w.heap.size) (hw : Rv.WfM m) :
    ∃ W W1 W2 W3 W4, w.alloc (.cells (machL m mv).toArray 45) = W ∧ W.alloc (.cells (machL Mach.zero (.slice none 0 0)).toArray 45) = W1 ∧ W1.alloc (.cells (machL Mach.zero (.slice none 0 0)).toArray 45) = W2 ∧
      W2.setRow W1.heap.size (machL m mv).toArray = W3 ∧ W3.setCell ⟨W1.heap.size, 35, none⟩ (.int .i64 3) = W4 ∧ Hid (MRow W1 w.heap.size 45 m mv []) ∧
      Hid (W2.heap[W1.heap.size]? = some (.cells (machL Mach.zero (.slice none 0 0)).toArray 45 (0, 0))) ∧ Hid (MRow W3 W1.heap.size 45 m mv []) ∧ Hid (RS N w W4 w.heap.size W.heap.size W1.heap.size m mv) ∧ Hid (Gr w W4) := by
  obtain ⟨W, hW⟩ : ∃ W, w.alloc (.cells (machL m mv).toArray 45) = W := ⟨_, rfl⟩
  obtain ⟨W1, hW1⟩ : ∃ W1, W.alloc (.cells (machL Mach.zero (.slice none 0 0)).toArray 45) = W1 := ⟨_, rfl⟩
  obtain ⟨W2, hW2⟩ : ∃ W2, W1.alloc (.cells (machL Mach.zero (.slice none 0 0)).toArray 45) = W2 := ⟨_, rfl⟩
  obtain ⟨W3, hW3⟩ : ∃ W3, W2.setRow W1.heap.size (machL m mv).toArray = W3 := ⟨_, rfl⟩
  obtain ⟨W4, hW4⟩ : ∃ W4, W3.setCell ⟨W1.heap.size, 35, none⟩ (.int .i64 3) = W4 := ⟨_, rfl⟩
  have hS1 : W.heap.size = w.heap.size + 1 := by rw [← hW]; simp
  have hS2 : W1.heap.size = w.heap.size + 2 := by rw [← hW1]; simp; omega
  have hr1 : MRow W w.heap.size 45 m mv [] := by rw [← hW]; exact MRow.new0 hw.regs w _ mv
  have g1 : Gr W W1 := by rw [← hW1]; exact (Gr.refl W).alloc _
  have g2 : Gr W1 W2 := by rw [← hW2]; exact (Gr.refl W1).alloc _
  have hz : W2.heap[W1.heap.size]? = some (.cells (machL Mach.zero (.slice none 0 0)).toArray 45 (0, 0)) := by rw [← hW2]; exact heap_alloc_new W1 _
  have g3 : Gr W1 W3 := by rw [← hW3]; exact Gr.setRow g2 (Nat.le_refl _) _
  have hr3 : MRow W3 W1.heap.size 45 m mv [] := by
    have := MRow.setRow (m := m) hw.regs hz mv []
    rw [List.append_nil] at this
    rw [← hW3]; exact this
  have g4 : Gr W1 W4 := by rw [← hW4]; exact g3.setCell (Nat.le_refl _) _
  have hr4 : MRow W4 W1.heap.size 45 { m with fin := 3 } mv [] := by rw [← hW4]; exact hr3.setFin 3
  have gw : Gr w W4 := by
    have : Gr w W := by rw [← hW]; exact (Gr.refl w).alloc _
    exact (this.trans g1).trans g4
  exact ⟨W, W1, W2, W3, W4, hW, hW1, hW2, hW3, hW4, Lib.hid (hr1.gr g1), Lib.hid hz, Lib.hid hr3,
    Lib.hid ⟨hr1.gr (g1.trans g4), (g4.heap _ (by omega)).trans (by rw [← hW1]; exact heap_alloc_new W _), hr4, ho.gr gw, hN, by omega, by omega, Below.mono gw hN, fun k hk => (own_block_lt ho k hk).2⟩, Lib.hid gw⟩
set_option maxRecDepth 100000 in
set_option maxHeartbeats 8000000 in
theorem rstep_odd {N : Nat} {w : World} {m : Mach} {mv : Value} (ho : Own1 N 5 w mv (m.mem.map (Value.int .u8))) (hN : N ≤ w.heap.size) (hw : Rv.WfM m) (hl : m.mem.length ≤ 32768) (hf : m.pc % 4 ≠ 0) :
    Calls Tryd.prog 54 #[.agg (machL m mv).toArray] w (RStep N w m mv) := by
  obtain ⟨W, W1, W2, W3, W4, hW, hW1, hW2, hW3, hW4, HR1, HZ, HR3, HS, HG⟩ := rstep_front ho hN hw
  have HT : Hid (Rv.stepM m = { m with fin := 3 }) := by
    show _ = _
    have : Rv.stepO m = none := by unfold Rv.stepO; rw [if_pos (.inr hf)]
    unfold Rv.stepM; rw [this]
  have HLR := Lib.hid hw.regs
  have HON := Lib.hid ho.slice1
  have k35 := HR3.out.fin
  have f35 := HR3.out.frozen 35
  have k33 := HS.out.r1.pc
  have c1 : (m.pc % 4 != 0) = true := by simpa using hf
  rw [zeroM_eq] at hW1 hW2
  have p0 := hw.pc
  obtain ⟨pc, hpc⟩ : ∃ pc, m.pc = pc := ⟨_, rfl⟩
  rw [hpc] at k33 c1 p0
  clear ho hN hw hl hf hpc
  go_enter Tryd.func54, Tryd.ntmps54
  go_wp2_with (first
    | (refine wpList_loadM2 rfl (.tmp 1) rfl w.heap.size (by simp [Act.eval]) HR1.out ?_)
    | (refine wpList_store_row rfl 45 (.tmp 3) (.tmp 13) rfl W1.heap.size (machL m mv).toArray (by simp [Act.eval, Act.put]) (by simp [Act.eval, Act.put]) 45 (machL Mach.zero (.slice none 0 0)).toArray HZ.out (by rw [infoM]; simp [machL, HLR.out]) (by simp [machL, Mach.zero, HLR.out]) (machL_one m HON.out) ?_; rw [hW3])
    | (refine wpList_loadM2 rfl (.tmp 3) rfl W1.heap.size (by simp [Act.eval]) HS.out.r3 ?_)
    | (refine wpList_store_row rfl 45 (.tmp 2) (.tmp 26) rfl W.heap.size (machL { m with fin := 3 } mv).toArray (by simp [Act.eval, Act.put]) (by simp [Act.eval, Act.put]) 45 (machL Mach.zero (.slice none 0 0)).toArray HS.out.r2 (by rw [infoM]; simp [machL, HLR.out]) (by simp [machL, Mach.zero, HLR.out]) (machL_one { m with fin := 3 } HON.out) ?_))
  have HE := Lib.hid (re_end (m6 := { m with fin := 3 }) HS.out.r2 HLR.out HS.out.mem (fun k hk => by have := HS.out.own k hk; have := HS.out.l1; omega) HS.out.bel (by have := HS.out.n1; have := HS.out.l1; omega))
  refine bodyPost_ret (results_mach1 rfl _ _ W.heap.size 45 { m with fin := 3 } mv (by simp [Act.put]) HE.out.1) rfl ?_
  exact ⟨by rw [HT.out], by rw [HT.out]; exact HE.out.2.1, HE.out.2.2⟩
theorem inMem_at {w : World} {m : Mach} {mv : Value} {xs : List Value} {N : Nat} (ho : Own1 N 5 w mv xs) (hx : xs.length = m.mem.length) (hw : Rv.WfM m) (hl : m.mem.length ≤ 32768) (a : Int) (n : Nat) (a0 : 0 ≤ a) (a1 : a < 4294967296) (hn : n ≤ 4) (b : Bool) (hb : decide (a + n ≤ m.mem.length) = b) (w1 : World) :
    Calls Tryd.prog 79 #[.agg (machL m mv).toArray, .int .u32 a, .int .i64 n] w1 fun e w' => e = .returned (.bool b) ∧ Gr w1 w' := by
  obtain ⟨A, c, rfl⟩ := ho.form
  rw [← hb, ← hx]
  exact inMemory_any (l := xs.length) hw.regs (by omega) a n a0 a1 hn
set_option maxRecDepth 100000 in
set_option maxHeartbeats 8000000 in
theorem rstep_short {N : Nat} {w : World} {m : Mach} {mv : Value} (ho : Own1 N 5 w mv (m.mem.map (Value.int .u8))) (hN : N ≤ w.heap.size) (hw : Rv.WfM m) (hl : m.mem.length ≤ 32768) (h4 : m.pc % 4 = 0) (hf : m.mem.length < m.pc.toNat + 4) :
    Calls Tryd.prog 54 #[.agg (machL m mv).toArray] w (RStep N w m mv) := by
  obtain ⟨W, W1, W2, W3, W4, hW, hW1, hW2, hW3, hW4, HR1, HZ, HR3, HS, HG⟩ := rstep_front ho hN hw
  have HT : Hid (Rv.stepM m = { m with fin := 3 }) := by
    show _ = _
    have : Rv.stepO m = none := by unfold Rv.stepO; rw [if_pos (.inl hf)]
    unfold Rv.stepM; rw [this]
  have HLR := Lib.hid hw.regs
  have HON := Lib.hid ho.slice1
  have k35 := HR3.out.fin
  have f35 := HR3.out.frozen 35
  have k33 := HS.out.r1.pc
  have c1 : (m.pc % 4 != 0) = false := by simpa using h4
  rw [zeroM_eq] at hW1 hW2
  have p0 := hw.pc
  have HIM : Hid (∀ w1, Calls Tryd.prog 79 #[.agg (machL m mv).toArray, .int .u32 m.pc, .int .i64 4] w1 fun e w' => e = .returned (.bool false) ∧ Gr w1 w') := fun w1 =>
    inMem_at ho (by simp) hw hl m.pc 4 p0.1 p0.2 (by omega) false (by rw [decide_eq_false_iff_not]; omega) w1
  obtain ⟨pc, hpc⟩ : ∃ pc, m.pc = pc := ⟨_, rfl⟩
  rw [hpc] at k33 c1 p0 HIM
  clear ho hN hw hl hf hpc h4
  go_enter Tryd.func54, Tryd.ntmps54
  go_wp2_with (first
    | (refine wpList_loadM2 rfl (.tmp 1) rfl w.heap.size (by simp [Act.eval]) HR1.out ?_)
    | (refine wpList_store_row rfl 45 (.tmp 3) (.tmp 13) rfl W1.heap.size (machL m mv).toArray (by simp [Act.eval, Act.put]) (by simp [Act.eval, Act.put]) 45 (machL Mach.zero (.slice none 0 0)).toArray HZ.out (by rw [infoM]; simp [machL, HLR.out]) (by simp [machL, Mach.zero, HLR.out]) (machL_one m HON.out) ?_; rw [hW3])
    | (refine wpList_loadMg (by rfl) (.tmp 1) rfl w.heap.size (by simp [Act.eval]) HS.out.r1 ?_)
    | (go_at_call 79; refine (HIM.out _).mono ?_; rintro e w5 ⟨rfl, g5⟩; have HS5 := Lib.hid (HS.out.gr g5))
    | (refine wpList_loadM2 rfl (.tmp 3) rfl W1.heap.size (by simp [Act.eval]) HS5.out.r3 ?_)
    | (refine wpList_store_row rfl 45 (.tmp 2) (.tmp 26) rfl W.heap.size (machL { m with fin := 3 } mv).toArray (by simp [Act.eval, Act.put]) (by simp [Act.eval, Act.put]) 45 (machL Mach.zero (.slice none 0 0)).toArray HS5.out.r2 (by rw [infoM]; simp [machL, HLR.out]) (by simp [machL, Mach.zero, HLR.out]) (machL_one { m with fin := 3 } HON.out) ?_))
  have HE := Lib.hid (re_end (m6 := { m with fin := 3 }) HS5.out.r2 HLR.out HS5.out.mem (fun k hk => by have := HS5.out.own k hk; have := HS5.out.l1; omega) HS5.out.bel (by have := HS5.out.n1; have := HS5.out.l1; omega))
  refine bodyPost_ret (results_mach1 rfl _ _ W.heap.size 45 { m with fin := 3 } mv (by simp [Act.put]) HE.out.1) rfl ?_
  exact ⟨by rw [HT.out], by rw [HT.out]; exact HE.out.2.1, HE.out.2.2⟩
set_option maxRecDepth 100000 in
set_option maxHeartbeats 8000000 in
theorem rstep_none {N : Nat} {w : World} {m : Mach} {mv : Value} (ho : Own1 N 5 w mv (m.mem.map (Value.int .u8))) (hN : N ≤ w.heap.size) (hw : Rv.WfM m) (hl : m.mem.length ≤ 32768) (hf : ¬ (m.mem.length < m.pc.toNat + 4 ∨ m.pc % 4 ≠ 0)) (hd : Rv.decode (Rv.rd m.mem m.pc.toNat 4) = none) :
    Calls Tryd.prog 54 #[.agg (machL m mv).toArray] w (RStep N w m mv) := by
  obtain ⟨W, W1, W2, W3, W4, hW, hW1, hW2, hW3, hW4, HR1, HZ, HR3, HS, HG⟩ := rstep_front ho hN hw
  have HT : Hid (Rv.stepM m = { m with fin := 3 }) := by
    show _ = _
    have : Rv.stepO m = none := by unfold Rv.stepO; rw [if_neg hf, hd]
    unfold Rv.stepM; rw [this]
  have h4 : m.pc % 4 = 0 := by
    rcases Decidable.em (m.pc % 4 = 0) with h' | h'
    · exact h'
    · exact absurd (.inr h') hf
  have hin : m.pc.toNat + 4 ≤ m.mem.length := by
    rcases Nat.lt_or_ge m.mem.length (m.pc.toNat + 4) with h' | h'
    · exact absurd (.inl h') hf
    · exact h'
  have HLR := Lib.hid hw.regs
  have HON := Lib.hid ho.slice1
  have k35 := HR3.out.fin
  have f35 := HR3.out.frozen 35
  have c1 : (m.pc % 4 != 0) = false := by simpa using h4
  rw [zeroM_eq] at hW1 hW2
  have p0 := hw.pc
  have HIM : Hid (∀ w1, Calls Tryd.prog 79 #[.agg (machL m mv).toArray, .int .u32 m.pc, .int .i64 4] w1 fun e w' => e = .returned (.bool true) ∧ Gr w1 w') := fun w1 =>
    inMem_at ho (by simp) hw hl m.pc 4 p0.1 p0.2 (by omega) true (by rw [decide_eq_true_iff]; omega) w1
  obtain ⟨i0, i1⟩ := Rv.rd4_in hw.mem m.pc.toNat
  have HRD : Hid (∀ w1, Gr W4 w1 → Calls Tryd.prog 50 #[mv, .int .i64 m.pc, .int .i64 4] w1 fun e w' => e = .returned (.int .u32 (Rv.rd m.mem m.pc.toNat 4)) ∧ w1 = w') := fun w1 g => by
    have hb := own_bytes (HS.out.mem.gr g) hw.mem (by omega)
    have := read_any mv m.mem m.pc.toNat 4 w1 hb hin (by omega) (by omega)
    rw [Int.toNat_of_nonneg p0.1] at this
    exact this
  have HDE : Hid (∀ w1, Calls Tryd.prog 18 #[.int .u32 (Rv.rd m.mem m.pc.toNat 4)] w1 fun e w' => e = .returned (.tuple #[rvVal rv0, .bool false]) ∧ Gr w1 w') := fun w1 => by
    have := rDecode_any (Rv.rd m.mem m.pc.toNat 4) i0 i1 w1
    rw [hd] at this
    exact this
  generalize Rv.rd m.mem m.pc.toNat 4 = z at *
  have HK : Hid (∀ w1, Gr W4 w1 → w1.cell? ⟨w.heap.size, 33, none⟩ = some (.int .u32 m.pc) ∧ w1.cell? ⟨w.heap.size, 34, none⟩ = some mv) := fun w1 g => ⟨(HS.out.gr g).r1.pc, (HS.out.gr g).r1.mem⟩
  have k33 := HS.out.r1.pc
  obtain ⟨pc, hpc⟩ : ∃ pc, m.pc = pc := ⟨_, rfl⟩
  rw [hpc] at k33 c1 p0 HIM HRD HK
  clear ho hN hw hl hf hpc h4 hin hd
  unfold rvVal rv0 at HDE
  dsimp only at HDE
  go_enter Tryd.func54, Tryd.ntmps54
  go_wp2_with (first
    | (refine wpList_loadM2 rfl (.tmp 1) rfl w.heap.size (by simp [Act.eval]) HR1.out ?_)
    | (refine wpList_store_row rfl 45 (.tmp 3) (.tmp 13) rfl W1.heap.size (machL m mv).toArray (by simp [Act.eval, Act.put]) (by simp [Act.eval, Act.put]) 45 (machL Mach.zero (.slice none 0 0)).toArray HZ.out (by rw [infoM]; simp [machL, HLR.out]) (by simp [machL, Mach.zero, HLR.out]) (machL_one m HON.out) ?_; rw [hW3])
    | (refine wpList_loadMg (by rfl) (.tmp 1) rfl w.heap.size (by simp [Act.eval]) HS.out.r1 ?_)
    | (go_at_call 79; refine (HIM.out _).mono ?_; rintro e w5 ⟨rfl, g5⟩; obtain ⟨j33, j34⟩ := HK.out _ g5; have HG5 := Lib.hid g5; clear g5)
    | (go_at_call 50; refine (HRD.out _ HG5.out).mono ?_; rintro e w6 ⟨rfl, rfl⟩)
    | (go_at_call 18; refine (HDE.out _).mono ?_; rintro e w7 ⟨rfl, g7⟩; have HS5 := Lib.hid (HS.out.gr ((HG5.out.trans g7).alloc (.cells #[.int .i64 0, .int .i64 0, .int .i64 0, .int .i64 0, .int .i64 0] 23))))
    | (refine wpList_loadM2 rfl (.tmp 3) rfl W1.heap.size (by simp [Act.eval]) HS5.out.r3 ?_)
    | (refine wpList_store_row rfl 45 (.tmp 2) (.tmp 39) rfl W.heap.size (machL { m with fin := 3 } mv).toArray (by simp [Act.eval, Act.put]) (by simp [Act.eval, Act.put]) 45 (machL Mach.zero (.slice none 0 0)).toArray HS5.out.r2 (by rw [infoM]; simp [machL, HLR.out]) (by simp [machL, Mach.zero, HLR.out]) (machL_one { m with fin := 3 } HON.out) ?_))
  have HE := Lib.hid (re_end (m6 := { m with fin := 3 }) HS5.out.r2 HLR.out HS5.out.mem (fun k hk => by have := HS5.out.own k hk; have := HS5.out.l1; omega) HS5.out.bel (by have := HS5.out.n1; have := HS5.out.l1; omega))
  refine bodyPost_ret (results_mach1 rfl _ _ W.heap.size 45 { m with fin := 3 } mv (by simp [Act.put]) HE.out.1) rfl ?_
  exact ⟨by rw [HT.out], by rw [HT.out]; exact HE.out.2.1, HE.out.2.2⟩
end Go.Proofs.YthiaaagoccpkcaaDoor

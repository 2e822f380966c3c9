/- step of the document: what is executed. -/
import Derived.Test.YthiaaagoccpkcaaDoorMaV
import Derived.Deep.CutRange
import Derived.Deep.DeepCutAuto
namespace Go.Proofs.YthiaaagoccpkcaaDoor
set_option linter.unusedSimpArgs false
set_option linter.unusedVariables false
open Go.RowKit

/-- The world of step, once the instruction and the machine to come are laid. -/
structure RX (N : Nat) (w0 w : World) (B1 B2 B3 B4 B6 : Nat) (m m6 : Mach) (mv : Value) (op d a b imm : Int) : Prop where
  rs : RS N w0 w B1 B2 B3 m mv
  r4 : w.heap[B4]? = some (.cells #[.int .i64 op, .int .i64 d, .int .i64 a, .int .i64 b, .int .i64 imm] 23 (0, 0))
  r6 : MRow w B6 45 m6 mv []
  l4 : B3 < B4
  l6 : B4 < B6
section
variable {N : Nat} {w0 w w' : World} {B1 B2 B3 B4 B6 : Nat} {m m6 m7 : Mach} {mv : Value} {op d a b imm : Int}
theorem RX.gr (h : RX N w0 w B1 B2 B3 B4 B6 m m6 mv op d a b imm) (g : Gr w w') : RX N w0 w' B1 B2 B3 B4 B6 m m6 mv op d a b imm :=
  ⟨h.rs.gr g, (g.heap _ (Array.getElem?_eq_some_iff.1 h.r4).1).trans h.r4, h.r6.gr g, h.l4, h.l6⟩
theorem RX.set (h : RX N w0 w B1 B2 B3 B4 B6 m m6 mv op d a b imm) (i : Nat) (u : Value) (h7 : MRow (w.setCell ⟨B6, i, none⟩ u) B6 45 m7 mv []) : RX N w0 (w.setCell ⟨B6, i, none⟩ u) B1 B2 B3 B4 B6 m m7 mv op d a b imm := by
  have h1 := h.rs.l1
  have h2 := h.rs.l2
  have h4 := h.l4
  have h6 := h.l6
  have hh : ∀ k, k < B6 → (w.setCell ⟨B6, i, none⟩ u).heap[k]? = w.heap[k]? := fun k hk => Below.heap_setCell w _ u k (fun e => by have e' : k = B6 := e; omega)
  refine ⟨⟨h.rs.r1.other (a := ⟨B6, i, none⟩) (fun e => by have e' : B1 = B6 := e; omega) u, (hh _ (by omega)).trans h.rs.r2, h.rs.r3.other (a := ⟨B6, i, none⟩) (fun e => by have e' : B3 = B6 := e; omega) u,
    h.rs.mem.setOther (fun e => by have := h.rs.own _ e; have e' : B6 < B1 := this; omega) u, h.rs.n1, h.rs.l1, h.rs.l2, h.rs.bel.setCell (p := ⟨B6, i, none⟩) (by have := h.rs.n1; show N ≤ B6; omega) u, h.rs.own⟩, (hh _ (by omega)).trans h.r4, h7, h.l4, h.l6⟩
theorem RX.cell (h : RX N w0 w B1 B2 B3 B4 B6 m m6 mv op d a b imm) : w.cell? ⟨B4, 0, none⟩ = some (.int .i64 op) ∧ w.cell? ⟨B4, 1, none⟩ = some (.int .i64 d) ∧ w.cell? ⟨B1, 33, none⟩ = some (.int .u32 m.pc) := by
  have y0 := cell_of_row _ _ 0 _ _ _ h.r4
  have y1 := cell_of_row _ _ 1 _ _ _ h.r4
  simp at y0 y1
  exact ⟨y0, y1, h.rs.r1.pc⟩
/-- A register of the machine to come is written. -/
theorem RX.reg (h : RX N w0 w B1 B2 B3 B4 B6 m m6 mv op d a b imm) (i : Nat) (hi : i < 32) (n : Int) : ∃ W, w.setCell ⟨B6, i, none⟩ (.int .u32 n) = W ∧ w.cell? ⟨B6, i, none⟩ = some (.int .u32 (m6.regs.getD i 0)) ∧ w.frozen? ⟨B6, i, none⟩ = false ∧
    Hid (RX N w0 W B1 B2 B3 B4 B6 m { m6 with regs := m6.regs.set i n } mv op d a b imm) :=
  ⟨_, rfl, h.r6.reg i hi, h.r6.frozen i, Lib.hid (h.set i _ (h.r6.setReg i hi n))⟩
theorem RX.pc (h : RX N w0 w B1 B2 B3 B4 B6 m m6 mv op d a b imm) (n : Int) : ∃ W, w.setCell ⟨B6, 33, none⟩ (.int .u32 n) = W ∧ w.cell? ⟨B6, 33, none⟩ = some (.int .u32 m6.pc) ∧ w.frozen? ⟨B6, 33, none⟩ = false ∧
    Hid (RX N w0 W B1 B2 B3 B4 B6 m { m6 with pc := n } mv op d a b imm) :=
  ⟨_, rfl, h.r6.pc, h.r6.frozen 33, Lib.hid (h.set 33 _ (h.r6.setPc n))⟩
theorem RX.fin (h : RX N w0 w B1 B2 B3 B4 B6 m m6 mv op d a b imm) (n : Int) : ∃ W, w.setCell ⟨B6, 35, none⟩ (.int .i64 n) = W ∧ w.cell? ⟨B6, 35, none⟩ = some (.int .i64 m6.fin) ∧ w.frozen? ⟨B6, 35, none⟩ = false ∧
    Hid (RX N w0 W B1 B2 B3 B4 B6 m { m6 with fin := n } mv op d a b imm) :=
  ⟨_, rfl, h.r6.fin, h.r6.frozen 35, Lib.hid (h.set 35 _ (h.r6.setFin n))⟩
/-- The end of step: the machine to come is handed back. -/
theorem RX.done (h : RX N w0 w B1 B2 B3 B4 B6 m m6 mv op d a b imm) (hm : m6 = Rv.stepM m) (hmem : m6.mem = m.mem) :
    MRow (w.setRow B2 (machL m6 mv).toArray) B2 45 m6 mv [] ∧ RStep N w0 m mv (.returned (.agg (machL m6 mv).toArray)) (w.setRow B2 (machL m6 mv).toArray) := by
  obtain ⟨e1, e2, e3⟩ := re_end (m6 := m6) h.rs.r2 h.r6.len h.rs.mem (fun k hk => by have := h.rs.own k hk; have := h.rs.l1; omega) h.rs.bel (by have := h.rs.n1; have := h.rs.l1; omega)
  exact ⟨e1, by rw [hm], by rw [← hm, hmem]; exact e2, e3⟩
end
/-- A fault is handed back. -/
theorem RS.done {N : Nat} {w0 w : World} {B1 B2 B3 : Nat} {m : Mach} {mv : Value} (h : RS N w0 w B1 B2 B3 m mv) (hm : Rv.stepM m = { m with fin := 3 }) :
    MRow (w.setRow B2 (machL { m with fin := 3 } mv).toArray) B2 45 { m with fin := 3 } mv [] ∧ RStep N w0 m mv (.returned (.agg (machL { m with fin := 3 } mv).toArray)) (w.setRow B2 (machL { m with fin := 3 } mv).toArray) := by
  obtain ⟨e1, e2, e3⟩ := re_end (m6 := { m with fin := 3 }) h.r2 h.r1.len h.mem (fun k hk => by have := h.own k hk; have := h.l1; omega) h.bel (by have := h.n1; have := h.l1; omega)
  exact ⟨e1, by rw [hm], by rw [hm]; exact e2, e3⟩
/-- While bytes are written. -/
structure RM (N : Nat) (w0 w : World) (B2 B6 : Nat) (m6 : Mach) (mv : Value) (xs : List Int) : Prop where
  r2 : w.heap[B2]? = some (.cells (machL Mach.zero (.slice none 0 0)).toArray 45 (0, 0))
  r6 : MRow w B6 45 m6 mv []
  mem : Own1 N 5 w mv (xs.map (Value.int .u8))
  bel : Below N w0 w
  own : ∀ k, mv.ownBlock = some k → k < B2
  n2 : N ≤ B2
  l6 : B2 < B6
section
variable {N : Nat} {w0 w w' : World} {B1 B2 B3 B4 B6 : Nat} {m m6 : Mach} {mv : Value} {op d a b imm : Int} {xs : List Int}
theorem RX.rm (h : RX N w0 w B1 B2 B3 B4 B6 m m6 mv op d a b imm) : RM N w0 w B2 B6 m6 mv m.mem :=
  ⟨h.rs.r2, h.r6, h.rs.mem, h.rs.bel, fun k hk => by have := h.rs.own k hk; have := h.rs.l1; omega, by have := h.rs.n1; have := h.rs.l1; omega, by have := h.rs.l2; have := h.l4; have := h.l6; omega⟩
theorem RM.gr (h : RM N w0 w B2 B6 m6 mv xs) (g : Gr w w') : RM N w0 w' B2 B6 m6 mv xs :=
  ⟨(g.heap _ (Array.getElem?_eq_some_iff.1 h.r2).1).trans h.r2, h.r6.gr g, h.mem.gr g, h.bel.trans (g.mono (by have := h.r6.lt; have := h.n2; have := h.l6; omega)), h.own, h.n2, h.l6⟩
theorem RM.byte {g n c : Nat} (h : RM N w0 w B2 B6 m6 (.slice (some ⟨g, 0, none⟩) n c) xs) (j : Nat) (hj : j < xs.length) (y : Int) : RM N w0 (w.setCell ⟨g, j, none⟩ (.int .u8 (y % 256))) B2 B6 m6 (.slice (some ⟨g, 0, none⟩) n c) (xs.set j (y % 256)) := by
  have hg := h.own g rfl
  have h6 := h.l6
  have hN : N ≤ g := (own_block_lt h.mem g rfl).1
  refine ⟨(Below.heap_setCell w ⟨g, j, none⟩ _ B2 (fun e => by have e' : B2 = g := e; omega)).trans h.r2, h.r6.other (a := ⟨g, j, none⟩) (fun e => by have e' : B6 = g := e; omega) _, ?_, h.bel.setCell (p := ⟨g, j, none⟩) hN _, h.own, h.n2, h.l6⟩
  have := h.mem.set j (by simpa using hj) (.int .u8 (y % 256))
  rw [List.map_set]
  exact this
theorem RM.zero (h : RM N w0 w B2 B6 m6 mv xs) : ∃ W, w.setCell ⟨B6, 0, none⟩ (.int .u32 0) = W ∧ w.cell? ⟨B6, 0, none⟩ = some (.int .u32 (m6.regs.getD 0 0)) ∧ w.frozen? ⟨B6, 0, none⟩ = false ∧ Hid (RM N w0 W B2 B6 { m6 with regs := m6.regs.set 0 0 } mv xs) := by
  have h6 := h.l6
  refine ⟨_, rfl, h.r6.reg 0 (by omega), h.r6.frozen 0, Lib.hid ⟨(Below.heap_setCell w ⟨B6, 0, none⟩ _ B2 (fun e => by have e' : B2 = B6 := e; omega)).trans h.r2, h.r6.setReg 0 (by omega) 0, h.mem.setOther (fun e => by have := h.own _ e; have e' : B6 < B2 := this; omega) _, h.bel.setCell (p := ⟨B6, 0, none⟩) (by have := h.n2; show N ≤ B6; omega) _, h.own, h.n2, h.l6⟩⟩
theorem RM.done (h : RM N w0 w B2 B6 m6 mv xs) (hm : Rv.stepM m = { m6 with mem := xs }) :
    MRow (w.setRow B2 (machL m6 mv).toArray) B2 45 m6 mv [] ∧ RStep N w0 m mv (.returned (.agg (machL m6 mv).toArray)) (w.setRow B2 (machL m6 mv).toArray) := by
  obtain ⟨e1, e2, e3⟩ := re_end (m6 := m6) h.r2 h.r6.len h.mem h.own h.bel h.n2
  exact ⟨e1, by rw [hm]; rfl, by rw [hm]; exact e2, e3⟩
end
theorem regs_end {l : List Int} (hl : l.length = 32) (h0 : l.getD 0 0 = 0) (d : Nat) (n : Int) : (l.set d n).set 0 0 = if 0 < (d : Int) then l.set d n else l := by
  have e : l.set 0 0 = l := by
    rw [List.getD_eq_getElem?_getD, List.getElem?_eq_getElem (by omega)] at h0
    have : (l.set 0 (l[0]'(by omega))) = l := List.set_getElem_self _
    rw [show (0 : Int) = l[0]'(by omega) from (by simpa using h0.symm)]
    exact this
  by_cases hd : d = 0
  · subst hd
    rw [if_neg (by omega), List.set_set, e]
  · rw [if_pos (by omega), List.set_comm _ _ hd, e]
set_option maxRecDepth 100000 in
set_option maxHeartbeats 16000000 in
theorem rstep_some {N : Nat} {w : World} {m : Mach} {mv : Value} (ho : Own1 N 5 w mv (m.mem.map (Value.int .u8))) (hN : N ≤ w.heap.size) (hw : Rv.WfM m) (h00 : m.regs.getD 0 0 = 0) (hl : m.mem.length ≤ 32768) (hf : ¬ (m.mem.length < m.pc.toNat + 4 ∨ m.pc % 4 ≠ 0)) (x : RvI) (hd : Rv.decode (Rv.rd m.mem m.pc.toNat 4) = some x) :
    Calls Tryd.prog 54 #[.agg (machL m mv).toArray] w (RStep N w m mv) := by
  obtain ⟨W, W1, W2, W3, W4, hW, hW1, hW2, hW3, hW4, HR1, HZ, HR3, HS, HG⟩ := rstep_front ho hN hw
  have HST : Hid (Rv.stepO m = Rv.execO m x) := by
    show _ = _
    unfold Rv.stepO
    rw [if_neg hf, hd]
  have h4 : m.pc % 4 = 0 := by
    rcases Decidable.em (m.pc % 4 = 0) with h' | h'
    · exact h'
    · exact absurd (.inr h') hf
  have hin : m.pc.toNat + 4 ≤ m.mem.length := by
    rcases Nat.lt_or_ge m.mem.length (m.pc.toNat + 4) with h' | h'
    · exact absurd (.inl h') hf
    · exact h'
  have HLR := Lib.hid hw.regs
  have HON := Lib.hid ho.slice1
  have HWF := Lib.hid hw
  have HL := Lib.hid hl
  have H00 := Lib.hid h00
  have HO := Lib.hid ho
  have k35 := HR3.out.fin
  have f35 := HR3.out.frozen 35
  have c1 : (m.pc % 4 != 0) = false := by simpa using h4
  rw [zeroM_eq] at hW1 hW2
  have p0 := hw.pc
  have HIM : Hid (∀ w1, Calls Tryd.prog 79 #[.agg (machL m mv).toArray, .int .u32 m.pc, .int .i64 4] w1 fun e w' => e = .returned (.bool true) ∧ Gr w1 w') := fun w1 =>
    inMem_at ho (by simp) hw hl m.pc 4 p0.1 p0.2 (by omega) true (by rw [decide_eq_true_iff]; omega) w1
  obtain ⟨i0, i1⟩ := Rv.rd4_in hw.mem m.pc.toNat
  have HX := Lib.hid (valid_in x (Rv.decode_word _ i0 i1 x hd).1)
  have HRD : Hid (∀ w1, Gr W4 w1 → Calls Tryd.prog 50 #[mv, .int .i64 m.pc, .int .i64 4] w1 fun e w' => e = .returned (.int .u32 (Rv.rd m.mem m.pc.toNat 4)) ∧ w1 = w') := fun w1 g => by
    have hb := own_bytes (HS.out.mem.gr g) hw.mem (by omega)
    have := read_any mv m.mem m.pc.toNat 4 w1 hb hin (by omega) (by omega)
    rw [Int.toNat_of_nonneg p0.1] at this
    exact this
  have HDE : Hid (∀ w1, Calls Tryd.prog 18 #[.int .u32 (Rv.rd m.mem m.pc.toNat 4)] w1 fun e w' => e = .returned (.tuple #[rvVal x, .bool true]) ∧ Gr w1 w') := fun w1 => by
    have := rDecode_any (Rv.rd m.mem m.pc.toNat 4) i0 i1 w1
    rw [hd] at this
    exact this
  generalize Rv.rd m.mem m.pc.toNat 4 = z at *
  have HK : Hid (∀ w1, Gr W4 w1 → w1.cell? ⟨w.heap.size, 33, none⟩ = some (.int .u32 m.pc) ∧ w1.cell? ⟨w.heap.size, 34, none⟩ = some mv) := fun w1 g => ⟨(HS.out.gr g).r1.pc, (HS.out.gr g).r1.mem⟩
  have k33 := HS.out.r1.pc
  obtain ⟨pc, hpc⟩ : ∃ pc, m.pc = pc := ⟨_, rfl⟩
  have HPC := Lib.hid hpc
  rw [hpc] at k33 c1 p0 HIM HRD HK
  obtain ⟨op, d, a, b, imm⟩ := x
  unfold rvVal at HDE
  dsimp only at HDE HX HST
  obtain ⟨⟨o0, o1⟩, ⟨d0, d1⟩, ⟨a0, a1⟩, ⟨c0, c2⟩, m0, m1⟩ := HX.out
  obtain ⟨op, rfl⟩ : ∃ k : Nat, op = k := ⟨op.toNat, by omega⟩
  obtain ⟨d, rfl⟩ : ∃ k : Nat, d = k := ⟨d.toNat, by omega⟩
  obtain ⟨a, rfl⟩ : ∃ k : Nat, a = k := ⟨a.toNat, by omega⟩
  obtain ⟨b, rfl⟩ : ∃ k : Nat, b = k := ⟨b.toNat, by omega⟩
  have HSB : Hid (W1.heap.size < W4.heap.size) := HS.out.r3.lt
  have HFM0 : Hid (∀ w1, Calls Tryd.prog 41 #[] w1 fun e w' => ∃ B, e = .returned (.slice (some ⟨B, 0, none⟩) 41 41) ∧ Hid (w'.cell? ⟨B, op * 4, none⟩ = some (.int .i64 (Rv.shapeN op))) ∧ Gr w1 w') := fun w1 =>
    (forms_any w1).mono fun _ _ ⟨h1, h2, h3⟩ => ⟨_, h1, (cell_of_row _ _ _ _ _ _ h2.out).trans (form_cells op (by omega)).1, h3⟩
  clear ho hN hw hl hf hpc h4 hin hd h00
  go_enter Tryd.func54, Tryd.ntmps54
  go_wp2_with (first
    | (refine wpList_loadM2 rfl (.tmp 1) rfl w.heap.size (by simp [Act.eval]) HR1.out ?_)
    | (refine wpList_store_row rfl 45 (.tmp 3) (.tmp 13) rfl W1.heap.size (machL m mv).toArray (by simp [Act.eval, Act.put]) (by simp [Act.eval, Act.put]) 45 (machL Mach.zero (.slice none 0 0)).toArray HZ.out (by rw [infoM]; simp [machL, HLR.out]) (by simp [machL, Mach.zero, HLR.out]) (machL_one m HON.out) ?_; rw [hW3])
    | (refine wpList_loadMg (by rfl) (.tmp 1) rfl w.heap.size (by simp [Act.eval]) HS.out.r1 ?_)
    | (go_at_call 79; refine (HIM.out _).mono ?_; rintro e w5 ⟨rfl, g5⟩; obtain ⟨j33, j34⟩ := HK.out _ g5; have HG5 := Lib.hid g5; clear g5)
    | (go_at_call 50; refine (HRD.out _ HG5.out).mono ?_; rintro e w6 ⟨rfl, rfl⟩)
    | (go_at_call 18; refine (HDE.out _).mono ?_; rintro e w7 ⟨rfl, g7⟩; have HG7 : Hid (Gr W4 w7) := HG5.out.trans g7; clear g7; obtain ⟨W5, hW5⟩ : ∃ W5, w7.alloc (.cells #[.int .i64 op, .int .i64 d, .int .i64 a, .int .i64 b, .int .i64 imm] 23) = W5 := ⟨_, rfl⟩; have HG8 : Hid (Gr W4 W5) := by { rw [← hW5]; exact HG7.out.alloc _ }; obtain ⟨W6, hW6⟩ : ∃ W6, W5.alloc (.cells (machL Mach.zero (.slice none 0 0)).toArray 45) = W6 := ⟨_, rfl⟩; have HZ6 : Hid (W6.heap[W5.heap.size]? = some (.cells (machL Mach.zero (.slice none 0 0)).toArray 45 (0, 0))) := by { rw [← hW6]; exact heap_alloc_new W5 _ }; obtain ⟨W7, hW7⟩ : ∃ W7, W6.setRow W5.heap.size (machL m mv).toArray = W7 := ⟨_, rfl⟩; have HW7 := Lib.hid hW7; have HGE : Hid (Gr W5 W7) := by { rw [← hW7, ← hW6]; exact Gr.setRow ((Gr.refl W5).alloc _) (Nat.le_refl _) _ }; rw [zeroM_eq] at hW6)
    | (refine wpList_loadM2 rfl (.tmp 1) rfl w.heap.size (by simp [Act.eval]) (HS.out.gr HG8.out).r1 ?_)
    | (refine wpList_store_row rfl 45 (.tmp 6) (.tmp 40) rfl W5.heap.size (machL m mv).toArray (by simp [Act.eval, Act.put]) (by simp [Act.eval, Act.put]) 45 (machL Mach.zero (.slice none 0 0)).toArray HZ6.out (by rw [infoM]; simp [machL, HLR.out]) (by simp [machL, Mach.zero, HLR.out]) (machL_one m HON.out) ?_; rw [hW7]))
  go_frame
  have hRX : RX N w W7 w.heap.size W.heap.size W1.heap.size w7.heap.size W5.heap.size m m mv op d a b imm := by
    have e4 : W5.heap[w7.heap.size]? = some (.cells #[.int .i64 op, .int .i64 d, .int .i64 a, .int .i64 b, .int .i64 imm] 23 (0, 0)) := by rw [← hW5]; exact heap_alloc_new w7 _
    have e6 := MRow.setRow (m := m) HLR.out HZ6.out mv []
    rw [List.append_nil, HW7.out] at e6
    have l7 := HG7.out.size
    have l8 : W5.heap.size = w7.heap.size + 1 := by rw [← hW5]; simp
    exact ⟨HS.out.gr (HG8.out.trans HGE.out), (HGE.out.heap _ (by omega)).trans e4, e6, by have := HSB.out; omega, by omega⟩
  have HRX := Lib.hid hRX
  have ra := hRX.rs.r1.reg a (by omega)
  have rb := hRX.rs.r1.reg b (by omega)
  have e1 := hRX.rs.r1.pc
  have b0 := cell_of_row _ _ 0 _ _ _ hRX.r4
  have b1 := cell_of_row _ _ 1 _ _ _ hRX.r4
  have b2 := cell_of_row _ _ 2 _ _ _ hRX.r4
  have b3 := cell_of_row _ _ 3 _ _ _ hRX.r4
  have b4 := cell_of_row _ _ 4 _ _ _ hRX.r4
  simp at b0 b1 b2 b3 b4
  obtain ⟨A, hA⟩ : ∃ A, m.regs.getD a 0 = A := ⟨_, rfl⟩
  obtain ⟨Bv, hBv⟩ : ∃ A, m.regs.getD b 0 = A := ⟨_, rfl⟩
  rw [hA] at ra
  rw [hBv] at rb
  have HR32 : Hid ((0 ≤ A ∧ A < 4294967296) ∧ 0 ≤ Bv ∧ Bv < 4294967296) := by
    rw [← hA, ← hBv]
    exact ⟨reg_in HWF.out a (by omega), reg_in HWF.out b (by omega)⟩
  have HA := Lib.hid hA
  have HBv := Lib.hid hBv
  have a2 : (a : Int) < 32 := a1
  have c3 : (b : Int) < 32 := c2
  clear hRX hA hBv hW hW1 hW2 hW3 hW4 hW5 hW6 hW7 j33 j34 k33 k35 f35 c1
  go_quiet (fail)
  obtain ⟨W8, hW8⟩ : ∃ W8, W7.drewN nq = W8 := ⟨_, rfl⟩
  have hRX8 : RX N w W8 w.heap.size W.heap.size W1.heap.size w7.heap.size W5.heap.size m m mv op d a b imm := by rw [← hW8]; exact HRX.out.gr ((Gr.refl _).drewN _)
  rw [hW8]
  have k33 := hRX8.rs.r1.pc
  rw [HPC.out] at k33
  have j33 := hRX8.r6.pc
  have f33 := hRX8.r6.frozen 33
  obtain ⟨W9, hW9⟩ : ∃ W9, W8.setCell ⟨W5.heap.size, 33, none⟩ (.int .u32 ((pc + 4) % 4294967296)) = W9 := ⟨_, rfl⟩
  have hRX9 : RX N w W9 w.heap.size W.heap.size W1.heap.size w7.heap.size W5.heap.size m { m with pc := (pc + 4) % 4294967296 } mv op d a b imm := by
    rw [← hW9]; exact hRX8.set 33 _ (hRX8.r6.setPc _)
  have HRX9 := Lib.hid hRX9
  obtain ⟨I, hI⟩ : ∃ I, imm % 4294967296 = I := ⟨_, rfl⟩
  have i2 : 0 ≤ I := by omega
  have i3 : I < 4294967296 := by omega
  have HII := Lib.hid hI
  rw [hI]
  clear HK HRD HIM HDE HR1 HZ HR3 HS HG HO HSB HG5 HG7 HG8 HZ6 HW7 HGE HRX hW8 W3 W2 W4
  generalize w.heap.size = B1 at *
  generalize W.heap.size = B2 at *
  generalize W1.heap.size = B3 at *
  generalize w7.heap.size = B4 at *
  generalize W5.heap.size = B6 at *
  obtain ⟨s, hs⟩ : ∃ s, Rv.shapeN op = s := ⟨_, rfl⟩
  have HS := Lib.hid hs
  have hsr := shape_range' op
  have HSR : Hid (Rv.shapeN op = 0 ∨ Rv.shapeN op = 1 ∨ Rv.shapeN op = 2 ∨ Rv.shapeN op = 3 ∨ Rv.shapeN op = 4 ∨ Rv.shapeN op = 5 ∨ Rv.shapeN op = 6 ∨ Rv.shapeN op = 7 ∨ Rv.shapeN op = 8 ∨ Rv.shapeN op = 9) := hsr
  have HFM := HFM0
  rw [hs] at HFM HSR
  have HE : Hid (Rv.stepO m = Rv.execS m s op d A Bv I) := by
    show _ = _
    rw [HST.out, ← HS.out, ← HA.out, ← HBv.out, ← HII.out]; rfl
  have o9 : (op : Int) < 41 := by omega
  have x40 := cell_of_row _ _ 0 _ _ _ hRX9.r4
  simp at x40
  clear HFM0 hs hsr hI hRX9 ra rb e1 b0 b1 b2 b3 b4
  go_wp2
  clear k33 j33 f33 hW9 hRX8
  go_cut [64] from 13 to 63 (fun s64 wx => s64 = .int .i64 s ∧ Hid (RX N w wx B1 B2 B3 B4 B6 m { m with pc := (pc + 4) % 4294967296 } mv op d a b imm))
  case first =>
    go_region_with (go_at_call 41; (refine (HFM.out _).mono ?_); rintro e3 w3 ⟨B, rfl, HC, g30⟩; have g3 : Gr W9 w3 := (Gr.refl W9).drew.trans g30; have hc3 := HC.out; have c03 := cell_of_row _ _ 0 _ _ _ (HRX9.out.gr g3).r4; simp at c03)
    all_goals (go_wp2_with (fail); go_meet)
    all_goals with_reducible exact ⟨rfl, Lib.hid (HRX9.out.gr g3)⟩
  case rest =>
    obtain ⟨rfl, HX9⟩ := hcut
    have HR0 : Hid (∀ R, ((m.regs.set d R).set 0 0 = if 0 < (d : Int) then m.regs.set d R else m.regs) ∧ m.regs.set 0 0 = m.regs) := by
      intro R
      have h1 := regs_end HLR.out H00.out d R
      have h2 := regs_end HLR.out H00.out 0 0
      rw [List.set_set, if_neg (by omega)] at h2
      exact ⟨h1, h2⟩
    obtain ⟨x0, x1, x33⟩ := HX9.out.cell
    rw [HPC.out] at x33
    have dI : (d : Int) < 32 := d1
    clear HFM HRX9
    rcases HSR.out with rfl | rfl | rfl | rfl | rfl | rfl | rfl | rfl | rfl | rfl
    · have hop : op ≤ 14 := by have h := HS.out; unfold Rv.shapeN at h; repeat' split at h; all_goals omega
      have HR : Hid (Rv.stepM m = Rv.setR m d (Rv.calcM op A Bv)) := by
        show _ = _
        unfold Rv.stepM
        rw [HE.out]
        simp [Rv.execS]
      have HCL : Hid (∀ W, Calls Tryd.prog 80 #[.int .i64 (op : Nat), .int .u32 A, .int .u32 Bv] W fun e w' => e = .returned (.int .u32 (Rv.calcM op A Bv)) ∧ Gr W w') := fun W => (result_at op (by omega) A Bv HR32.out.1.1 HR32.out.1.2 HR32.out.2.1 HR32.out.2.2 W).mono fun _ _ h => ⟨h.1, by obtain ⟨k, hk⟩ := h.2; rw [hk]; exact (Gr.refl W).drewN k⟩
      generalize Rv.calcM op A Bv = R at *
      go_wp2
      go_region_with (go_at_call 80; (refine (HCL.out _).mono ?_); rintro e w3 ⟨rfl, g3⟩; have HX3 := Lib.hid (HX9.out.gr ((Gr.refl wc).drew.trans g3)); obtain ⟨W5, hW5, kd, fd, HX5⟩ := HX3.out.reg d (by omega) R; obtain ⟨W6, hW6, k0, f0, HX6⟩ := HX5.out.reg 0 (by omega) 0; obtain ⟨y0, y1, y33⟩ := HX3.out.cell)
      all_goals
        go_wp2_with (first
          | (refine wpList_loadM2 rfl (.tmp 6) rfl B6 (by simp [Act.eval]) HX6.out.r6 ?_)
          | (refine wpList_store_row rfl 45 (.tmp 2) (.tmp 210) rfl B2 (machL { m with pc := (pc + 4) % 4294967296, regs := (m.regs.set d R).set 0 0 } mv).toArray (by simp [Act.eval, Act.put]) (by simp [Act.eval, Act.put]) 45 (machL Mach.zero (.slice none 0 0)).toArray HX6.out.rs.r2 (by rw [infoM]; simp [machL, HLR.out]) (by simp [machL, Mach.zero, HLR.out]) (machL_one _ HON.out) ?_))
        obtain ⟨q1, q2⟩ := HX6.out.done (by rw [HR.out, (HR0.out R).1]; unfold Rv.setR; rw [HPC.out]; rfl) rfl
        exact bodyPost_ret (results_mach1 rfl _ _ B2 45 _ mv (by simp [Act.put]) q1) rfl q2
    · have hop : 15 ≤ op ∧ op ≤ 20 := by have h := HS.out; unfold Rv.shapeN at h; repeat' split at h; all_goals omega
      have HR : Hid (Rv.stepM m = Rv.setR m d (Rv.calcM op A I)) := by
        show _ = _
        unfold Rv.stepM
        rw [HE.out]
        simp [Rv.execS]
      have HCL : Hid (∀ W, Calls Tryd.prog 80 #[.int .i64 (op : Nat), .int .u32 A, .int .u32 I] W fun e w' => e = .returned (.int .u32 (Rv.calcM op A I)) ∧ Gr W w') := fun W => (result_at op (by omega) A I HR32.out.1.1 HR32.out.1.2 (by omega) (by omega) W).mono fun _ _ h => ⟨h.1, by obtain ⟨k, hk⟩ := h.2; rw [hk]; exact (Gr.refl W).drewN k⟩
      generalize Rv.calcM op A I = R at *
      go_wp2
      go_region_with (go_at_call 80; (refine (HCL.out _).mono ?_); rintro e w3 ⟨rfl, g3⟩; have HX3 := Lib.hid (HX9.out.gr ((Gr.refl wc).drew.trans g3)); obtain ⟨W5, hW5, kd, fd, HX5⟩ := HX3.out.reg d (by omega) R; obtain ⟨W6, hW6, k0, f0, HX6⟩ := HX5.out.reg 0 (by omega) 0; obtain ⟨y0, y1, y33⟩ := HX3.out.cell)
      all_goals
        go_wp2_with (first
          | (refine wpList_loadM2 rfl (.tmp 6) rfl B6 (by simp [Act.eval]) HX6.out.r6 ?_)
          | (refine wpList_store_row rfl 45 (.tmp 2) (.tmp 210) rfl B2 (machL { m with pc := (pc + 4) % 4294967296, regs := (m.regs.set d R).set 0 0 } mv).toArray (by simp [Act.eval, Act.put]) (by simp [Act.eval, Act.put]) 45 (machL Mach.zero (.slice none 0 0)).toArray HX6.out.rs.r2 (by rw [infoM]; simp [machL, HLR.out]) (by simp [machL, Mach.zero, HLR.out]) (machL_one _ HON.out) ?_))
        obtain ⟨q1, q2⟩ := HX6.out.done (by rw [HR.out, (HR0.out R).1]; unfold Rv.setR; rw [HPC.out]; rfl) rfl
        exact bodyPost_ret (results_mach1 rfl _ _ B2 45 _ mv (by simp [Act.put]) q1) rfl q2
    · have hop : 21 ≤ op ∧ op ≤ 23 := by have h := HS.out; unfold Rv.shapeN at h; repeat' split at h; all_goals omega
      have HR : Hid (Rv.stepM m = Rv.setR m d (Rv.calcM op A I)) := by
        show _ = _
        unfold Rv.stepM
        rw [HE.out]
        simp [Rv.execS]
      have HCL : Hid (∀ W, Calls Tryd.prog 80 #[.int .i64 (op : Nat), .int .u32 A, .int .u32 I] W fun e w' => e = .returned (.int .u32 (Rv.calcM op A I)) ∧ Gr W w') := fun W => (result_at op (by omega) A I HR32.out.1.1 HR32.out.1.2 (by omega) (by omega) W).mono fun _ _ h => ⟨h.1, by obtain ⟨k, hk⟩ := h.2; rw [hk]; exact (Gr.refl W).drewN k⟩
      generalize Rv.calcM op A I = R at *
      go_wp2
      go_region_with (go_at_call 80; (refine (HCL.out _).mono ?_); rintro e w3 ⟨rfl, g3⟩; have HX3 := Lib.hid (HX9.out.gr ((Gr.refl wc).drew.trans g3)); obtain ⟨W5, hW5, kd, fd, HX5⟩ := HX3.out.reg d (by omega) R; obtain ⟨W6, hW6, k0, f0, HX6⟩ := HX5.out.reg 0 (by omega) 0; obtain ⟨y0, y1, y33⟩ := HX3.out.cell)
      all_goals
        go_wp2_with (first
          | (refine wpList_loadM2 rfl (.tmp 6) rfl B6 (by simp [Act.eval]) HX6.out.r6 ?_)
          | (refine wpList_store_row rfl 45 (.tmp 2) (.tmp 210) rfl B2 (machL { m with pc := (pc + 4) % 4294967296, regs := (m.regs.set d R).set 0 0 } mv).toArray (by simp [Act.eval, Act.put]) (by simp [Act.eval, Act.put]) 45 (machL Mach.zero (.slice none 0 0)).toArray HX6.out.rs.r2 (by rw [infoM]; simp [machL, HLR.out]) (by simp [machL, Mach.zero, HLR.out]) (machL_one _ HON.out) ?_))
        obtain ⟨q1, q2⟩ := HX6.out.done (by rw [HR.out, (HR0.out R).1]; unfold Rv.setR; rw [HPC.out]; rfl) rfl
        exact bodyPost_ret (results_mach1 rfl _ _ B2 45 _ mv (by simp [Act.put]) q1) rfl q2
    · have HR : Hid (Rv.stepM m = Rv.setR m d (I * 4096 % 4294967296)) := by
        show _ = _
        unfold Rv.stepM
        rw [HE.out]
        simp [Rv.execS]
      obtain ⟨W5, hW5, kd, fd, HX5⟩ := HX9.out.reg d (by omega) (I * 4096 % 4294967296)
      obtain ⟨W6, hW6, k0, f0, HX6⟩ := HX5.out.reg 0 (by omega) 0
      go_wp2_with (first
          | (refine wpList_loadM2 rfl (.tmp 6) rfl B6 (by simp [Act.eval]) HX6.out.r6 ?_)
          | (refine wpList_store_row rfl 45 (.tmp 2) (.tmp 210) rfl B2 (machL { m with pc := (pc + 4) % 4294967296, regs := (m.regs.set d (I * 4096 % 4294967296)).set 0 0 } mv).toArray (by simp [Act.eval, Act.put]) (by simp [Act.eval, Act.put]) 45 (machL Mach.zero (.slice none 0 0)).toArray HX6.out.rs.r2 (by rw [infoM]; simp [machL, HLR.out]) (by simp [machL, Mach.zero, HLR.out]) (machL_one _ HON.out) ?_))
      obtain ⟨q1, q2⟩ := HX6.out.done (by rw [HR.out, (HR0.out _).1]; unfold Rv.setR; rw [HPC.out]; rfl) rfl
      exact bodyPost_ret (results_mach1 rfl _ _ B2 45 _ mv (by simp [Act.put]) q1) rfl q2
    · have hop : op = 25 ∨ op = 26 ∨ op = 27 := by have h := HS.out; unfold Rv.shapeN at h; repeat' split at h; all_goals omega
      rcases hop with rfl | rfl | rfl
      · have hsz : Rv.sizeM 25 = 1 := by decide
        have HI : Hid (0 ≤ (A + I) % 4294967296 ∧ (A + I) % 4294967296 < 4294967296) := by show _ ∧ _; omega
        by_cases hlt : m.mem.length < ((A + I) % 4294967296).toNat + 1
        · have HR : Hid (Rv.stepM m = { m with fin := 3 }) := by
            show _ = _
            unfold Rv.stepM
            rw [HE.out, execS_4, hsz, if_pos hlt]
          have HIM : Hid (∀ w1, Calls Tryd.prog 79 #[.agg (machL m mv).toArray, .int .u32 ((A + I) % 4294967296), .int .i64 1] w1 fun e w' => e = .returned (.bool false) ∧ Gr w1 w') := fun w1 =>
            inMem_at HX9.out.rs.mem (by simp) HWF.out HL.out ((A + I) % 4294967296) 1 HI.out.1 HI.out.2 (by omega) false (by rw [decide_eq_false_iff_not]; omega) w1
          clear hlt hsz
          go_wp2_with (first
            | (refine wpList_loadM2 rfl (.tmp 1) rfl B1 (by simp [Act.eval]) HX9.out.rs.r1 ?_)
            | (go_at_call 79; refine (HIM.out _).mono ?_; rintro e w5 ⟨rfl, g5⟩; have HX5 := Lib.hid (HX9.out.gr g5); clear g5)
            | (refine wpList_loadM2 rfl (.tmp 3) rfl B3 (by simp [Act.eval]) HX5.out.rs.r3 ?_)
            | (refine wpList_store_row rfl 45 (.tmp 2) (.tmp 110) rfl B2 (machL { m with fin := 3 } mv).toArray (by simp [Act.eval, Act.put]) (by simp [Act.eval, Act.put]) 45 (machL Mach.zero (.slice none 0 0)).toArray HX5.out.rs.r2 (by rw [infoM]; simp [machL, HLR.out]) (by simp [machL, Mach.zero, HLR.out]) (machL_one { m with fin := 3 } HON.out) ?_))
          obtain ⟨q1, q2⟩ := HX5.out.rs.done HR.out
          exact bodyPost_ret (results_mach1 rfl _ _ B2 45 { m with fin := 3 } mv (by simp [Act.put]) q1) rfl q2
        · have HR : Hid (Rv.stepM m = Rv.setR m d (Rv.rd m.mem ((A + I) % 4294967296).toNat 1)) := by
            show _ = _
            unfold Rv.stepM
            rw [HE.out, execS_4, hsz, if_neg hlt]
          have HIM : Hid (∀ w1, Calls Tryd.prog 79 #[.agg (machL m mv).toArray, .int .u32 ((A + I) % 4294967296), .int .i64 1] w1 fun e w' => e = .returned (.bool true) ∧ Gr w1 w') := fun w1 =>
            inMem_at HX9.out.rs.mem (by simp) HWF.out HL.out ((A + I) % 4294967296) 1 HI.out.1 HI.out.2 (by omega) true (by rw [decide_eq_true_iff]; omega) w1
          have HRD : Hid (∀ w1, Gr wc w1 → Calls Tryd.prog 50 #[mv, .int .i64 ((A + I) % 4294967296), .int .i64 1] w1 fun e w' => e = .returned (.int .u32 (Rv.rd m.mem ((A + I) % 4294967296).toNat 1)) ∧ Gr w1 w') := fun w1 g => by
            have hb := own_bytes (HX9.out.gr g).rs.mem HWF.out.mem (by have := HL.out; omega)
            have := read_any mv m.mem ((A + I) % 4294967296).toNat 1 w1 hb (by omega) (by omega) (by omega)
            rw [Int.toNat_of_nonneg HI.out.1] at this
            exact this.mono fun _ _ h => ⟨h.1, h.2 ▸ Gr.refl _⟩
          clear hlt hsz
          generalize Rv.rd m.mem ((A + I) % 4294967296).toNat 1 = V at *
          go_wp2_with (first
            | (refine wpList_loadM2 rfl (.tmp 1) rfl B1 (by simp [Act.eval]) HX9.out.rs.r1 ?_)
            | (go_at_call 79; refine (HIM.out _).mono ?_; rintro e w5 ⟨rfl, g5⟩; have HX5 := Lib.hid (HX9.out.gr g5); have HG5 := Lib.hid g5; clear g5; obtain ⟨v0, v1, v33⟩ := HX5.out.cell; have v34 := HX5.out.rs.r1.mem))
          have HWR : Hid (IntKind.i64.wrap (IntKind.u32.wrap (A + I)) = (A + I) % 4294967296) := by
            show _ = _
            have e1 : IntKind.u32.wrap (A + I) = (A + I) % 4294967296 := rfl
            rw [e1]
            exact IntWalk.i64_in _ (by omega)
          go_region_with (go_at_call 50; rw [HWR.out]; (refine (HRD.out _ HG5.out.drew).mono ?_); rintro e w3 ⟨rfl, g3⟩; have HX3 := Lib.hid (HX5.out.gr ((Gr.refl w5).drew.trans g3)); obtain ⟨W5, hW5, kd, fd, HX8⟩ := HX3.out.reg d (by omega) V; obtain ⟨W6, hW6, k0, f0, HX6⟩ := HX8.out.reg 0 (by omega) 0; obtain ⟨y0, y1, y33⟩ := HX3.out.cell)
          all_goals
            go_wp2_with (first
          | (refine wpList_loadM2 rfl (.tmp 6) rfl B6 (by simp [Act.eval]) HX6.out.r6 ?_)
          | (refine wpList_store_row rfl 45 (.tmp 2) (.tmp 210) rfl B2 (machL { m with pc := (pc + 4) % 4294967296, regs := (m.regs.set d V).set 0 0 } mv).toArray (by simp [Act.eval, Act.put]) (by simp [Act.eval, Act.put]) 45 (machL Mach.zero (.slice none 0 0)).toArray HX6.out.rs.r2 (by rw [infoM]; simp [machL, HLR.out]) (by simp [machL, Mach.zero, HLR.out]) (machL_one _ HON.out) ?_))
            obtain ⟨q1, q2⟩ := HX6.out.done (by rw [HR.out, (HR0.out V).1]; unfold Rv.setR; rw [HPC.out]; rfl) rfl
            exact bodyPost_ret (results_mach1 rfl _ _ B2 45 _ mv (by simp [Act.put]) q1) rfl q2
      · have hsz : Rv.sizeM 26 = 2 := by decide
        have HI : Hid (0 ≤ (A + I) % 4294967296 ∧ (A + I) % 4294967296 < 4294967296) := by show _ ∧ _; omega
        by_cases hlt : m.mem.length < ((A + I) % 4294967296).toNat + 2
        · have HR : Hid (Rv.stepM m = { m with fin := 3 }) := by
            show _ = _
            unfold Rv.stepM
            rw [HE.out, execS_4, hsz, if_pos hlt]
          have HIM : Hid (∀ w1, Calls Tryd.prog 79 #[.agg (machL m mv).toArray, .int .u32 ((A + I) % 4294967296), .int .i64 2] w1 fun e w' => e = .returned (.bool false) ∧ Gr w1 w') := fun w1 =>
            inMem_at HX9.out.rs.mem (by simp) HWF.out HL.out ((A + I) % 4294967296) 2 HI.out.1 HI.out.2 (by omega) false (by rw [decide_eq_false_iff_not]; omega) w1
          clear hlt hsz
          go_wp2_with (first
            | (refine wpList_loadM2 rfl (.tmp 1) rfl B1 (by simp [Act.eval]) HX9.out.rs.r1 ?_)
            | (go_at_call 79; refine (HIM.out _).mono ?_; rintro e w5 ⟨rfl, g5⟩; have HX5 := Lib.hid (HX9.out.gr g5); clear g5)
            | (refine wpList_loadM2 rfl (.tmp 3) rfl B3 (by simp [Act.eval]) HX5.out.rs.r3 ?_)
            | (refine wpList_store_row rfl 45 (.tmp 2) (.tmp 110) rfl B2 (machL { m with fin := 3 } mv).toArray (by simp [Act.eval, Act.put]) (by simp [Act.eval, Act.put]) 45 (machL Mach.zero (.slice none 0 0)).toArray HX5.out.rs.r2 (by rw [infoM]; simp [machL, HLR.out]) (by simp [machL, Mach.zero, HLR.out]) (machL_one { m with fin := 3 } HON.out) ?_))
          obtain ⟨q1, q2⟩ := HX5.out.rs.done HR.out
          exact bodyPost_ret (results_mach1 rfl _ _ B2 45 { m with fin := 3 } mv (by simp [Act.put]) q1) rfl q2
        · have HR : Hid (Rv.stepM m = Rv.setR m d (Rv.rd m.mem ((A + I) % 4294967296).toNat 2)) := by
            show _ = _
            unfold Rv.stepM
            rw [HE.out, execS_4, hsz, if_neg hlt]
          have HIM : Hid (∀ w1, Calls Tryd.prog 79 #[.agg (machL m mv).toArray, .int .u32 ((A + I) % 4294967296), .int .i64 2] w1 fun e w' => e = .returned (.bool true) ∧ Gr w1 w') := fun w1 =>
            inMem_at HX9.out.rs.mem (by simp) HWF.out HL.out ((A + I) % 4294967296) 2 HI.out.1 HI.out.2 (by omega) true (by rw [decide_eq_true_iff]; omega) w1
          have HRD : Hid (∀ w1, Gr wc w1 → Calls Tryd.prog 50 #[mv, .int .i64 ((A + I) % 4294967296), .int .i64 2] w1 fun e w' => e = .returned (.int .u32 (Rv.rd m.mem ((A + I) % 4294967296).toNat 2)) ∧ Gr w1 w') := fun w1 g => by
            have hb := own_bytes (HX9.out.gr g).rs.mem HWF.out.mem (by have := HL.out; omega)
            have := read_any mv m.mem ((A + I) % 4294967296).toNat 2 w1 hb (by omega) (by omega) (by omega)
            rw [Int.toNat_of_nonneg HI.out.1] at this
            exact this.mono fun _ _ h => ⟨h.1, h.2 ▸ Gr.refl _⟩
          clear hlt hsz
          generalize Rv.rd m.mem ((A + I) % 4294967296).toNat 2 = V at *
          go_wp2_with (first
            | (refine wpList_loadM2 rfl (.tmp 1) rfl B1 (by simp [Act.eval]) HX9.out.rs.r1 ?_)
            | (go_at_call 79; refine (HIM.out _).mono ?_; rintro e w5 ⟨rfl, g5⟩; have HX5 := Lib.hid (HX9.out.gr g5); have HG5 := Lib.hid g5; clear g5; obtain ⟨v0, v1, v33⟩ := HX5.out.cell; have v34 := HX5.out.rs.r1.mem))
          have HWR : Hid (IntKind.i64.wrap (IntKind.u32.wrap (A + I)) = (A + I) % 4294967296) := by
            show _ = _
            have e1 : IntKind.u32.wrap (A + I) = (A + I) % 4294967296 := rfl
            rw [e1]
            exact IntWalk.i64_in _ (by omega)
          go_region_with (go_at_call 50; rw [HWR.out]; (refine (HRD.out _ HG5.out.drew).mono ?_); rintro e w3 ⟨rfl, g3⟩; have HX3 := Lib.hid (HX5.out.gr ((Gr.refl w5).drew.trans g3)); obtain ⟨W5, hW5, kd, fd, HX8⟩ := HX3.out.reg d (by omega) V; obtain ⟨W6, hW6, k0, f0, HX6⟩ := HX8.out.reg 0 (by omega) 0; obtain ⟨y0, y1, y33⟩ := HX3.out.cell)
          all_goals
            go_wp2_with (first
          | (refine wpList_loadM2 rfl (.tmp 6) rfl B6 (by simp [Act.eval]) HX6.out.r6 ?_)
          | (refine wpList_store_row rfl 45 (.tmp 2) (.tmp 210) rfl B2 (machL { m with pc := (pc + 4) % 4294967296, regs := (m.regs.set d V).set 0 0 } mv).toArray (by simp [Act.eval, Act.put]) (by simp [Act.eval, Act.put]) 45 (machL Mach.zero (.slice none 0 0)).toArray HX6.out.rs.r2 (by rw [infoM]; simp [machL, HLR.out]) (by simp [machL, Mach.zero, HLR.out]) (machL_one _ HON.out) ?_))
            obtain ⟨q1, q2⟩ := HX6.out.done (by rw [HR.out, (HR0.out V).1]; unfold Rv.setR; rw [HPC.out]; rfl) rfl
            exact bodyPost_ret (results_mach1 rfl _ _ B2 45 _ mv (by simp [Act.put]) q1) rfl q2
      · have hsz : Rv.sizeM 27 = 4 := by decide
        have HI : Hid (0 ≤ (A + I) % 4294967296 ∧ (A + I) % 4294967296 < 4294967296) := by show _ ∧ _; omega
        by_cases hlt : m.mem.length < ((A + I) % 4294967296).toNat + 4
        · have HR : Hid (Rv.stepM m = { m with fin := 3 }) := by
            show _ = _
            unfold Rv.stepM
            rw [HE.out, execS_4, hsz, if_pos hlt]
          have HIM : Hid (∀ w1, Calls Tryd.prog 79 #[.agg (machL m mv).toArray, .int .u32 ((A + I) % 4294967296), .int .i64 4] w1 fun e w' => e = .returned (.bool false) ∧ Gr w1 w') := fun w1 =>
            inMem_at HX9.out.rs.mem (by simp) HWF.out HL.out ((A + I) % 4294967296) 4 HI.out.1 HI.out.2 (by omega) false (by rw [decide_eq_false_iff_not]; omega) w1
          clear hlt hsz
          go_wp2_with (first
            | (refine wpList_loadM2 rfl (.tmp 1) rfl B1 (by simp [Act.eval]) HX9.out.rs.r1 ?_)
            | (go_at_call 79; refine (HIM.out _).mono ?_; rintro e w5 ⟨rfl, g5⟩; have HX5 := Lib.hid (HX9.out.gr g5); clear g5)
            | (refine wpList_loadM2 rfl (.tmp 3) rfl B3 (by simp [Act.eval]) HX5.out.rs.r3 ?_)
            | (refine wpList_store_row rfl 45 (.tmp 2) (.tmp 110) rfl B2 (machL { m with fin := 3 } mv).toArray (by simp [Act.eval, Act.put]) (by simp [Act.eval, Act.put]) 45 (machL Mach.zero (.slice none 0 0)).toArray HX5.out.rs.r2 (by rw [infoM]; simp [machL, HLR.out]) (by simp [machL, Mach.zero, HLR.out]) (machL_one { m with fin := 3 } HON.out) ?_))
          obtain ⟨q1, q2⟩ := HX5.out.rs.done HR.out
          exact bodyPost_ret (results_mach1 rfl _ _ B2 45 { m with fin := 3 } mv (by simp [Act.put]) q1) rfl q2
        · have HR : Hid (Rv.stepM m = Rv.setR m d (Rv.rd m.mem ((A + I) % 4294967296).toNat 4)) := by
            show _ = _
            unfold Rv.stepM
            rw [HE.out, execS_4, hsz, if_neg hlt]
          have HIM : Hid (∀ w1, Calls Tryd.prog 79 #[.agg (machL m mv).toArray, .int .u32 ((A + I) % 4294967296), .int .i64 4] w1 fun e w' => e = .returned (.bool true) ∧ Gr w1 w') := fun w1 =>
            inMem_at HX9.out.rs.mem (by simp) HWF.out HL.out ((A + I) % 4294967296) 4 HI.out.1 HI.out.2 (by omega) true (by rw [decide_eq_true_iff]; omega) w1
          have HRD : Hid (∀ w1, Gr wc w1 → Calls Tryd.prog 50 #[mv, .int .i64 ((A + I) % 4294967296), .int .i64 4] w1 fun e w' => e = .returned (.int .u32 (Rv.rd m.mem ((A + I) % 4294967296).toNat 4)) ∧ Gr w1 w') := fun w1 g => by
            have hb := own_bytes (HX9.out.gr g).rs.mem HWF.out.mem (by have := HL.out; omega)
            have := read_any mv m.mem ((A + I) % 4294967296).toNat 4 w1 hb (by omega) (by omega) (by omega)
            rw [Int.toNat_of_nonneg HI.out.1] at this
            exact this.mono fun _ _ h => ⟨h.1, h.2 ▸ Gr.refl _⟩
          clear hlt hsz
          generalize Rv.rd m.mem ((A + I) % 4294967296).toNat 4 = V at *
          go_wp2_with (first
            | (refine wpList_loadM2 rfl (.tmp 1) rfl B1 (by simp [Act.eval]) HX9.out.rs.r1 ?_)
            | (go_at_call 79; refine (HIM.out _).mono ?_; rintro e w5 ⟨rfl, g5⟩; have HX5 := Lib.hid (HX9.out.gr g5); have HG5 := Lib.hid g5; clear g5; obtain ⟨v0, v1, v33⟩ := HX5.out.cell; have v34 := HX5.out.rs.r1.mem))
          have HWR : Hid (IntKind.i64.wrap (IntKind.u32.wrap (A + I)) = (A + I) % 4294967296) := by
            show _ = _
            have e1 : IntKind.u32.wrap (A + I) = (A + I) % 4294967296 := rfl
            rw [e1]
            exact IntWalk.i64_in _ (by omega)
          go_region_with (go_at_call 50; rw [HWR.out]; (refine (HRD.out _ HG5.out.drew).mono ?_); rintro e w3 ⟨rfl, g3⟩; have HX3 := Lib.hid (HX5.out.gr ((Gr.refl w5).drew.trans g3)); obtain ⟨W5, hW5, kd, fd, HX8⟩ := HX3.out.reg d (by omega) V; obtain ⟨W6, hW6, k0, f0, HX6⟩ := HX8.out.reg 0 (by omega) 0; obtain ⟨y0, y1, y33⟩ := HX3.out.cell)
          all_goals
            go_wp2_with (first
          | (refine wpList_loadM2 rfl (.tmp 6) rfl B6 (by simp [Act.eval]) HX6.out.r6 ?_)
          | (refine wpList_store_row rfl 45 (.tmp 2) (.tmp 210) rfl B2 (machL { m with pc := (pc + 4) % 4294967296, regs := (m.regs.set d V).set 0 0 } mv).toArray (by simp [Act.eval, Act.put]) (by simp [Act.eval, Act.put]) 45 (machL Mach.zero (.slice none 0 0)).toArray HX6.out.rs.r2 (by rw [infoM]; simp [machL, HLR.out]) (by simp [machL, Mach.zero, HLR.out]) (machL_one _ HON.out) ?_))
            obtain ⟨q1, q2⟩ := HX6.out.done (by rw [HR.out, (HR0.out V).1]; unfold Rv.setR; rw [HPC.out]; rfl) rfl
            exact bodyPost_ret (results_mach1 rfl _ _ B2 45 _ mv (by simp [Act.put]) q1) rfl q2
    · have hop : op = 28 ∨ op = 29 ∨ op = 30 := by have h := HS.out; unfold Rv.shapeN at h; repeat' split at h; all_goals omega
      rcases hop with rfl | rfl | rfl
      · have hsz : Rv.sizeM 28 = 1 := by decide
        have HI : Hid (0 ≤ (A + I) % 4294967296 ∧ (A + I) % 4294967296 < 4294967296) := by show _ ∧ _; omega
        by_cases hlt : m.mem.length < ((A + I) % 4294967296).toNat + 1
        · have HR : Hid (Rv.stepM m = { m with fin := 3 }) := by
            show _ = _
            unfold Rv.stepM
            rw [HE.out, execS_5, hsz, if_pos hlt]
          have HIM : Hid (∀ w1, Calls Tryd.prog 79 #[.agg (machL m mv).toArray, .int .u32 ((A + I) % 4294967296), .int .i64 1] w1 fun e w' => e = .returned (.bool false) ∧ Gr w1 w') := fun w1 =>
            inMem_at HX9.out.rs.mem (by simp) HWF.out HL.out ((A + I) % 4294967296) 1 HI.out.1 HI.out.2 (by omega) false (by rw [decide_eq_false_iff_not]; omega) w1
          clear hlt hsz
          go_wp2_with (first
            | (refine wpList_loadM2 rfl (.tmp 1) rfl B1 (by simp [Act.eval]) HX9.out.rs.r1 ?_)
            | (go_at_call 79; refine (HIM.out _).mono ?_; rintro e w5 ⟨rfl, g5⟩; have HX5 := Lib.hid (HX9.out.gr g5); clear g5)
            | (refine wpList_loadM2 rfl (.tmp 3) rfl B3 (by simp [Act.eval]) HX5.out.rs.r3 ?_)
            | (refine wpList_store_row rfl 45 (.tmp 2) (.tmp 137) rfl B2 (machL { m with fin := 3 } mv).toArray (by simp [Act.eval, Act.put]) (by simp [Act.eval, Act.put]) 45 (machL Mach.zero (.slice none 0 0)).toArray HX5.out.rs.r2 (by rw [infoM]; simp [machL, HLR.out]) (by simp [machL, Mach.zero, HLR.out]) (machL_one { m with fin := 3 } HON.out) ?_))
          obtain ⟨q1, q2⟩ := HX5.out.rs.done HR.out
          exact bodyPost_ret (results_mach1 rfl _ _ B2 45 { m with fin := 3 } mv (by simp [Act.put]) q1) rfl q2
        · have HR : Hid (Rv.stepM m = { m with mem := Rv.wr m.mem ((A + I) % 4294967296).toNat 1 Bv, pc := (pc + 4) % 4294967296 }) := by
            show _ = _
            unfold Rv.stepM
            rw [HE.out, execS_5, hsz, if_neg hlt, HPC.out]
          have HIM : Hid (∀ w1, Calls Tryd.prog 79 #[.agg (machL m mv).toArray, .int .u32 ((A + I) % 4294967296), .int .i64 1] w1 fun e w' => e = .returned (.bool true) ∧ Gr w1 w') := fun w1 =>
            inMem_at HX9.out.rs.mem (by simp) HWF.out HL.out ((A + I) % 4294967296) 1 HI.out.1 HI.out.2 (by omega) true (by rw [decide_eq_true_iff]; omega) w1
          obtain ⟨l, hll⟩ : ∃ l, m.mem.length = l := ⟨_, rfl⟩
          have HLL := Lib.hid hll
          obtain ⟨A0, cp, hmv⟩ := HX9.out.rs.mem.form
          rw [List.length_map, hll] at hmv
          subst hmv
          have hl8 := HL.out
          rw [hll] at hl8 hlt
          have hn := HI.out.1
          obtain ⟨p, hp⟩ : ∃ p : Nat, (A + I) % 4294967296 = p := ⟨((A + I) % 4294967296).toNat, by omega⟩
          rw [hp, Int.toNat_natCast] at hlt HR
          rw [hp] at HIM
          have HP := Lib.hid hp
          have hpI : (p : Int) + 1 ≤ (l : Int) := by omega
          have hnI : (l : Int) ≤ 32768 := by omega
          have HLT := Lib.hid hlt
          have b0 := HR32.out.2.1
          have b1 := HR32.out.2.2
          clear hlt hsz hll hl8 hn
          go_wp2_with (first
            | (refine wpList_loadM2 rfl (.tmp 1) rfl B1 (by simp [Act.eval]) HX9.out.rs.r1 ?_)
            | (go_at_call 79; refine (HIM.out _).mono ?_; rintro e w5 ⟨rfl, g5⟩; have HX5 := Lib.hid (HX9.out.gr g5); clear g5))
          go_loopw [12] (fun j wr => ∃ k : Nat, k ≤ 1 ∧ j = .int .i64 k ∧ Hid (RM N w wr B2 B6 { m with pc := (pc + 4) % 4294967296 } (.slice A0 l cp) (Rv.wr m.mem p k Bv))) (fun j _ => 1 - (intOf j).toNat)
          case atStart => exact ⟨0, by omega, rfl, Lib.hid HX5.out.rm⟩
          case round =>
            obtain ⟨k, hk, rfl, HI⟩ := hrel
            by_cases hkc : k < 1
            · have hkI : (k : Int) < 1 := by omega
              have hkp : (p : Int) + (k : Int) < (l : Int) := by omega
              have tn : ((p : Int) + (k : Int)).toNat = p + k := by omega
              have z0 : (0 : Int) ≤ (p : Int) + (k : Int) := by omega
              obtain ⟨b, rfl, kc, kf⟩ : ∃ b, A0 = some ⟨b, 0, none⟩ ∧ (∃ old, wr.cell? ⟨b, p + k, none⟩ = some (.int .u8 old)) ∧ wr.frozen? ⟨b, p + k, none⟩ = false := by
                have hb := HI.out.mem
                have hll : ((Rv.wr m.mem p k Bv).map (Value.int .u8)).length = l := by rw [List.length_map, Rv.wr_len, HLL.out]
                obtain ⟨b, hA, _, hN, hcell⟩ := own_cells (n := l) (by have := hb; unfold Own1 at this; rw [hll] at this; exact this) rfl (by have := HLT.out; omega)
                subst hA
                refine ⟨b, rfl, ?_, hb.frozen _⟩
                rw [hcell (p + k) (by have := HLT.out; omega), List.getElem?_map, getD_of (by rw [Rv.wr_len, HLL.out]; have := HLT.out; omega)]
                exact ⟨_, rfl⟩
              obtain ⟨old, kc⟩ := kc
              have k34 := HI.out.r6.mem
              clear hpI hnI
              go_wp2
              go_roundw
              case rel =>
                refine ⟨k + 1, by omega, by go_num, Lib.hid ?_⟩
                have e8 : (2 : Int) ^ (8 * k) = 256 ^ k := by rw [Int.pow_mul]; rfl
                rw [e8, Rv.wr_snoc 0]
                exact HI.out.byte (p + k) (by have h1 := HLL.out; have h2 := HLT.out; show _ < (Rv.wr m.mem p k Bv).length; rw [Rv.wr_len]; omega) (Bv / 256 ^ k)
              case measure => simp [intOf]; omega
            · have he : k = 1 := by omega
              subst he
              obtain ⟨W6, hW6, k0, f0, HX6⟩ := HI.out.zero
              go_wp2_with (first
                | (refine wpList_loadM2 rfl (.tmp 6) rfl B6 (by simp [Act.eval]) HX6.out.r6 ?_)
                | (refine wpList_store_row rfl 45 (.tmp 2) (.tmp 210) rfl B2 (machL { m with pc := (pc + 4) % 4294967296, regs := m.regs.set 0 0 } (.slice A0 l cp)).toArray (by simp [Act.eval, Act.put]) (by simp [Act.eval, Act.put]) 45 (machL Mach.zero (.slice none 0 0)).toArray HX6.out.r2 (by rw [infoM]; simp [machL, HLR.out]) (by simp [machL, Mach.zero, HLR.out]) (machL_one _ HON.out) ?_))
              obtain ⟨q1, q2⟩ := HX6.out.done (m := m) (by rw [HR.out, (HR0.out 0).2])
              exact bodyPost_ret (results_mach1 rfl _ _ B2 45 _ _ (by simp [Act.put]) q1) rfl q2
      · have hsz : Rv.sizeM 29 = 2 := by decide
        have HI : Hid (0 ≤ (A + I) % 4294967296 ∧ (A + I) % 4294967296 < 4294967296) := by show _ ∧ _; omega
        by_cases hlt : m.mem.length < ((A + I) % 4294967296).toNat + 2
        · have HR : Hid (Rv.stepM m = { m with fin := 3 }) := by
            show _ = _
            unfold Rv.stepM
            rw [HE.out, execS_5, hsz, if_pos hlt]
          have HIM : Hid (∀ w1, Calls Tryd.prog 79 #[.agg (machL m mv).toArray, .int .u32 ((A + I) % 4294967296), .int .i64 2] w1 fun e w' => e = .returned (.bool false) ∧ Gr w1 w') := fun w1 =>
            inMem_at HX9.out.rs.mem (by simp) HWF.out HL.out ((A + I) % 4294967296) 2 HI.out.1 HI.out.2 (by omega) false (by rw [decide_eq_false_iff_not]; omega) w1
          clear hlt hsz
          go_wp2_with (first
            | (refine wpList_loadM2 rfl (.tmp 1) rfl B1 (by simp [Act.eval]) HX9.out.rs.r1 ?_)
            | (go_at_call 79; refine (HIM.out _).mono ?_; rintro e w5 ⟨rfl, g5⟩; have HX5 := Lib.hid (HX9.out.gr g5); clear g5)
            | (refine wpList_loadM2 rfl (.tmp 3) rfl B3 (by simp [Act.eval]) HX5.out.rs.r3 ?_)
            | (refine wpList_store_row rfl 45 (.tmp 2) (.tmp 137) rfl B2 (machL { m with fin := 3 } mv).toArray (by simp [Act.eval, Act.put]) (by simp [Act.eval, Act.put]) 45 (machL Mach.zero (.slice none 0 0)).toArray HX5.out.rs.r2 (by rw [infoM]; simp [machL, HLR.out]) (by simp [machL, Mach.zero, HLR.out]) (machL_one { m with fin := 3 } HON.out) ?_))
          obtain ⟨q1, q2⟩ := HX5.out.rs.done HR.out
          exact bodyPost_ret (results_mach1 rfl _ _ B2 45 { m with fin := 3 } mv (by simp [Act.put]) q1) rfl q2
        · have HR : Hid (Rv.stepM m = { m with mem := Rv.wr m.mem ((A + I) % 4294967296).toNat 2 Bv, pc := (pc + 4) % 4294967296 }) := by
            show _ = _
            unfold Rv.stepM
            rw [HE.out, execS_5, hsz, if_neg hlt, HPC.out]
          have HIM : Hid (∀ w1, Calls Tryd.prog 79 #[.agg (machL m mv).toArray, .int .u32 ((A + I) % 4294967296), .int .i64 2] w1 fun e w' => e = .returned (.bool true) ∧ Gr w1 w') := fun w1 =>
            inMem_at HX9.out.rs.mem (by simp) HWF.out HL.out ((A + I) % 4294967296) 2 HI.out.1 HI.out.2 (by omega) true (by rw [decide_eq_true_iff]; omega) w1
          obtain ⟨l, hll⟩ : ∃ l, m.mem.length = l := ⟨_, rfl⟩
          have HLL := Lib.hid hll
          obtain ⟨A0, cp, hmv⟩ := HX9.out.rs.mem.form
          rw [List.length_map, hll] at hmv
          subst hmv
          have hl8 := HL.out
          rw [hll] at hl8 hlt
          have hn := HI.out.1
          obtain ⟨p, hp⟩ : ∃ p : Nat, (A + I) % 4294967296 = p := ⟨((A + I) % 4294967296).toNat, by omega⟩
          rw [hp, Int.toNat_natCast] at hlt HR
          rw [hp] at HIM
          have HP := Lib.hid hp
          have hpI : (p : Int) + 2 ≤ (l : Int) := by omega
          have hnI : (l : Int) ≤ 32768 := by omega
          have HLT := Lib.hid hlt
          have b0 := HR32.out.2.1
          have b1 := HR32.out.2.2
          clear hlt hsz hll hl8 hn
          go_wp2_with (first
            | (refine wpList_loadM2 rfl (.tmp 1) rfl B1 (by simp [Act.eval]) HX9.out.rs.r1 ?_)
            | (go_at_call 79; refine (HIM.out _).mono ?_; rintro e w5 ⟨rfl, g5⟩; have HX5 := Lib.hid (HX9.out.gr g5); clear g5))
          go_loopw [12] (fun j wr => ∃ k : Nat, k ≤ 2 ∧ j = .int .i64 k ∧ Hid (RM N w wr B2 B6 { m with pc := (pc + 4) % 4294967296 } (.slice A0 l cp) (Rv.wr m.mem p k Bv))) (fun j _ => 2 - (intOf j).toNat)
          case atStart => exact ⟨0, by omega, rfl, Lib.hid HX5.out.rm⟩
          case round =>
            obtain ⟨k, hk, rfl, HI⟩ := hrel
            by_cases hkc : k < 2
            · have hkI : (k : Int) < 2 := by omega
              have hkp : (p : Int) + (k : Int) < (l : Int) := by omega
              have tn : ((p : Int) + (k : Int)).toNat = p + k := by omega
              have z0 : (0 : Int) ≤ (p : Int) + (k : Int) := by omega
              obtain ⟨b, rfl, kc, kf⟩ : ∃ b, A0 = some ⟨b, 0, none⟩ ∧ (∃ old, wr.cell? ⟨b, p + k, none⟩ = some (.int .u8 old)) ∧ wr.frozen? ⟨b, p + k, none⟩ = false := by
                have hb := HI.out.mem
                have hll : ((Rv.wr m.mem p k Bv).map (Value.int .u8)).length = l := by rw [List.length_map, Rv.wr_len, HLL.out]
                obtain ⟨b, hA, _, hN, hcell⟩ := own_cells (n := l) (by have := hb; unfold Own1 at this; rw [hll] at this; exact this) rfl (by have := HLT.out; omega)
                subst hA
                refine ⟨b, rfl, ?_, hb.frozen _⟩
                rw [hcell (p + k) (by have := HLT.out; omega), List.getElem?_map, getD_of (by rw [Rv.wr_len, HLL.out]; have := HLT.out; omega)]
                exact ⟨_, rfl⟩
              obtain ⟨old, kc⟩ := kc
              have k34 := HI.out.r6.mem
              clear hpI hnI
              go_wp2
              go_roundw
              case rel =>
                refine ⟨k + 1, by omega, by go_num, Lib.hid ?_⟩
                have e8 : (2 : Int) ^ (8 * k) = 256 ^ k := by rw [Int.pow_mul]; rfl
                rw [e8, Rv.wr_snoc 0]
                exact HI.out.byte (p + k) (by have h1 := HLL.out; have h2 := HLT.out; show _ < (Rv.wr m.mem p k Bv).length; rw [Rv.wr_len]; omega) (Bv / 256 ^ k)
              case measure => simp [intOf]; omega
            · have he : k = 2 := by omega
              subst he
              obtain ⟨W6, hW6, k0, f0, HX6⟩ := HI.out.zero
              go_wp2_with (first
                | (refine wpList_loadM2 rfl (.tmp 6) rfl B6 (by simp [Act.eval]) HX6.out.r6 ?_)
                | (refine wpList_store_row rfl 45 (.tmp 2) (.tmp 210) rfl B2 (machL { m with pc := (pc + 4) % 4294967296, regs := m.regs.set 0 0 } (.slice A0 l cp)).toArray (by simp [Act.eval, Act.put]) (by simp [Act.eval, Act.put]) 45 (machL Mach.zero (.slice none 0 0)).toArray HX6.out.r2 (by rw [infoM]; simp [machL, HLR.out]) (by simp [machL, Mach.zero, HLR.out]) (machL_one _ HON.out) ?_))
              obtain ⟨q1, q2⟩ := HX6.out.done (m := m) (by rw [HR.out, (HR0.out 0).2])
              exact bodyPost_ret (results_mach1 rfl _ _ B2 45 _ _ (by simp [Act.put]) q1) rfl q2
      · have hsz : Rv.sizeM 30 = 4 := by decide
        have HI : Hid (0 ≤ (A + I) % 4294967296 ∧ (A + I) % 4294967296 < 4294967296) := by show _ ∧ _; omega
        by_cases hlt : m.mem.length < ((A + I) % 4294967296).toNat + 4
        · have HR : Hid (Rv.stepM m = { m with fin := 3 }) := by
            show _ = _
            unfold Rv.stepM
            rw [HE.out, execS_5, hsz, if_pos hlt]
          have HIM : Hid (∀ w1, Calls Tryd.prog 79 #[.agg (machL m mv).toArray, .int .u32 ((A + I) % 4294967296), .int .i64 4] w1 fun e w' => e = .returned (.bool false) ∧ Gr w1 w') := fun w1 =>
            inMem_at HX9.out.rs.mem (by simp) HWF.out HL.out ((A + I) % 4294967296) 4 HI.out.1 HI.out.2 (by omega) false (by rw [decide_eq_false_iff_not]; omega) w1
          clear hlt hsz
          go_wp2_with (first
            | (refine wpList_loadM2 rfl (.tmp 1) rfl B1 (by simp [Act.eval]) HX9.out.rs.r1 ?_)
            | (go_at_call 79; refine (HIM.out _).mono ?_; rintro e w5 ⟨rfl, g5⟩; have HX5 := Lib.hid (HX9.out.gr g5); clear g5)
            | (refine wpList_loadM2 rfl (.tmp 3) rfl B3 (by simp [Act.eval]) HX5.out.rs.r3 ?_)
            | (refine wpList_store_row rfl 45 (.tmp 2) (.tmp 137) rfl B2 (machL { m with fin := 3 } mv).toArray (by simp [Act.eval, Act.put]) (by simp [Act.eval, Act.put]) 45 (machL Mach.zero (.slice none 0 0)).toArray HX5.out.rs.r2 (by rw [infoM]; simp [machL, HLR.out]) (by simp [machL, Mach.zero, HLR.out]) (machL_one { m with fin := 3 } HON.out) ?_))
          obtain ⟨q1, q2⟩ := HX5.out.rs.done HR.out
          exact bodyPost_ret (results_mach1 rfl _ _ B2 45 { m with fin := 3 } mv (by simp [Act.put]) q1) rfl q2
        · have HR : Hid (Rv.stepM m = { m with mem := Rv.wr m.mem ((A + I) % 4294967296).toNat 4 Bv, pc := (pc + 4) % 4294967296 }) := by
            show _ = _
            unfold Rv.stepM
            rw [HE.out, execS_5, hsz, if_neg hlt, HPC.out]
          have HIM : Hid (∀ w1, Calls Tryd.prog 79 #[.agg (machL m mv).toArray, .int .u32 ((A + I) % 4294967296), .int .i64 4] w1 fun e w' => e = .returned (.bool true) ∧ Gr w1 w') := fun w1 =>
            inMem_at HX9.out.rs.mem (by simp) HWF.out HL.out ((A + I) % 4294967296) 4 HI.out.1 HI.out.2 (by omega) true (by rw [decide_eq_true_iff]; omega) w1
          obtain ⟨l, hll⟩ : ∃ l, m.mem.length = l := ⟨_, rfl⟩
          have HLL := Lib.hid hll
          obtain ⟨A0, cp, hmv⟩ := HX9.out.rs.mem.form
          rw [List.length_map, hll] at hmv
          subst hmv
          have hl8 := HL.out
          rw [hll] at hl8 hlt
          have hn := HI.out.1
          obtain ⟨p, hp⟩ : ∃ p : Nat, (A + I) % 4294967296 = p := ⟨((A + I) % 4294967296).toNat, by omega⟩
          rw [hp, Int.toNat_natCast] at hlt HR
          rw [hp] at HIM
          have HP := Lib.hid hp
          have hpI : (p : Int) + 4 ≤ (l : Int) := by omega
          have hnI : (l : Int) ≤ 32768 := by omega
          have HLT := Lib.hid hlt
          have b0 := HR32.out.2.1
          have b1 := HR32.out.2.2
          clear hlt hsz hll hl8 hn
          go_wp2_with (first
            | (refine wpList_loadM2 rfl (.tmp 1) rfl B1 (by simp [Act.eval]) HX9.out.rs.r1 ?_)
            | (go_at_call 79; refine (HIM.out _).mono ?_; rintro e w5 ⟨rfl, g5⟩; have HX5 := Lib.hid (HX9.out.gr g5); clear g5))
          go_loopw [12] (fun j wr => ∃ k : Nat, k ≤ 4 ∧ j = .int .i64 k ∧ Hid (RM N w wr B2 B6 { m with pc := (pc + 4) % 4294967296 } (.slice A0 l cp) (Rv.wr m.mem p k Bv))) (fun j _ => 4 - (intOf j).toNat)
          case atStart => exact ⟨0, by omega, rfl, Lib.hid HX5.out.rm⟩
          case round =>
            obtain ⟨k, hk, rfl, HI⟩ := hrel
            by_cases hkc : k < 4
            · have hkI : (k : Int) < 4 := by omega
              have hkp : (p : Int) + (k : Int) < (l : Int) := by omega
              have tn : ((p : Int) + (k : Int)).toNat = p + k := by omega
              have z0 : (0 : Int) ≤ (p : Int) + (k : Int) := by omega
              obtain ⟨b, rfl, kc, kf⟩ : ∃ b, A0 = some ⟨b, 0, none⟩ ∧ (∃ old, wr.cell? ⟨b, p + k, none⟩ = some (.int .u8 old)) ∧ wr.frozen? ⟨b, p + k, none⟩ = false := by
                have hb := HI.out.mem
                have hll : ((Rv.wr m.mem p k Bv).map (Value.int .u8)).length = l := by rw [List.length_map, Rv.wr_len, HLL.out]
                obtain ⟨b, hA, _, hN, hcell⟩ := own_cells (n := l) (by have := hb; unfold Own1 at this; rw [hll] at this; exact this) rfl (by have := HLT.out; omega)
                subst hA
                refine ⟨b, rfl, ?_, hb.frozen _⟩
                rw [hcell (p + k) (by have := HLT.out; omega), List.getElem?_map, getD_of (by rw [Rv.wr_len, HLL.out]; have := HLT.out; omega)]
                exact ⟨_, rfl⟩
              obtain ⟨old, kc⟩ := kc
              have k34 := HI.out.r6.mem
              clear hpI hnI
              go_wp2
              go_roundw
              case rel =>
                refine ⟨k + 1, by omega, by go_num, Lib.hid ?_⟩
                have e8 : (2 : Int) ^ (8 * k) = 256 ^ k := by rw [Int.pow_mul]; rfl
                rw [e8, Rv.wr_snoc 0]
                exact HI.out.byte (p + k) (by have h1 := HLL.out; have h2 := HLT.out; show _ < (Rv.wr m.mem p k Bv).length; rw [Rv.wr_len]; omega) (Bv / 256 ^ k)
              case measure => simp [intOf]; omega
            · have he : k = 4 := by omega
              subst he
              obtain ⟨W6, hW6, k0, f0, HX6⟩ := HI.out.zero
              go_wp2_with (first
                | (refine wpList_loadM2 rfl (.tmp 6) rfl B6 (by simp [Act.eval]) HX6.out.r6 ?_)
                | (refine wpList_store_row rfl 45 (.tmp 2) (.tmp 210) rfl B2 (machL { m with pc := (pc + 4) % 4294967296, regs := m.regs.set 0 0 } (.slice A0 l cp)).toArray (by simp [Act.eval, Act.put]) (by simp [Act.eval, Act.put]) 45 (machL Mach.zero (.slice none 0 0)).toArray HX6.out.r2 (by rw [infoM]; simp [machL, HLR.out]) (by simp [machL, Mach.zero, HLR.out]) (machL_one _ HON.out) ?_))
              obtain ⟨q1, q2⟩ := HX6.out.done (m := m) (by rw [HR.out, (HR0.out 0).2])
              exact bodyPost_ret (results_mach1 rfl _ _ B2 45 _ _ (by simp [Act.put]) q1) rfl q2
    · have hop : 31 ≤ op ∧ op ≤ 36 := by have h := HS.out; unfold Rv.shapeN at h; repeat' split at h; all_goals omega
      have HR : Hid (Rv.stepM m = { m with pc := if Rv.takenM op A Bv = true then (pc + I) % 4294967296 else (pc + 4) % 4294967296 }) := by
        show _ = _
        unfold Rv.stepM
        rw [HE.out]
        simp [Rv.execS, HPC.out]
      have HTK : Hid (∀ W, Calls Tryd.prog 81 #[.int .i64 (op : Nat), .int .u32 A, .int .u32 Bv] W fun e w' => e = .returned (.bool (Rv.takenM op A Bv)) ∧ W = w') := fun W => goes_at op (by omega) A Bv HR32.out.1.1 HR32.out.1.2 HR32.out.2.1 HR32.out.2.2 W
      generalize Rv.takenM op A Bv = tk at *
      cases tk
      · obtain ⟨W6, hW6, k0, f0, HX6⟩ := HX9.out.reg 0 (by omega) 0
        go_wp2_with (first
          | (go_at_call 81; refine (HTK.out _).mono ?_; rintro _ _ ⟨rfl, rfl⟩)
          | (refine wpList_loadM2 rfl (.tmp 6) rfl B6 (by simp [Act.eval]) HX6.out.r6 ?_)
          | (refine wpList_store_row rfl 45 (.tmp 2) (.tmp 210) rfl B2 (machL { m with pc := (pc + 4) % 4294967296, regs := m.regs.set 0 0 } mv).toArray (by simp [Act.eval, Act.put]) (by simp [Act.eval, Act.put]) 45 (machL Mach.zero (.slice none 0 0)).toArray HX6.out.rs.r2 (by rw [infoM]; simp [machL, HLR.out]) (by simp [machL, Mach.zero, HLR.out]) (machL_one _ HON.out) ?_))
        obtain ⟨q1, q2⟩ := HX6.out.done (by rw [HR.out, (HR0.out 0).2]; rfl) rfl
        exact bodyPost_ret (results_mach1 rfl _ _ B2 45 _ mv (by simp [Act.put]) q1) rfl q2
      · obtain ⟨W5, hW5, kd, fd, HX5⟩ := HX9.out.pc ((pc + I) % 4294967296)
        obtain ⟨W6, hW6, k0, f0, HX6⟩ := HX5.out.reg 0 (by omega) 0
        go_wp2_with (first
          | (go_at_call 81; refine (HTK.out _).mono ?_; rintro _ _ ⟨rfl, rfl⟩)
          | (refine wpList_loadM2 rfl (.tmp 6) rfl B6 (by simp [Act.eval]) HX6.out.r6 ?_)
          | (refine wpList_store_row rfl 45 (.tmp 2) (.tmp 210) rfl B2 (machL { m with pc := (pc + I) % 4294967296, regs := m.regs.set 0 0 } mv).toArray (by simp [Act.eval, Act.put]) (by simp [Act.eval, Act.put]) 45 (machL Mach.zero (.slice none 0 0)).toArray HX6.out.rs.r2 (by rw [infoM]; simp [machL, HLR.out]) (by simp [machL, Mach.zero, HLR.out]) (machL_one _ HON.out) ?_))
        obtain ⟨q1, q2⟩ := HX6.out.done (by rw [HR.out, (HR0.out 0).2]; rfl) rfl
        exact bodyPost_ret (results_mach1 rfl _ _ B2 45 _ mv (by simp [Act.put]) q1) rfl q2
    · have HR : Hid (Rv.stepM m = { Rv.setR m d ((pc + 4) % 4294967296) with pc := (pc + I) % 4294967296 }) := by
        show _ = _
        unfold Rv.stepM
        rw [HE.out]
        simp [Rv.execS, HPC.out]
      obtain ⟨W4, hW4, kd, fd, HX4⟩ := HX9.out.reg d (by omega) ((pc + 4) % 4294967296)
      obtain ⟨W5, hW5, kp, fp, HX5⟩ := HX4.out.pc ((pc + I) % 4294967296)
      obtain ⟨W6, hW6, k0, f0, HX6⟩ := HX5.out.reg 0 (by omega) 0
      have v33 := HX4.out.rs.r1.pc
      rw [HPC.out] at v33
      go_wp2_with (first
          | (refine wpList_loadM2 rfl (.tmp 6) rfl B6 (by simp [Act.eval]) HX6.out.r6 ?_)
          | (refine wpList_store_row rfl 45 (.tmp 2) (.tmp 210) rfl B2 (machL { m with pc := (pc + I) % 4294967296, regs := (m.regs.set d ((pc + 4) % 4294967296)).set 0 0 } mv).toArray (by simp [Act.eval, Act.put]) (by simp [Act.eval, Act.put]) 45 (machL Mach.zero (.slice none 0 0)).toArray HX6.out.rs.r2 (by rw [infoM]; simp [machL, HLR.out]) (by simp [machL, Mach.zero, HLR.out]) (machL_one _ HON.out) ?_))
      obtain ⟨q1, q2⟩ := HX6.out.done (by rw [HR.out, (HR0.out _).1]; unfold Rv.setR; rfl) rfl
      exact bodyPost_ret (results_mach1 rfl _ _ B2 45 _ mv (by simp [Act.put]) q1) rfl q2
    · have HR : Hid (Rv.stepM m = { Rv.setR m d ((pc + 4) % 4294967296) with pc := (A + I) % 4294967296 / 2 * 2 }) := by
        show _ = _
        unfold Rv.stepM
        rw [HE.out]
        simp [Rv.execS, HPC.out]
      have HAN := Lib.hid (andNot_one ((A + I) % 4294967296) (by omega) (by omega))
      obtain ⟨W4, hW4, kd, fd, HX4⟩ := HX9.out.reg d (by omega) ((pc + 4) % 4294967296)
      obtain ⟨W5, hW5, kp, fp, HX5⟩ := HX4.out.pc (bits .andNot .u32 ((A + I) % 4294967296) 1)
      obtain ⟨W6, hW6, k0, f0, HX6⟩ := HX5.out.reg 0 (by omega) 0
      go_wp2_with (first
          | (refine wpList_loadM2 rfl (.tmp 6) rfl B6 (by simp [Act.eval]) HX6.out.r6 ?_)
          | (refine wpList_store_row rfl 45 (.tmp 2) (.tmp 210) rfl B2 (machL { m with pc := bits .andNot .u32 ((A + I) % 4294967296) 1, regs := (m.regs.set d ((pc + 4) % 4294967296)).set 0 0 } mv).toArray (by simp [Act.eval, Act.put]) (by simp [Act.eval, Act.put]) 45 (machL Mach.zero (.slice none 0 0)).toArray HX6.out.rs.r2 (by rw [infoM]; simp [machL, HLR.out]) (by simp [machL, Mach.zero, HLR.out]) (machL_one _ HON.out) ?_))
      obtain ⟨q1, q2⟩ := HX6.out.done (by rw [HR.out, (HR0.out _).1, HAN.out]; unfold Rv.setR; rfl) rfl
      exact bodyPost_ret (results_mach1 rfl _ _ B2 45 _ mv (by simp [Act.put]) q1) rfl q2
    · have hop : op = 39 ∨ op = 40 := by have h := HS.out; unfold Rv.shapeN at h; repeat' split at h; all_goals omega
      obtain ⟨W4, hW4, kd, fd, HX4⟩ := HX9.out.pc pc
      obtain ⟨W5, hW5, kp, fp, HX5⟩ := HX4.out.fin 2
      obtain ⟨v0, v1, v33⟩ := HX5.out.cell
      rcases hop with rfl | rfl
      · have HR : Hid (Rv.stepM m = { m with fin := 2 }) := by
          show _ = _
          unfold Rv.stepM
          rw [HE.out]
          simp [Rv.execS]
        obtain ⟨W6, hW6, k0, f0, HX6⟩ := HX5.out.reg 0 (by omega) 0
        go_wp2_with (first
          | (refine wpList_loadM2 rfl (.tmp 6) rfl B6 (by simp [Act.eval]) HX6.out.r6 ?_)
          | (refine wpList_store_row rfl 45 (.tmp 2) (.tmp 210) rfl B2 (machL { m with pc := pc, fin := 2, regs := m.regs.set 0 0 } mv).toArray (by simp [Act.eval, Act.put]) (by simp [Act.eval, Act.put]) 45 (machL Mach.zero (.slice none 0 0)).toArray HX6.out.rs.r2 (by rw [infoM]; simp [machL, HLR.out]) (by simp [machL, Mach.zero, HLR.out]) (machL_one _ HON.out) ?_))
        obtain ⟨q1, q2⟩ := HX6.out.done (by rw [HR.out, (HR0.out 0).2, ← HPC.out]) rfl
        exact bodyPost_ret (results_mach1 rfl _ _ B2 45 _ mv (by simp [Act.put]) q1) rfl q2
      · have HR : Hid (Rv.stepM m = { m with fin := 1 }) := by
          show _ = _
          unfold Rv.stepM
          rw [HE.out]
          simp [Rv.execS]
        obtain ⟨W7, hW7, ke, fe, HX7⟩ := HX5.out.fin 1
        obtain ⟨W6, hW6, k0, f0, HX6⟩ := HX7.out.reg 0 (by omega) 0
        go_wp2_with (first
          | (refine wpList_loadM2 rfl (.tmp 6) rfl B6 (by simp [Act.eval]) HX6.out.r6 ?_)
          | (refine wpList_store_row rfl 45 (.tmp 2) (.tmp 210) rfl B2 (machL { m with pc := pc, fin := 1, regs := m.regs.set 0 0 } mv).toArray (by simp [Act.eval, Act.put]) (by simp [Act.eval, Act.put]) 45 (machL Mach.zero (.slice none 0 0)).toArray HX6.out.rs.r2 (by rw [infoM]; simp [machL, HLR.out]) (by simp [machL, Mach.zero, HLR.out]) (machL_one _ HON.out) ?_))
        obtain ⟨q1, q2⟩ := HX6.out.done (by rw [HR.out, (HR0.out 0).2, ← HPC.out]) rfl
        exact bodyPost_ret (results_mach1 rfl _ _ B2 45 _ mv (by simp [Act.put]) q1) rfl q2
theorem rstep_any {N : Nat} {w : World} {m : Mach} {mv : Value} (ho : Own1 N 5 w mv (m.mem.map (Value.int .u8))) (hN : N ≤ w.heap.size) (hw : Rv.WfM m) (h00 : m.regs.getD 0 0 = 0) (hl : m.mem.length ≤ 32768) :
    Calls Tryd.prog 54 #[.agg (machL m mv).toArray] w (RStep N w m mv) := by
  by_cases h4 : m.pc % 4 = 0
  · by_cases hs : m.mem.length < m.pc.toNat + 4
    · exact rstep_short ho hN hw hl h4 hs
    · have hf : ¬ (m.mem.length < m.pc.toNat + 4 ∨ m.pc % 4 ≠ 0) := by omega
      cases hd : Rv.decode (Rv.rd m.mem m.pc.toNat 4) with
      | none => exact rstep_none ho hN hw hl hf hd
      | some x => exact rstep_some ho hN hw h00 hl hf x hd
  · exact rstep_odd ho hN hw hl h4
end Go.Proofs.YthiaaagoccpkcaaDoor

/- decode of the program, by the table. Printed by gen_rvq.py. -/
import Derived.Test.YthiaaagoccpkcaaDoorRvP
namespace Go.Proofs.YthiaaagoccpkcaaDoor
set_option linter.unusedSimpArgs false
set_option linter.unusedVariables false
open Go.RowKit

section
variable {w : World} {g : Nat} {x0 x1 x2 x3 x4 : Value} {T : TypeId} (v : Value)
theorem row5_at1 (h : w.heap[g]? = some (.cells #[x0, x1, x2, x3, x4] T (0, 0))) : (w.setCell ⟨g, 1, none⟩ v).heap[g]? = some (.cells #[x0, v, x2, x3, x4] T (0, 0)) := by simpa using heap_setCell_same _ _ 1 _ _ v h
theorem row5_at2 (h : w.heap[g]? = some (.cells #[x0, x1, x2, x3, x4] T (0, 0))) : (w.setCell ⟨g, 2, none⟩ v).heap[g]? = some (.cells #[x0, x1, v, x3, x4] T (0, 0)) := by simpa using heap_setCell_same _ _ 2 _ _ v h
theorem row5_at3 (h : w.heap[g]? = some (.cells #[x0, x1, x2, x3, x4] T (0, 0))) : (w.setCell ⟨g, 3, none⟩ v).heap[g]? = some (.cells #[x0, x1, x2, v, x4] T (0, 0)) := by simpa using heap_setCell_same _ _ 3 _ _ v h
theorem row5_at4 (h : w.heap[g]? = some (.cells #[x0, x1, x2, x3, x4] T (0, 0))) : (w.setCell ⟨g, 4, none⟩ v).heap[g]? = some (.cells #[x0, x1, x2, x3, v] T (0, 0)) := by simpa using heap_setCell_same _ _ 4 _ _ v h
theorem heap_set_ne {W : World} {B i C : Nat} (v : Value) (h : B ≠ C) : (W.setCell ⟨B, i, none⟩ v).heap[C]? = W.heap[C]? := heap_setCell_other W ⟨B, i, none⟩ C v (fun e => h e.symm)
end
/-- The four blocks of the loop: the result, the instruction, which fields there are, the places. -/
structure DecL (w : World) (R X H S : Nat) (op : Nat) (k : Nat) (D A Bv : Int) (p1 p2 p3 p4 : Bool) (wr : World) : Prop where
  gr : Gr w wr
  hR : w.heap.size ≤ R
  rx : R < X
  xh : X < H
  hs : H < S
  r : wr.heap[R]? = some (.cells #[.int .i64 0, .int .i64 0, .int .i64 0, .int .i64 0, .int .i64 0] 23 (0, 0))
  x : wr.heap[X]? = some (.cells #[.int .i64 op, .int .i64 (if 1 ≤ k then D else 0), .int .i64 (if 2 ≤ k then A else 0), .int .i64 (if 3 ≤ k then Bv else 0), .int .i64 0] 23 (0, 0))
  h : wr.heap[H]? = some (.cells #[.bool p1, .bool p2, .bool p3, .bool p4] 64 (0, 0))
  s : wr.heap[S]? = some (.cells #[.pointer (some ⟨X, 1, none⟩), .pointer (some ⟨X, 2, none⟩), .pointer (some ⟨X, 3, none⟩)] 95 (0, 0))
theorem DecL.alloc {w : World} {R X H S op k : Nat} {D A Bv : Int} {p1 p2 p3 p4 : Bool} {wr : World} (d : DecL w R X H S op k D A Bv p1 p2 p3 p4 wr) (o : Obj) : DecL w R X H S op k D A Bv p1 p2 p3 p4 (wr.alloc o) := by
  have g : Gr wr (wr.alloc o) := (Gr.refl wr).alloc o
  have e : ∀ {b : Nat} {y : Obj}, wr.heap[b]? = some y → (wr.alloc o).heap[b]? = some y := fun {b y} hb => (g.heap b (Array.getElem?_eq_some_iff.1 hb).1).trans hb
  exact ⟨d.gr.alloc o, d.hR, d.rx, d.xh, d.hs, e d.r, e d.x, e d.h, e d.s⟩
theorem DecL.set0 {w : World} {R X H S op : Nat} {D A Bv : Int} {p1 p2 p3 p4 : Bool} {wr : World} (d : DecL w R X H S op 0 D A Bv p1 p2 p3 p4 wr) : DecL w R X H S op 1 D A Bv p1 p2 p3 p4 (wr.setCell ⟨X, 1, none⟩ (.int .i64 D)) := by
  have h1 := d.rx
  have h2 := d.xh
  have h3 := d.hs
  exact ⟨d.gr.setCell (Nat.le_trans d.hR (Nat.le_of_lt d.rx)) _, d.hR, d.rx, d.xh, d.hs, (heap_set_ne _ (by omega)).trans d.r, row5_at1 _ d.x, (heap_set_ne _ (by omega)).trans d.h, (heap_set_ne _ (by omega)).trans d.s⟩
theorem DecL.skip0 {w : World} {R X H S op : Nat} {D A Bv : Int} {p1 p2 p3 p4 : Bool} {wr : World} (d : DecL w R X H S op 0 D A Bv p1 p2 p3 p4 wr) (h : D = 0) : DecL w R X H S op 1 D A Bv p1 p2 p3 p4 wr := by
  subst h
  exact ⟨d.gr, d.hR, d.rx, d.xh, d.hs, d.r, d.x, d.h, d.s⟩
theorem DecL.set1 {w : World} {R X H S op : Nat} {D A Bv : Int} {p1 p2 p3 p4 : Bool} {wr : World} (d : DecL w R X H S op 1 D A Bv p1 p2 p3 p4 wr) : DecL w R X H S op 2 D A Bv p1 p2 p3 p4 (wr.setCell ⟨X, 2, none⟩ (.int .i64 A)) := by
  have h1 := d.rx
  have h2 := d.xh
  have h3 := d.hs
  exact ⟨d.gr.setCell (Nat.le_trans d.hR (Nat.le_of_lt d.rx)) _, d.hR, d.rx, d.xh, d.hs, (heap_set_ne _ (by omega)).trans d.r, row5_at2 _ d.x, (heap_set_ne _ (by omega)).trans d.h, (heap_set_ne _ (by omega)).trans d.s⟩
theorem DecL.skip1 {w : World} {R X H S op : Nat} {D A Bv : Int} {p1 p2 p3 p4 : Bool} {wr : World} (d : DecL w R X H S op 1 D A Bv p1 p2 p3 p4 wr) (h : A = 0) : DecL w R X H S op 2 D A Bv p1 p2 p3 p4 wr := by
  subst h
  exact ⟨d.gr, d.hR, d.rx, d.xh, d.hs, d.r, d.x, d.h, d.s⟩
theorem DecL.set2 {w : World} {R X H S op : Nat} {D A Bv : Int} {p1 p2 p3 p4 : Bool} {wr : World} (d : DecL w R X H S op 2 D A Bv p1 p2 p3 p4 wr) : DecL w R X H S op 3 D A Bv p1 p2 p3 p4 (wr.setCell ⟨X, 3, none⟩ (.int .i64 Bv)) := by
  have h1 := d.rx
  have h2 := d.xh
  have h3 := d.hs
  exact ⟨d.gr.setCell (Nat.le_trans d.hR (Nat.le_of_lt d.rx)) _, d.hR, d.rx, d.xh, d.hs, (heap_set_ne _ (by omega)).trans d.r, row5_at3 _ d.x, (heap_set_ne _ (by omega)).trans d.h, (heap_set_ne _ (by omega)).trans d.s⟩
theorem DecL.skip2 {w : World} {R X H S op : Nat} {D A Bv : Int} {p1 p2 p3 p4 : Bool} {wr : World} (d : DecL w R X H S op 2 D A Bv p1 p2 p3 p4 wr) (h : Bv = 0) : DecL w R X H S op 3 D A Bv p1 p2 p3 p4 wr := by
  subst h
  exact ⟨d.gr, d.hR, d.rx, d.xh, d.hs, d.r, d.x, d.h, d.s⟩

set_option maxRecDepth 100000 in
set_option maxHeartbeats 16000000 in
theorem decode_any (x : Int) (h0 : 0 ≤ x) (h1 : x < 4294967296) (B : Nat) (w : World) (hD : DecAt w B) : Calls Tryd.prog 46 #[.map (some B), .int .u32 x] w fun e w' => e = .returned (decV (Rv.decode x)) ∧ Gr w w' := by
  have HD := Lib.hid hD
  clear hD
  have HFI : Hid (∀ w1, Gr w w1 → Calls Tryd.prog 69 #[.map (some B), .int .u32 x] w1 fun e w' => e = .returned (.tuple #[.int .i64 (Rv.opOf x), .bool (Rv.findP x).isSome]) ∧ Gr w1 w') := fun w1 g => find_any x B w1 (HD.out.gr g) h0 h1
  have HDE := Lib.hid (Rv.decode_eq x h0 h1)
  by_cases hx1 : x = 115
  · subst hx1
    have HV : Hid (decV (Rv.decode 115) = .tuple #[.agg #[.int .i64 39, .int .i64 0, .int .i64 0, .int .i64 0, .int .i64 0], .bool true]) := by show _ = _; rw [← HDE.out]; rfl
    clear HDE HFI
    rw [HV.out]
    go_enter Tryd.func46, Tryd.ntmps46
    go_wp2
    refine bodyPost_ret (results_rv _ _ 4 5 (.bool true) _ w.heap.size _ _ _ _ _ (0, 0) rfl rfl rfl (heap_alloc_new w _)) rfl ?_
    exact ⟨rfl, (Gr.refl w).alloc _⟩
  by_cases hx2 : x = 1048691
  · subst hx2
    have HV : Hid (decV (Rv.decode 1048691) = .tuple #[.agg #[.int .i64 40, .int .i64 0, .int .i64 0, .int .i64 0, .int .i64 0], .bool true]) := by show _ = _; rw [← HDE.out]; rfl
    clear HDE HFI
    rw [HV.out]
    go_enter Tryd.func46, Tryd.ntmps46
    go_wp2
    refine bodyPost_ret (results_rv _ _ 4 5 (.bool true) _ w.heap.size _ _ _ _ _ (0, 0) rfl rfl rfl (heap_alloc_new w _)) rfl ?_
    exact ⟨rfl, (Gr.refl w).alloc _⟩
  have n1 : (x == 115) = false := by simp [hx1]
  have n2 : (x == 1048691) = false := by simp [hx2]
  obtain ⟨W, hW⟩ : ∃ W, w.alloc (.cells #[.int .i64 0, .int .i64 0, .int .i64 0, .int .i64 0, .int .i64 0] 23) = W := ⟨_, rfl⟩
  have hB0 : Gr w W := by rw [← hW]; exact (Gr.refl w).alloc _
  have hrw : W.heap[w.heap.size]? = some (.cells #[.int .i64 0, .int .i64 0, .int .i64 0, .int .i64 0, .int .i64 0] 23 (0, 0)) := by rw [← hW]; exact heap_alloc_new w _
  have hWs : W.heap.size = w.heap.size + 1 := by rw [← hW]; simp
  have KP : Hid (∀ w', Gr W w' → w'.heap[w.heap.size]? = some (.cells #[.int .i64 0, .int .i64 0, .int .i64 0, .int .i64 0, .int .i64 0] 23 (0, 0))) := fun w' q => (q.heap _ (by omega)).trans hrw
  have HB0 := Lib.hid hB0
  have HWS := Lib.hid hWs
  have HF := Lib.hid (HFI.out W hB0)
  clear hrw hWs hB0 HFI
  have HDP : Hid (Rv.decode x = match Rv.findP x with
    | none => none
    | some op => if Rv.word (Rv.fieldsOf op x) = x then some (Rv.fieldsOf op x) else none) := by
    show _ = _
    rw [← HDE.out]; unfold Rv.decodeP; rw [if_neg hx1, if_neg hx2]
    cases Rv.findP x <;> rfl
  clear HDE hx1 hx2
  unfold Rv.opOf at HF
  cases hf : Rv.findP x with
  | none =>
    rw [hf] at HDP HF
    have HV : Hid (decV (Rv.decode x) = .tuple #[.agg #[.int .i64 0, .int .i64 0, .int .i64 0, .int .i64 0, .int .i64 0], .bool false]) := by show _ = _; rw [HDP.out]; rfl
    simp only [Option.getD_none, Option.isSome_none] at HF
    rw [HV.out]
    clear hf HDP
    go_enter Tryd.func46, Tryd.ntmps46
    go_wp2_with (go_at_call 69; refine HF.out.mono ?_; rintro e w1 ⟨rfl, g1⟩; have hr := KP.out _ g1; have r0 := cell_of_row _ _ 0 _ _ _ hr; have r1 := cell_of_row _ _ 1 _ _ _ hr; have r2 := cell_of_row _ _ 2 _ _ _ hr; have r3 := cell_of_row _ _ 3 _ _ _ hr; have r4 := cell_of_row _ _ 4 _ _ _ hr; have f0 := frozen_of_row _ _ 0 _ _ hr; have f1 := frozen_of_row _ _ 1 _ _ hr; have f2 := frozen_of_row _ _ 2 _ _ hr; have f3 := frozen_of_row _ _ 3 _ _ hr; have f4 := frozen_of_row _ _ 4 _ _ hr; have HR := Lib.hid hr; clear hr)
    refine bodyPost_ret (results_rv _ _ 4 5 (.bool false) _ w.heap.size _ _ _ _ _ (0, 0) rfl rfl rfl (row5_set _ _ _ _ _ HR.out)) rfl ?_
    exact ⟨rfl, (((((HB0.out.trans g1).setCell (Nat.le_refl _) _).setCell (Nat.le_refl _) _).setCell (Nat.le_refl _) _).setCell (Nat.le_refl _) _).setCell (Nat.le_refl _) _⟩
  | some op =>
    have ho := Rv.findP_lt x op hf
    rw [hf] at HDP HF
    simp only [Option.getD_some, Option.isSome_some] at HF HDP
    clear hf
    have HFO : Hid (∀ w1, Calls Tryd.prog 37 #[.int .i64 (op : Int)] w1 fun e w' => e = .returned (.int .i64 (Rv.shapeN op)) ∧ w1 = w') := fun w1 => by
      have h := formOf_any (op : Int) w1
      have e : Rv.form (op : Int) = Rv.shapeN op := by unfold Rv.form; rw [if_neg (by omega)]; simp
      rw [e] at h; exact h
    have hs9 : Rv.shapeN op ≠ 9 := by unfold Rv.shapeN; grind
    have hsc := Rv.shape_cases op
    have HHA : Hid (∀ w1, Calls Tryd.prog 38 #[.int .i64 (Rv.shapeN op)] w1 fun e w' => e = .returned (.agg #[.bool (Rv.hasD (Rv.shapeN op)), .bool (Rv.hasA (Rv.shapeN op)), .bool (Rv.hasB (Rv.shapeN op)), .bool (Rv.hasI (Rv.shapeN op))]) ∧ Gr w1 w') := fun w1 => by
      have h := phas_any (Rv.shapeN op) (by omega) w1
      have e : Rv.hasP (Rv.shapeN op) = (Rv.hasD (Rv.shapeN op), Rv.hasA (Rv.shapeN op), Rv.hasB (Rv.shapeN op), Rv.hasI (Rv.shapeN op)) := by unfold Rv.hasP; rw [if_neg (by omega)]
      rw [e] at h; exact h
    have hvalid := Rv.fields_valid op x (by omega) h0 h1
    have HEN : Hid (∀ w1, Calls Tryd.prog 35 #[rvVal (Rv.fieldsOf op x)] w1 fun e w' => e = .returned (.int .u32 (Rv.word (Rv.fieldsOf op x))) ∧ Gr w1 w') := fun w1 => pencode_valid _ hvalid w1
    have HFD : Hid (Rv.fieldsOf op x = ⟨op, Rv.dOf (Rv.shapeN op) x, Rv.aOf (Rv.shapeN op) x, Rv.bOf (Rv.shapeN op) x, Rv.immN (Rv.shapeN op) x⟩) := by show _ = _; rfl
    rw [HFD.out] at HEN HDP
    obtain ⟨s, hs⟩ : ∃ s, Rv.shapeN op = s := ⟨_, rfl⟩
    rw [hs] at HFO HHA HEN HDP hs9 hsc
    have HS9 := Lib.hid hs9
    have HSC := Lib.hid hsc
    clear HFD hvalid hs hs9 hsc
    obtain ⟨D, hDd⟩ : ∃ z, Rv.dOf s x = z := ⟨_, rfl⟩
    obtain ⟨A, hA⟩ : ∃ z, Rv.aOf s x = z := ⟨_, rfl⟩
    obtain ⟨Bv, hBv⟩ : ∃ z, Rv.bOf s x = z := ⟨_, rfl⟩
    rw [hDd, hA, hBv] at HEN HDP
    unfold Rv.dOf at hDd
    unfold Rv.aOf at hA
    unfold Rv.bOf at hBv
    obtain ⟨p1, e1⟩ : ∃ p, Rv.hasD s = p := ⟨_, rfl⟩
    obtain ⟨p2, e2⟩ : ∃ p, Rv.hasA s = p := ⟨_, rfl⟩
    obtain ⟨p3, e3⟩ : ∃ p, Rv.hasB s = p := ⟨_, rfl⟩
    obtain ⟨p4, e4⟩ : ∃ p, Rv.hasI s = p := ⟨_, rfl⟩
    rw [e1, e2, e3, e4] at HHA
    rw [e1] at hDd
    rw [e2] at hA
    rw [e3] at hBv
    have HQ1 := Lib.hid hDd
    have HQ2 := Lib.hid hA
    have HQ3 := Lib.hid hBv
    clear hDd hA hBv e1 e2 e3 e4
    have HA1 := Lib.hid (and_u32 5 (x / 128) (by omega) (by omega) (by omega))
    have HA2 := Lib.hid (and_u32 5 (x / 32768) (by omega) (by omega) (by omega))
    have HA3 := Lib.hid (and_u32 5 (x / 1048576) (by omega) (by omega) (by omega))
    have a1 : bits .and .u32 (x / 128) 31 = x / 128 % 32 := HA1.out
    have a2 : bits .and .u32 (x / 32768) 31 = x / 32768 % 32 := HA2.out
    have a3 : bits .and .u32 (x / 1048576) 31 = x / 1048576 % 32 := HA3.out
    clear HA1 HA2 HA3
    unfold rvVal at HEN
    dsimp only at HEN
    go_enter Tryd.func46, Tryd.ntmps46
    go_wp2_with (first
      | (go_at_call 69; refine HF.out.mono ?_; rintro e w1 ⟨rfl, g1⟩)
      | (go_at_call 37; refine (HFO.out _).mono ?_; rintro e w2 ⟨rfl, rfl⟩)
      | (go_at_call 38; refine (HHA.out _).mono ?_; rintro e w2 ⟨rfl, g2⟩))
    have HL : Hid (DecL w w.heap.size w1.heap.size w2.heap.size (w2.heap.size + 1) op 0 D A Bv p1 p2 p3 p4 ((w2.alloc (.cells #[.bool p1, .bool p2, .bool p3, .bool p4] 64)).alloc (.cells #[.pointer (some ⟨w1.heap.size, 1, none⟩), .pointer (some ⟨w1.heap.size, 2, none⟩), .pointer (some ⟨w1.heap.size, 3, none⟩)] 95))) := by
      have z1 := g1.size
      have z2 := g2.size
      have z3 := HWS.out
      simp only [World.size_alloc] at z2
      have gA : Gr w2 ((w2.alloc (.cells #[.bool p1, .bool p2, .bool p3, .bool p4] 64)).alloc (.cells #[.pointer (some ⟨w1.heap.size, 1, none⟩), .pointer (some ⟨w1.heap.size, 2, none⟩), .pointer (some ⟨w1.heap.size, 3, none⟩)] 95)) := ((Gr.refl w2).alloc _).alloc _
      have gB : Gr W w2 := (g1.alloc _).trans g2
      refine ⟨HB0.out.trans (gB.trans gA), Nat.le_refl _, by omega, by omega, by omega, KP.out _ (gB.trans gA), ?_, ?_, ?_⟩
      · exact (gA.heap _ (by omega)).trans ((g2.heap _ (by simp)).trans (heap_alloc_new w1 _))
      · exact (((Gr.refl (w2.alloc (.cells #[.bool p1, .bool p2, .bool p3, .bool p4] 64))).alloc _).heap _ (by simp)).trans (heap_alloc_new w2 _)
      · have h := heap_alloc_new (w2.alloc (.cells #[.bool p1, .bool p2, .bool p3, .bool p4] 64)) (.cells #[.pointer (some ⟨w1.heap.size, 1, none⟩), .pointer (some ⟨w1.heap.size, 2, none⟩), .pointer (some ⟨w1.heap.size, 3, none⟩)] 95)
        simpa using h
    have HG1 := Lib.hid g1
    have HG2 := Lib.hid g2
    clear g1 g2 KP HF HFO HHA
    go_loopw [40] (fun i wr => ∃ k : Nat, k ≤ 3 ∧ i = .int .i64 k ∧ Hid (DecL w w.heap.size w1.heap.size w2.heap.size (w2.heap.size + 1) op k D A Bv p1 p2 p3 p4 wr)) (fun i _ => 3 - (intOf i).toNat)
    case atStart => exact ⟨0, by omega, rfl, HL⟩
    case round =>
      clear HL
      obtain ⟨k, hk, rfl, HL⟩ := hrel
      rcases (by omega : k = 0 ∨ k = 1 ∨ k = 2 ∨ k = 3) with rfl | rfl | rfl | rfl
      · have hh := HL.out.h
        have hp := HL.out.s
        have u0 := cell_of_row _ _ 0 _ _ _ hh
        have v0 := cell_of_row _ _ 0 _ _ _ hp
        clear hh hp
        cases p1 with
        | true =>
          have ex : ∀ o, ∃ z, (wr.alloc o).cell? ⟨w1.heap.size, 1, none⟩ = some z := fun o => ⟨_, cell_of_row _ _ 1 _ _ _ (HL.out.alloc o).x⟩
          have ey : ∀ o, (wr.alloc o).frozen? ⟨w1.heap.size, 1, none⟩ = false := fun o => frozen_of_row _ _ 1 _ _ (HL.out.alloc o).x
          obtain ⟨z, ez⟩ := ex (.cells #[.int .i64 7, .int .i64 15, .int .i64 20] 3)
          have hq : D = x / 128 % 32 := HQ1.out.symm.trans (if_pos rfl)
          have HQ := Lib.hid hq
          clear ex hq
          go_wp2
          go_roundw
          case rel => exact ⟨1, by omega, rfl, Lib.hid (by rw [← HQ.out]; exact (HL.out.alloc _).set0)⟩
          case measure => simp [intOf]
        | false =>
          go_wp2
          go_roundw
          case rel => exact ⟨1, by omega, rfl, Lib.hid (HL.out.skip0 (HQ1.out.symm.trans (if_neg (by decide))))⟩
          case measure => simp [intOf]
      · have hh := HL.out.h
        have hp := HL.out.s
        have u0 := cell_of_row _ _ 1 _ _ _ hh
        have v0 := cell_of_row _ _ 1 _ _ _ hp
        clear hh hp
        cases p2 with
        | true =>
          have ex : ∀ o, ∃ z, (wr.alloc o).cell? ⟨w1.heap.size, 2, none⟩ = some z := fun o => ⟨_, cell_of_row _ _ 2 _ _ _ (HL.out.alloc o).x⟩
          have ey : ∀ o, (wr.alloc o).frozen? ⟨w1.heap.size, 2, none⟩ = false := fun o => frozen_of_row _ _ 2 _ _ (HL.out.alloc o).x
          obtain ⟨z, ez⟩ := ex (.cells #[.int .i64 7, .int .i64 15, .int .i64 20] 3)
          have hq : A = x / 32768 % 32 := HQ2.out.symm.trans (if_pos rfl)
          have HQ := Lib.hid hq
          clear ex hq
          go_wp2
          go_roundw
          case rel => exact ⟨2, by omega, rfl, Lib.hid (by rw [← HQ.out]; exact (HL.out.alloc _).set1)⟩
          case measure => simp [intOf]
        | false =>
          go_wp2
          go_roundw
          case rel => exact ⟨2, by omega, rfl, Lib.hid (HL.out.skip1 (HQ2.out.symm.trans (if_neg (by decide))))⟩
          case measure => simp [intOf]
      · have hh := HL.out.h
        have hp := HL.out.s
        have u0 := cell_of_row _ _ 2 _ _ _ hh
        have v0 := cell_of_row _ _ 2 _ _ _ hp
        clear hh hp
        cases p3 with
        | true =>
          have ex : ∀ o, ∃ z, (wr.alloc o).cell? ⟨w1.heap.size, 3, none⟩ = some z := fun o => ⟨_, cell_of_row _ _ 3 _ _ _ (HL.out.alloc o).x⟩
          have ey : ∀ o, (wr.alloc o).frozen? ⟨w1.heap.size, 3, none⟩ = false := fun o => frozen_of_row _ _ 3 _ _ (HL.out.alloc o).x
          obtain ⟨z, ez⟩ := ex (.cells #[.int .i64 7, .int .i64 15, .int .i64 20] 3)
          have hq : Bv = x / 1048576 % 32 := HQ3.out.symm.trans (if_pos rfl)
          have HQ := Lib.hid hq
          clear ex hq
          go_wp2
          go_roundw
          case rel => exact ⟨3, by omega, rfl, Lib.hid (by rw [← HQ.out]; exact (HL.out.alloc _).set2)⟩
          case measure => simp [intOf]
        | false =>
          go_wp2
          go_roundw
          case rel => exact ⟨3, by omega, rfl, Lib.hid (HL.out.skip2 (HQ3.out.symm.trans (if_neg (by decide))))⟩
          case measure => simp [intOf]
      · have hx := HL.out.x
        simp only [Nat.reduceLeDiff, Nat.le_refl, if_true, if_false] at hx
        have hr := HL.out.r
        have HX := Lib.hid hx
        have HR := Lib.hid hr
        have x0 := cell_of_row _ _ 0 _ _ _ hx
        have x1 := cell_of_row _ _ 1 _ _ _ hx
        have x2 := cell_of_row _ _ 2 _ _ _ hx
        have x3 := cell_of_row _ _ 3 _ _ _ hx
        have x4 := cell_of_row _ _ 4 _ _ _ hx
        have x5 := frozen_of_row _ _ 4 _ _ hx
        clear hx hr HQ1 HQ2 HQ3 a1 a2
        have HLT : Hid (w.heap.size < w1.heap.size ∧ w1.heap.size < wr.heap.size) := ⟨HL.out.rx, (Array.getElem?_eq_some_iff.1 HX.out).1⟩
        have hle : w.heap.size ≤ w1.heap.size := Nat.le_of_lt HL.out.rx
        have HLE := Lib.hid hle
        clear hle
        have KE : Hid (∀ (im : Int) (W5 w5 : World), Gr W5 w5 → Gr w W5 → W5.heap = (wr.setCell ⟨w1.heap.size, 4, none⟩ (.int .i64 im)).heap → Hid (w5.heap[w1.heap.size]? = some (.cells #[.int .i64 op, .int .i64 D, .int .i64 A, .int .i64 Bv, .int .i64 im] 23 (0, 0))) ∧ Hid (w5.heap[w.heap.size]? = some (.cells #[.int .i64 0, .int .i64 0, .int .i64 0, .int .i64 0, .int .i64 0] 23 (0, 0))) ∧ Hid (Gr w w5)) := fun im W5 w5 g hg eW => by
          have hl := HLT.out
          have sz : W5.heap.size = wr.heap.size := by rw [eW]; simp
          refine ⟨?_, ?_, hg.trans g⟩
          · show _ = _
            rw [g.heap _ (by omega), eW]; exact row5_at4 _ HX.out
          · show _ = _
            rw [g.heap _ (by omega), eW]; exact (heap_set_ne _ (by omega)).trans HR.out
        obtain ⟨im, him⟩ : ∃ z, Rv.immN s x = z := ⟨_, rfl⟩
        rw [him] at HEN HDP
        have HGR := Lib.hid HL.out.gr
        clear HL
        obtain ⟨wd, hwd⟩ : ∃ z, Rv.word ⟨(op : Int), D, A, Bv, im⟩ = z := ⟨_, rfl⟩
        rw [hwd] at HEN HDP
        clear hwd
        obtain ⟨fit, hfit⟩ : ∃ z, (wd == x) = z := ⟨_, rfl⟩
        have hfn : (wd != x) = !fit := by rw [← hfit]; rfl
        have HV : Hid (decV (Rv.decode x) = if fit then .tuple #[.agg #[.int .i64 op, .int .i64 D, .int .i64 A, .int .i64 Bv, .int .i64 im], .bool true] else .tuple #[.agg #[.int .i64 0, .int .i64 0, .int .i64 0, .int .i64 0, .int .i64 0], .bool false]) := by
          show _ = _
          rw [HDP.out]
          by_cases e : wd = x
          · rw [if_pos e, ← hfit, if_pos (by simp [e])]; rfl
          · rw [if_neg e, ← hfit, if_neg (by simp [e])]; rfl
        clear hfit HDP
        have HS9' := HS9.out
        rcases (by have h := HSC.out; omega : s = 0 ∨ s = 1 ∨ s = 2 ∨ s = 3 ∨ s = 4 ∨ s = 5 ∨ s = 6 ∨ s = 7 ∨ s = 8) with rfl | rfl | rfl | rfl | rfl | rfl | rfl | rfl | rfl
        · have him0 : im = 0 := by rw [← him]; rfl
          subst him0
          clear him
          cases fit
          · have hfn' : (wd != x) = true := hfn
            clear hfn
            go_wp2_with (first
              | (go_at_call 35; refine (HEN.out _).mono ?_; rintro e w5 ⟨rfl, g5⟩; have HX5 := Lib.hid ((g5.heap _ HLT.out.2).trans HX.out); have HR5 := Lib.hid ((g5.heap _ (Nat.lt_trans HLT.out.1 HLT.out.2)).trans HR.out); have HG5 := Lib.hid (HGR.out.trans g5); have r0 := cell_of_row _ _ 0 _ _ _ HR5.out; have r1 := cell_of_row _ _ 1 _ _ _ HR5.out; have r2 := cell_of_row _ _ 2 _ _ _ HR5.out; have r3 := cell_of_row _ _ 3 _ _ _ HR5.out; have r4 := cell_of_row _ _ 4 _ _ _ HR5.out; have f0 := frozen_of_row _ _ 0 _ _ HR5.out; have f1 := frozen_of_row _ _ 1 _ _ HR5.out; have f2 := frozen_of_row _ _ 2 _ _ HR5.out; have f3 := frozen_of_row _ _ 3 _ _ HR5.out; have f4 := frozen_of_row _ _ 4 _ _ HR5.out; have y0 := cell_of_row _ _ 0 _ _ _ HX5.out; have y1 := cell_of_row _ _ 1 _ _ _ HX5.out; have y2 := cell_of_row _ _ 2 _ _ _ HX5.out; have y3 := cell_of_row _ _ 3 _ _ _ HX5.out; have y4 := cell_of_row _ _ 4 _ _ _ HX5.out))
            refine bodyPost_ret (results_rv _ _ 4 5 (.bool false) _ w.heap.size _ _ _ _ _ (0, 0) rfl rfl rfl (row5_set _ _ _ _ _ HR5.out)) rfl ?_
            exact ⟨by rw [HV.out]; rfl, ((((HG5.out.setCell (Nat.le_refl _) _).setCell (Nat.le_refl _) _).setCell (Nat.le_refl _) _).setCell (Nat.le_refl _) _).setCell (Nat.le_refl _) _⟩
          · have hfn' : (wd != x) = false := hfn
            clear hfn
            go_wp2_with (first
              | (go_at_call 35; refine (HEN.out _).mono ?_; rintro e w5 ⟨rfl, g5⟩; have HX5 := Lib.hid ((g5.heap _ HLT.out.2).trans HX.out); have HR5 := Lib.hid ((g5.heap _ (Nat.lt_trans HLT.out.1 HLT.out.2)).trans HR.out); have HG5 := Lib.hid (HGR.out.trans g5); have r0 := cell_of_row _ _ 0 _ _ _ HR5.out; have r1 := cell_of_row _ _ 1 _ _ _ HR5.out; have r2 := cell_of_row _ _ 2 _ _ _ HR5.out; have r3 := cell_of_row _ _ 3 _ _ _ HR5.out; have r4 := cell_of_row _ _ 4 _ _ _ HR5.out; have f0 := frozen_of_row _ _ 0 _ _ HR5.out; have f1 := frozen_of_row _ _ 1 _ _ HR5.out; have f2 := frozen_of_row _ _ 2 _ _ HR5.out; have f3 := frozen_of_row _ _ 3 _ _ HR5.out; have f4 := frozen_of_row _ _ 4 _ _ HR5.out; have y0 := cell_of_row _ _ 0 _ _ _ HX5.out; have y1 := cell_of_row _ _ 1 _ _ _ HX5.out; have y2 := cell_of_row _ _ 2 _ _ _ HX5.out; have y3 := cell_of_row _ _ 3 _ _ _ HX5.out; have y4 := cell_of_row _ _ 4 _ _ _ HX5.out))
            refine bodyPost_ret (results_rv _ _ 4 5 (.bool true) _ w.heap.size _ _ _ _ _ (0, 0) rfl rfl rfl (row5_set _ _ _ _ _ HR5.out)) rfl ?_
            exact ⟨by rw [HV.out]; rfl, ((((HG5.out.setCell (Nat.le_refl _) _).setCell (Nat.le_refl _) _).setCell (Nat.le_refl _) _).setCell (Nat.le_refl _) _).setCell (Nat.le_refl _) _⟩
        · have HSG : Hid (∀ w1, Calls Tryd.prog 70 #[.int .u32 (x / 1048576), .int .i64 12] w1 fun e w' => e = .returned (.int .i64 im) ∧ w1 = w') := fun w1 => by
            have h := psigned_any (x / 1048576) 12 (by omega) (by omega) (by simp only [Int.reducePow]; omega) w1
            have e : Rv.sgn (2 ^ 12) (x / 1048576) = im := by
              rw [← him]; simp only [Int.reducePow]
              have e2 : x / 1048576 % 4096 = x / 1048576 := by omega
              unfold Rv.immN; simp [e2]
            rw [e] at h; exact h
          clear him
          cases fit
          · have hfn' : (wd != x) = true := hfn
            clear hfn
            go_wp2_with (first
              | (go_at_call 70; refine (HSG.out _).mono ?_; rintro e w3 ⟨rfl, rfl⟩)
              | (go_at_call 35; refine (HEN.out _).mono ?_; rintro e w5 ⟨rfl, g5⟩; obtain ⟨HX5, HR5, HG5⟩ := KE.out im _ _ g5 (by first | exact HGR.out.setCell HLE.out _ | exact (HGR.out.setCell HLE.out _) | exact (HGR.out.drewN _).setCell HLE.out _ | exact (HGR.out.setCell HLE.out _).drewN _) rfl; have r0 := cell_of_row _ _ 0 _ _ _ HR5.out; have r1 := cell_of_row _ _ 1 _ _ _ HR5.out; have r2 := cell_of_row _ _ 2 _ _ _ HR5.out; have r3 := cell_of_row _ _ 3 _ _ _ HR5.out; have r4 := cell_of_row _ _ 4 _ _ _ HR5.out; have f0 := frozen_of_row _ _ 0 _ _ HR5.out; have f1 := frozen_of_row _ _ 1 _ _ HR5.out; have f2 := frozen_of_row _ _ 2 _ _ HR5.out; have f3 := frozen_of_row _ _ 3 _ _ HR5.out; have f4 := frozen_of_row _ _ 4 _ _ HR5.out; have y0 := cell_of_row _ _ 0 _ _ _ HX5.out; have y1 := cell_of_row _ _ 1 _ _ _ HX5.out; have y2 := cell_of_row _ _ 2 _ _ _ HX5.out; have y3 := cell_of_row _ _ 3 _ _ _ HX5.out; have y4 := cell_of_row _ _ 4 _ _ _ HX5.out))
            refine bodyPost_ret (results_rv _ _ 4 5 (.bool false) _ w.heap.size _ _ _ _ _ (0, 0) rfl rfl rfl (row5_set _ _ _ _ _ HR5.out)) rfl ?_
            exact ⟨by rw [HV.out]; rfl, ((((HG5.out.setCell (Nat.le_refl _) _).setCell (Nat.le_refl _) _).setCell (Nat.le_refl _) _).setCell (Nat.le_refl _) _).setCell (Nat.le_refl _) _⟩
          · have hfn' : (wd != x) = false := hfn
            clear hfn
            go_wp2_with (first
              | (go_at_call 70; refine (HSG.out _).mono ?_; rintro e w3 ⟨rfl, rfl⟩)
              | (go_at_call 35; refine (HEN.out _).mono ?_; rintro e w5 ⟨rfl, g5⟩; obtain ⟨HX5, HR5, HG5⟩ := KE.out im _ _ g5 (by first | exact HGR.out.setCell HLE.out _ | exact (HGR.out.setCell HLE.out _) | exact (HGR.out.drewN _).setCell HLE.out _ | exact (HGR.out.setCell HLE.out _).drewN _) rfl; have r0 := cell_of_row _ _ 0 _ _ _ HR5.out; have r1 := cell_of_row _ _ 1 _ _ _ HR5.out; have r2 := cell_of_row _ _ 2 _ _ _ HR5.out; have r3 := cell_of_row _ _ 3 _ _ _ HR5.out; have r4 := cell_of_row _ _ 4 _ _ _ HR5.out; have f0 := frozen_of_row _ _ 0 _ _ HR5.out; have f1 := frozen_of_row _ _ 1 _ _ HR5.out; have f2 := frozen_of_row _ _ 2 _ _ HR5.out; have f3 := frozen_of_row _ _ 3 _ _ HR5.out; have f4 := frozen_of_row _ _ 4 _ _ HR5.out; have y0 := cell_of_row _ _ 0 _ _ _ HX5.out; have y1 := cell_of_row _ _ 1 _ _ _ HX5.out; have y2 := cell_of_row _ _ 2 _ _ _ HX5.out; have y3 := cell_of_row _ _ 3 _ _ _ HX5.out; have y4 := cell_of_row _ _ 4 _ _ _ HX5.out))
            refine bodyPost_ret (results_rv _ _ 4 5 (.bool true) _ w.heap.size _ _ _ _ _ (0, 0) rfl rfl rfl (row5_set _ _ _ _ _ HR5.out)) rfl ?_
            exact ⟨by rw [HV.out]; rfl, ((((HG5.out.setCell (Nat.le_refl _) _).setCell (Nat.le_refl _) _).setCell (Nat.le_refl _) _).setCell (Nat.le_refl _) _).setCell (Nat.le_refl _) _⟩
        · have hv : x / 1048576 % 32 = im := by rw [← him]; simp [Rv.immN]
          clear him
          cases fit
          · have hfn' : (wd != x) = true := hfn
            clear hfn
            go_wp2_with (first
              | (go_at_call 35; refine (HEN.out _).mono ?_; rintro e w5 ⟨rfl, g5⟩; obtain ⟨HX5, HR5, HG5⟩ := KE.out im _ _ g5 (by first | exact HGR.out.setCell HLE.out _ | exact (HGR.out.setCell HLE.out _) | exact (HGR.out.drewN _).setCell HLE.out _ | exact (HGR.out.setCell HLE.out _).drewN _) rfl; have r0 := cell_of_row _ _ 0 _ _ _ HR5.out; have r1 := cell_of_row _ _ 1 _ _ _ HR5.out; have r2 := cell_of_row _ _ 2 _ _ _ HR5.out; have r3 := cell_of_row _ _ 3 _ _ _ HR5.out; have r4 := cell_of_row _ _ 4 _ _ _ HR5.out; have f0 := frozen_of_row _ _ 0 _ _ HR5.out; have f1 := frozen_of_row _ _ 1 _ _ HR5.out; have f2 := frozen_of_row _ _ 2 _ _ HR5.out; have f3 := frozen_of_row _ _ 3 _ _ HR5.out; have f4 := frozen_of_row _ _ 4 _ _ HR5.out; have y0 := cell_of_row _ _ 0 _ _ _ HX5.out; have y1 := cell_of_row _ _ 1 _ _ _ HX5.out; have y2 := cell_of_row _ _ 2 _ _ _ HX5.out; have y3 := cell_of_row _ _ 3 _ _ _ HX5.out; have y4 := cell_of_row _ _ 4 _ _ _ HX5.out))
            refine bodyPost_ret (results_rv _ _ 4 5 (.bool false) _ w.heap.size _ _ _ _ _ (0, 0) rfl rfl rfl (row5_set _ _ _ _ _ HR5.out)) rfl ?_
            exact ⟨by rw [HV.out]; rfl, ((((HG5.out.setCell (Nat.le_refl _) _).setCell (Nat.le_refl _) _).setCell (Nat.le_refl _) _).setCell (Nat.le_refl _) _).setCell (Nat.le_refl _) _⟩
          · have hfn' : (wd != x) = false := hfn
            clear hfn
            go_wp2_with (first
              | (go_at_call 35; refine (HEN.out _).mono ?_; rintro e w5 ⟨rfl, g5⟩; obtain ⟨HX5, HR5, HG5⟩ := KE.out im _ _ g5 (by first | exact HGR.out.setCell HLE.out _ | exact (HGR.out.setCell HLE.out _) | exact (HGR.out.drewN _).setCell HLE.out _ | exact (HGR.out.setCell HLE.out _).drewN _) rfl; have r0 := cell_of_row _ _ 0 _ _ _ HR5.out; have r1 := cell_of_row _ _ 1 _ _ _ HR5.out; have r2 := cell_of_row _ _ 2 _ _ _ HR5.out; have r3 := cell_of_row _ _ 3 _ _ _ HR5.out; have r4 := cell_of_row _ _ 4 _ _ _ HR5.out; have f0 := frozen_of_row _ _ 0 _ _ HR5.out; have f1 := frozen_of_row _ _ 1 _ _ HR5.out; have f2 := frozen_of_row _ _ 2 _ _ HR5.out; have f3 := frozen_of_row _ _ 3 _ _ HR5.out; have f4 := frozen_of_row _ _ 4 _ _ HR5.out; have y0 := cell_of_row _ _ 0 _ _ _ HX5.out; have y1 := cell_of_row _ _ 1 _ _ _ HX5.out; have y2 := cell_of_row _ _ 2 _ _ _ HX5.out; have y3 := cell_of_row _ _ 3 _ _ _ HX5.out; have y4 := cell_of_row _ _ 4 _ _ _ HX5.out))
            refine bodyPost_ret (results_rv _ _ 4 5 (.bool true) _ w.heap.size _ _ _ _ _ (0, 0) rfl rfl rfl (row5_set _ _ _ _ _ HR5.out)) rfl ?_
            exact ⟨by rw [HV.out]; rfl, ((((HG5.out.setCell (Nat.le_refl _) _).setCell (Nat.le_refl _) _).setCell (Nat.le_refl _) _).setCell (Nat.le_refl _) _).setCell (Nat.le_refl _) _⟩
        · have hv : x / 4096 = im := by
            rw [← him]; simp [Rv.immN]; omega
          clear him
          cases fit
          · have hfn' : (wd != x) = true := hfn
            clear hfn
            go_wp2_with (first
              | (go_at_call 35; refine (HEN.out _).mono ?_; rintro e w5 ⟨rfl, g5⟩; obtain ⟨HX5, HR5, HG5⟩ := KE.out im _ _ g5 (by first | exact HGR.out.setCell HLE.out _ | exact (HGR.out.setCell HLE.out _) | exact (HGR.out.drewN _).setCell HLE.out _ | exact (HGR.out.setCell HLE.out _).drewN _) rfl; have r0 := cell_of_row _ _ 0 _ _ _ HR5.out; have r1 := cell_of_row _ _ 1 _ _ _ HR5.out; have r2 := cell_of_row _ _ 2 _ _ _ HR5.out; have r3 := cell_of_row _ _ 3 _ _ _ HR5.out; have r4 := cell_of_row _ _ 4 _ _ _ HR5.out; have f0 := frozen_of_row _ _ 0 _ _ HR5.out; have f1 := frozen_of_row _ _ 1 _ _ HR5.out; have f2 := frozen_of_row _ _ 2 _ _ HR5.out; have f3 := frozen_of_row _ _ 3 _ _ HR5.out; have f4 := frozen_of_row _ _ 4 _ _ HR5.out; have y0 := cell_of_row _ _ 0 _ _ _ HX5.out; have y1 := cell_of_row _ _ 1 _ _ _ HX5.out; have y2 := cell_of_row _ _ 2 _ _ _ HX5.out; have y3 := cell_of_row _ _ 3 _ _ _ HX5.out; have y4 := cell_of_row _ _ 4 _ _ _ HX5.out))
            refine bodyPost_ret (results_rv _ _ 4 5 (.bool false) _ w.heap.size _ _ _ _ _ (0, 0) rfl rfl rfl (row5_set _ _ _ _ _ HR5.out)) rfl ?_
            exact ⟨by rw [HV.out]; rfl, ((((HG5.out.setCell (Nat.le_refl _) _).setCell (Nat.le_refl _) _).setCell (Nat.le_refl _) _).setCell (Nat.le_refl _) _).setCell (Nat.le_refl _) _⟩
          · have hfn' : (wd != x) = false := hfn
            clear hfn
            go_wp2_with (first
              | (go_at_call 35; refine (HEN.out _).mono ?_; rintro e w5 ⟨rfl, g5⟩; obtain ⟨HX5, HR5, HG5⟩ := KE.out im _ _ g5 (by first | exact HGR.out.setCell HLE.out _ | exact (HGR.out.setCell HLE.out _) | exact (HGR.out.drewN _).setCell HLE.out _ | exact (HGR.out.setCell HLE.out _).drewN _) rfl; have r0 := cell_of_row _ _ 0 _ _ _ HR5.out; have r1 := cell_of_row _ _ 1 _ _ _ HR5.out; have r2 := cell_of_row _ _ 2 _ _ _ HR5.out; have r3 := cell_of_row _ _ 3 _ _ _ HR5.out; have r4 := cell_of_row _ _ 4 _ _ _ HR5.out; have f0 := frozen_of_row _ _ 0 _ _ HR5.out; have f1 := frozen_of_row _ _ 1 _ _ HR5.out; have f2 := frozen_of_row _ _ 2 _ _ HR5.out; have f3 := frozen_of_row _ _ 3 _ _ HR5.out; have f4 := frozen_of_row _ _ 4 _ _ HR5.out; have y0 := cell_of_row _ _ 0 _ _ _ HX5.out; have y1 := cell_of_row _ _ 1 _ _ _ HX5.out; have y2 := cell_of_row _ _ 2 _ _ _ HX5.out; have y3 := cell_of_row _ _ 3 _ _ _ HX5.out; have y4 := cell_of_row _ _ 4 _ _ _ HX5.out))
            refine bodyPost_ret (results_rv _ _ 4 5 (.bool true) _ w.heap.size _ _ _ _ _ (0, 0) rfl rfl rfl (row5_set _ _ _ _ _ HR5.out)) rfl ?_
            exact ⟨by rw [HV.out]; rfl, ((((HG5.out.setCell (Nat.le_refl _) _).setCell (Nat.le_refl _) _).setCell (Nat.le_refl _) _).setCell (Nat.le_refl _) _).setCell (Nat.le_refl _) _⟩
        · have HSG : Hid (∀ w1, Calls Tryd.prog 70 #[.int .u32 (x / 1048576), .int .i64 12] w1 fun e w' => e = .returned (.int .i64 im) ∧ w1 = w') := fun w1 => by
            have h := psigned_any (x / 1048576) 12 (by omega) (by omega) (by simp only [Int.reducePow]; omega) w1
            have e : Rv.sgn (2 ^ 12) (x / 1048576) = im := by
              rw [← him]; simp only [Int.reducePow]
              have e2 : x / 1048576 % 4096 = x / 1048576 := by omega
              unfold Rv.immN; simp [e2]
            rw [e] at h; exact h
          clear him
          cases fit
          · have hfn' : (wd != x) = true := hfn
            clear hfn
            go_wp2_with (first
              | (go_at_call 70; refine (HSG.out _).mono ?_; rintro e w3 ⟨rfl, rfl⟩)
              | (go_at_call 35; refine (HEN.out _).mono ?_; rintro e w5 ⟨rfl, g5⟩; obtain ⟨HX5, HR5, HG5⟩ := KE.out im _ _ g5 (by first | exact HGR.out.setCell HLE.out _ | exact (HGR.out.setCell HLE.out _) | exact (HGR.out.drewN _).setCell HLE.out _ | exact (HGR.out.setCell HLE.out _).drewN _) rfl; have r0 := cell_of_row _ _ 0 _ _ _ HR5.out; have r1 := cell_of_row _ _ 1 _ _ _ HR5.out; have r2 := cell_of_row _ _ 2 _ _ _ HR5.out; have r3 := cell_of_row _ _ 3 _ _ _ HR5.out; have r4 := cell_of_row _ _ 4 _ _ _ HR5.out; have f0 := frozen_of_row _ _ 0 _ _ HR5.out; have f1 := frozen_of_row _ _ 1 _ _ HR5.out; have f2 := frozen_of_row _ _ 2 _ _ HR5.out; have f3 := frozen_of_row _ _ 3 _ _ HR5.out; have f4 := frozen_of_row _ _ 4 _ _ HR5.out; have y0 := cell_of_row _ _ 0 _ _ _ HX5.out; have y1 := cell_of_row _ _ 1 _ _ _ HX5.out; have y2 := cell_of_row _ _ 2 _ _ _ HX5.out; have y3 := cell_of_row _ _ 3 _ _ _ HX5.out; have y4 := cell_of_row _ _ 4 _ _ _ HX5.out))
            refine bodyPost_ret (results_rv _ _ 4 5 (.bool false) _ w.heap.size _ _ _ _ _ (0, 0) rfl rfl rfl (row5_set _ _ _ _ _ HR5.out)) rfl ?_
            exact ⟨by rw [HV.out]; rfl, ((((HG5.out.setCell (Nat.le_refl _) _).setCell (Nat.le_refl _) _).setCell (Nat.le_refl _) _).setCell (Nat.le_refl _) _).setCell (Nat.le_refl _) _⟩
          · have hfn' : (wd != x) = false := hfn
            clear hfn
            go_wp2_with (first
              | (go_at_call 70; refine (HSG.out _).mono ?_; rintro e w3 ⟨rfl, rfl⟩)
              | (go_at_call 35; refine (HEN.out _).mono ?_; rintro e w5 ⟨rfl, g5⟩; obtain ⟨HX5, HR5, HG5⟩ := KE.out im _ _ g5 (by first | exact HGR.out.setCell HLE.out _ | exact (HGR.out.setCell HLE.out _) | exact (HGR.out.drewN _).setCell HLE.out _ | exact (HGR.out.setCell HLE.out _).drewN _) rfl; have r0 := cell_of_row _ _ 0 _ _ _ HR5.out; have r1 := cell_of_row _ _ 1 _ _ _ HR5.out; have r2 := cell_of_row _ _ 2 _ _ _ HR5.out; have r3 := cell_of_row _ _ 3 _ _ _ HR5.out; have r4 := cell_of_row _ _ 4 _ _ _ HR5.out; have f0 := frozen_of_row _ _ 0 _ _ HR5.out; have f1 := frozen_of_row _ _ 1 _ _ HR5.out; have f2 := frozen_of_row _ _ 2 _ _ HR5.out; have f3 := frozen_of_row _ _ 3 _ _ HR5.out; have f4 := frozen_of_row _ _ 4 _ _ HR5.out; have y0 := cell_of_row _ _ 0 _ _ _ HX5.out; have y1 := cell_of_row _ _ 1 _ _ _ HX5.out; have y2 := cell_of_row _ _ 2 _ _ _ HX5.out; have y3 := cell_of_row _ _ 3 _ _ _ HX5.out; have y4 := cell_of_row _ _ 4 _ _ _ HX5.out))
            refine bodyPost_ret (results_rv _ _ 4 5 (.bool true) _ w.heap.size _ _ _ _ _ (0, 0) rfl rfl rfl (row5_set _ _ _ _ _ HR5.out)) rfl ?_
            exact ⟨by rw [HV.out]; rfl, ((((HG5.out.setCell (Nat.le_refl _) _).setCell (Nat.le_refl _) _).setCell (Nat.le_refl _) _).setCell (Nat.le_refl _) _).setCell (Nat.le_refl _) _⟩
        · have B1 : Hid (∀ w1, Calls Tryd.prog 68 #[.int .u32 x, .int .i64 7, .int .i64 5, .int .i64 0] w1 fun e w' => e = .returned (.int .u32 (Rv.part x 7 5 0)) ∧ ∃ k, w' = w1.drewN k) := fun w1 => bit_any x 7 5 0 h0 h1 (by omega) (by omega) (by omega) w1
          have B2 : Hid (∀ w1, Calls Tryd.prog 68 #[.int .u32 x, .int .i64 25, .int .i64 7, .int .i64 5] w1 fun e w' => e = .returned (.int .u32 (Rv.part x 25 7 5)) ∧ ∃ k, w' = w1.drewN k) := fun w1 => bit_any x 25 7 5 h0 h1 (by omega) (by omega) (by omega) w1
          have HN := Lib.hid (bits5 x)
          obtain ⟨N, hN⟩ : ∃ N, x / 128 % 32 + x / 33554432 % 128 * 32 = N := ⟨_, rfl⟩
          have b0 : 0 ≤ N := by omega
          have b1 : N < 2 ^ 12 := by simp only [Int.reducePow]; omega
          have HSG : Hid (∀ w1, Calls Tryd.prog 70 #[.int .u32 N, .int .i64 12] w1 fun e w' => e = .returned (.int .i64 im) ∧ w1 = w') := fun w1 => by
            have h := psigned_any N 12 (by omega) b0 b1 w1
            have e : Rv.sgn (2 ^ 12) N = im := by rw [← him, ← hN]; simp only [Int.reducePow]; rfl
            rw [e] at h; exact h
          rw [hN] at HN
          obtain ⟨z1, hz1⟩ : ∃ p, Rv.part x 7 5 0 = p := ⟨_, rfl⟩
          rw [hz1] at B1 HN
          obtain ⟨z2, hz2⟩ : ∃ p, Rv.part x 25 7 5 = p := ⟨_, rfl⟩
          rw [hz2] at B2 HN
          have hor : bits .or .u32 z1 z2 = N := HN.out
          clear HN hN b0 b1 hz1 hz2
          clear him
          cases fit
          · have hfn' : (wd != x) = true := hfn
            clear hfn
            go_wp2_with (first
              | (go_at_call 68; with_reducible refine (B1.out _).mono ?_; rintro e w3 ⟨rfl, m1, rfl⟩)
              | (go_at_call 68; with_reducible refine (B2.out _).mono ?_; rintro e w3 ⟨rfl, m2, rfl⟩)
              | (go_at_call 70; refine (HSG.out _).mono ?_; rintro e w3 ⟨rfl, rfl⟩)
              | (go_at_call 35; refine (HEN.out _).mono ?_; rintro e w5 ⟨rfl, g5⟩; obtain ⟨HX5, HR5, HG5⟩ := KE.out im _ _ g5 (by first | exact ((HGR.out.drewN _).drewN _).setCell HLE.out _ | exact (((HGR.out.setCell HLE.out _).drewN _).drewN _) | exact (HGR.out.drewN _).setCell HLE.out _ | exact (HGR.out.setCell HLE.out _).drewN _) rfl; have r0 := cell_of_row _ _ 0 _ _ _ HR5.out; have r1 := cell_of_row _ _ 1 _ _ _ HR5.out; have r2 := cell_of_row _ _ 2 _ _ _ HR5.out; have r3 := cell_of_row _ _ 3 _ _ _ HR5.out; have r4 := cell_of_row _ _ 4 _ _ _ HR5.out; have f0 := frozen_of_row _ _ 0 _ _ HR5.out; have f1 := frozen_of_row _ _ 1 _ _ HR5.out; have f2 := frozen_of_row _ _ 2 _ _ HR5.out; have f3 := frozen_of_row _ _ 3 _ _ HR5.out; have f4 := frozen_of_row _ _ 4 _ _ HR5.out; have y0 := cell_of_row _ _ 0 _ _ _ HX5.out; have y1 := cell_of_row _ _ 1 _ _ _ HX5.out; have y2 := cell_of_row _ _ 2 _ _ _ HX5.out; have y3 := cell_of_row _ _ 3 _ _ _ HX5.out; have y4 := cell_of_row _ _ 4 _ _ _ HX5.out))
            refine bodyPost_ret (results_rv _ _ 4 5 (.bool false) _ w.heap.size _ _ _ _ _ (0, 0) rfl rfl rfl (row5_set _ _ _ _ _ HR5.out)) rfl ?_
            exact ⟨by rw [HV.out]; rfl, ((((HG5.out.setCell (Nat.le_refl _) _).setCell (Nat.le_refl _) _).setCell (Nat.le_refl _) _).setCell (Nat.le_refl _) _).setCell (Nat.le_refl _) _⟩
          · have hfn' : (wd != x) = false := hfn
            clear hfn
            go_wp2_with (first
              | (go_at_call 68; with_reducible refine (B1.out _).mono ?_; rintro e w3 ⟨rfl, m1, rfl⟩)
              | (go_at_call 68; with_reducible refine (B2.out _).mono ?_; rintro e w3 ⟨rfl, m2, rfl⟩)
              | (go_at_call 70; refine (HSG.out _).mono ?_; rintro e w3 ⟨rfl, rfl⟩)
              | (go_at_call 35; refine (HEN.out _).mono ?_; rintro e w5 ⟨rfl, g5⟩; obtain ⟨HX5, HR5, HG5⟩ := KE.out im _ _ g5 (by first | exact ((HGR.out.drewN _).drewN _).setCell HLE.out _ | exact (((HGR.out.setCell HLE.out _).drewN _).drewN _) | exact (HGR.out.drewN _).setCell HLE.out _ | exact (HGR.out.setCell HLE.out _).drewN _) rfl; have r0 := cell_of_row _ _ 0 _ _ _ HR5.out; have r1 := cell_of_row _ _ 1 _ _ _ HR5.out; have r2 := cell_of_row _ _ 2 _ _ _ HR5.out; have r3 := cell_of_row _ _ 3 _ _ _ HR5.out; have r4 := cell_of_row _ _ 4 _ _ _ HR5.out; have f0 := frozen_of_row _ _ 0 _ _ HR5.out; have f1 := frozen_of_row _ _ 1 _ _ HR5.out; have f2 := frozen_of_row _ _ 2 _ _ HR5.out; have f3 := frozen_of_row _ _ 3 _ _ HR5.out; have f4 := frozen_of_row _ _ 4 _ _ HR5.out; have y0 := cell_of_row _ _ 0 _ _ _ HX5.out; have y1 := cell_of_row _ _ 1 _ _ _ HX5.out; have y2 := cell_of_row _ _ 2 _ _ _ HX5.out; have y3 := cell_of_row _ _ 3 _ _ _ HX5.out; have y4 := cell_of_row _ _ 4 _ _ _ HX5.out))
            refine bodyPost_ret (results_rv _ _ 4 5 (.bool true) _ w.heap.size _ _ _ _ _ (0, 0) rfl rfl rfl (row5_set _ _ _ _ _ HR5.out)) rfl ?_
            exact ⟨by rw [HV.out]; rfl, ((((HG5.out.setCell (Nat.le_refl _) _).setCell (Nat.le_refl _) _).setCell (Nat.le_refl _) _).setCell (Nat.le_refl _) _).setCell (Nat.le_refl _) _⟩
        · have B1 : Hid (∀ w1, Calls Tryd.prog 68 #[.int .u32 x, .int .i64 7, .int .i64 1, .int .i64 11] w1 fun e w' => e = .returned (.int .u32 (Rv.part x 7 1 11)) ∧ ∃ k, w' = w1.drewN k) := fun w1 => bit_any x 7 1 11 h0 h1 (by omega) (by omega) (by omega) w1
          have B2 : Hid (∀ w1, Calls Tryd.prog 68 #[.int .u32 x, .int .i64 8, .int .i64 4, .int .i64 1] w1 fun e w' => e = .returned (.int .u32 (Rv.part x 8 4 1)) ∧ ∃ k, w' = w1.drewN k) := fun w1 => bit_any x 8 4 1 h0 h1 (by omega) (by omega) (by omega) w1
          have B3 : Hid (∀ w1, Calls Tryd.prog 68 #[.int .u32 x, .int .i64 25, .int .i64 6, .int .i64 5] w1 fun e w' => e = .returned (.int .u32 (Rv.part x 25 6 5)) ∧ ∃ k, w' = w1.drewN k) := fun w1 => bit_any x 25 6 5 h0 h1 (by omega) (by omega) (by omega) w1
          have B4 : Hid (∀ w1, Calls Tryd.prog 68 #[.int .u32 x, .int .i64 31, .int .i64 1, .int .i64 12] w1 fun e w' => e = .returned (.int .u32 (Rv.part x 31 1 12)) ∧ ∃ k, w' = w1.drewN k) := fun w1 => bit_any x 31 1 12 h0 h1 (by omega) (by omega) (by omega) w1
          have HN := Lib.hid (bits6 x)
          obtain ⟨N, hN⟩ : ∃ N, x / 128 % 2 * 2048 + x / 256 % 16 * 2 + x / 33554432 % 64 * 32 + x / 2147483648 % 2 * 4096 = N := ⟨_, rfl⟩
          have b0 : 0 ≤ N := by omega
          have b1 : N < 2 ^ 13 := by simp only [Int.reducePow]; omega
          have HSG : Hid (∀ w1, Calls Tryd.prog 70 #[.int .u32 N, .int .i64 13] w1 fun e w' => e = .returned (.int .i64 im) ∧ w1 = w') := fun w1 => by
            have h := psigned_any N 13 (by omega) b0 b1 w1
            have e : Rv.sgn (2 ^ 13) N = im := by rw [← him, ← hN]; simp only [Int.reducePow]; rfl
            rw [e] at h; exact h
          rw [hN] at HN
          obtain ⟨z1, hz1⟩ : ∃ p, Rv.part x 7 1 11 = p := ⟨_, rfl⟩
          rw [hz1] at B1 HN
          obtain ⟨z2, hz2⟩ : ∃ p, Rv.part x 8 4 1 = p := ⟨_, rfl⟩
          rw [hz2] at B2 HN
          obtain ⟨z3, hz3⟩ : ∃ p, Rv.part x 25 6 5 = p := ⟨_, rfl⟩
          rw [hz3] at B3 HN
          obtain ⟨z4, hz4⟩ : ∃ p, Rv.part x 31 1 12 = p := ⟨_, rfl⟩
          rw [hz4] at B4 HN
          have hor : bits .or .u32 (bits .or .u32 (bits .or .u32 z1 z2) (z3)) (z4) = N := HN.out
          clear HN hN b0 b1 hz1 hz2 hz3 hz4
          clear him
          cases fit
          · have hfn' : (wd != x) = true := hfn
            clear hfn
            go_wp2_with (first
              | (go_at_call 68; with_reducible refine (B1.out _).mono ?_; rintro e w3 ⟨rfl, m1, rfl⟩)
              | (go_at_call 68; with_reducible refine (B2.out _).mono ?_; rintro e w3 ⟨rfl, m2, rfl⟩)
              | (go_at_call 68; with_reducible refine (B3.out _).mono ?_; rintro e w3 ⟨rfl, m3, rfl⟩)
              | (go_at_call 68; with_reducible refine (B4.out _).mono ?_; rintro e w3 ⟨rfl, m4, rfl⟩)
              | (go_at_call 70; refine (HSG.out _).mono ?_; rintro e w3 ⟨rfl, rfl⟩)
              | (go_at_call 35; refine (HEN.out _).mono ?_; rintro e w5 ⟨rfl, g5⟩; obtain ⟨HX5, HR5, HG5⟩ := KE.out im _ _ g5 (by first | exact ((((HGR.out.drewN _).drewN _).drewN _).drewN _).setCell HLE.out _ | exact (((((HGR.out.setCell HLE.out _).drewN _).drewN _).drewN _).drewN _) | exact (HGR.out.drewN _).setCell HLE.out _ | exact (HGR.out.setCell HLE.out _).drewN _) rfl; have r0 := cell_of_row _ _ 0 _ _ _ HR5.out; have r1 := cell_of_row _ _ 1 _ _ _ HR5.out; have r2 := cell_of_row _ _ 2 _ _ _ HR5.out; have r3 := cell_of_row _ _ 3 _ _ _ HR5.out; have r4 := cell_of_row _ _ 4 _ _ _ HR5.out; have f0 := frozen_of_row _ _ 0 _ _ HR5.out; have f1 := frozen_of_row _ _ 1 _ _ HR5.out; have f2 := frozen_of_row _ _ 2 _ _ HR5.out; have f3 := frozen_of_row _ _ 3 _ _ HR5.out; have f4 := frozen_of_row _ _ 4 _ _ HR5.out; have y0 := cell_of_row _ _ 0 _ _ _ HX5.out; have y1 := cell_of_row _ _ 1 _ _ _ HX5.out; have y2 := cell_of_row _ _ 2 _ _ _ HX5.out; have y3 := cell_of_row _ _ 3 _ _ _ HX5.out; have y4 := cell_of_row _ _ 4 _ _ _ HX5.out))
            refine bodyPost_ret (results_rv _ _ 4 5 (.bool false) _ w.heap.size _ _ _ _ _ (0, 0) rfl rfl rfl (row5_set _ _ _ _ _ HR5.out)) rfl ?_
            exact ⟨by rw [HV.out]; rfl, ((((HG5.out.setCell (Nat.le_refl _) _).setCell (Nat.le_refl _) _).setCell (Nat.le_refl _) _).setCell (Nat.le_refl _) _).setCell (Nat.le_refl _) _⟩
          · have hfn' : (wd != x) = false := hfn
            clear hfn
            go_wp2_with (first
              | (go_at_call 68; with_reducible refine (B1.out _).mono ?_; rintro e w3 ⟨rfl, m1, rfl⟩)
              | (go_at_call 68; with_reducible refine (B2.out _).mono ?_; rintro e w3 ⟨rfl, m2, rfl⟩)
              | (go_at_call 68; with_reducible refine (B3.out _).mono ?_; rintro e w3 ⟨rfl, m3, rfl⟩)
              | (go_at_call 68; with_reducible refine (B4.out _).mono ?_; rintro e w3 ⟨rfl, m4, rfl⟩)
              | (go_at_call 70; refine (HSG.out _).mono ?_; rintro e w3 ⟨rfl, rfl⟩)
              | (go_at_call 35; refine (HEN.out _).mono ?_; rintro e w5 ⟨rfl, g5⟩; obtain ⟨HX5, HR5, HG5⟩ := KE.out im _ _ g5 (by first | exact ((((HGR.out.drewN _).drewN _).drewN _).drewN _).setCell HLE.out _ | exact (((((HGR.out.setCell HLE.out _).drewN _).drewN _).drewN _).drewN _) | exact (HGR.out.drewN _).setCell HLE.out _ | exact (HGR.out.setCell HLE.out _).drewN _) rfl; have r0 := cell_of_row _ _ 0 _ _ _ HR5.out; have r1 := cell_of_row _ _ 1 _ _ _ HR5.out; have r2 := cell_of_row _ _ 2 _ _ _ HR5.out; have r3 := cell_of_row _ _ 3 _ _ _ HR5.out; have r4 := cell_of_row _ _ 4 _ _ _ HR5.out; have f0 := frozen_of_row _ _ 0 _ _ HR5.out; have f1 := frozen_of_row _ _ 1 _ _ HR5.out; have f2 := frozen_of_row _ _ 2 _ _ HR5.out; have f3 := frozen_of_row _ _ 3 _ _ HR5.out; have f4 := frozen_of_row _ _ 4 _ _ HR5.out; have y0 := cell_of_row _ _ 0 _ _ _ HX5.out; have y1 := cell_of_row _ _ 1 _ _ _ HX5.out; have y2 := cell_of_row _ _ 2 _ _ _ HX5.out; have y3 := cell_of_row _ _ 3 _ _ _ HX5.out; have y4 := cell_of_row _ _ 4 _ _ _ HX5.out))
            refine bodyPost_ret (results_rv _ _ 4 5 (.bool true) _ w.heap.size _ _ _ _ _ (0, 0) rfl rfl rfl (row5_set _ _ _ _ _ HR5.out)) rfl ?_
            exact ⟨by rw [HV.out]; rfl, ((((HG5.out.setCell (Nat.le_refl _) _).setCell (Nat.le_refl _) _).setCell (Nat.le_refl _) _).setCell (Nat.le_refl _) _).setCell (Nat.le_refl _) _⟩
        · have B1 : Hid (∀ w1, Calls Tryd.prog 68 #[.int .u32 x, .int .i64 12, .int .i64 8, .int .i64 12] w1 fun e w' => e = .returned (.int .u32 (Rv.part x 12 8 12)) ∧ ∃ k, w' = w1.drewN k) := fun w1 => bit_any x 12 8 12 h0 h1 (by omega) (by omega) (by omega) w1
          have B2 : Hid (∀ w1, Calls Tryd.prog 68 #[.int .u32 x, .int .i64 20, .int .i64 1, .int .i64 11] w1 fun e w' => e = .returned (.int .u32 (Rv.part x 20 1 11)) ∧ ∃ k, w' = w1.drewN k) := fun w1 => bit_any x 20 1 11 h0 h1 (by omega) (by omega) (by omega) w1
          have B3 : Hid (∀ w1, Calls Tryd.prog 68 #[.int .u32 x, .int .i64 21, .int .i64 10, .int .i64 1] w1 fun e w' => e = .returned (.int .u32 (Rv.part x 21 10 1)) ∧ ∃ k, w' = w1.drewN k) := fun w1 => bit_any x 21 10 1 h0 h1 (by omega) (by omega) (by omega) w1
          have B4 : Hid (∀ w1, Calls Tryd.prog 68 #[.int .u32 x, .int .i64 31, .int .i64 1, .int .i64 20] w1 fun e w' => e = .returned (.int .u32 (Rv.part x 31 1 20)) ∧ ∃ k, w' = w1.drewN k) := fun w1 => bit_any x 31 1 20 h0 h1 (by omega) (by omega) (by omega) w1
          have HN := Lib.hid (bits7 x)
          obtain ⟨N, hN⟩ : ∃ N, x / 4096 % 256 * 4096 + x / 1048576 % 2 * 2048 + x / 2097152 % 1024 * 2 + x / 2147483648 % 2 * 1048576 = N := ⟨_, rfl⟩
          have b0 : 0 ≤ N := by omega
          have b1 : N < 2 ^ 21 := by simp only [Int.reducePow]; omega
          have HSG : Hid (∀ w1, Calls Tryd.prog 70 #[.int .u32 N, .int .i64 21] w1 fun e w' => e = .returned (.int .i64 im) ∧ w1 = w') := fun w1 => by
            have h := psigned_any N 21 (by omega) b0 b1 w1
            have e : Rv.sgn (2 ^ 21) N = im := by rw [← him, ← hN]; simp only [Int.reducePow]; rfl
            rw [e] at h; exact h
          rw [hN] at HN
          obtain ⟨z1, hz1⟩ : ∃ p, Rv.part x 12 8 12 = p := ⟨_, rfl⟩
          rw [hz1] at B1 HN
          obtain ⟨z2, hz2⟩ : ∃ p, Rv.part x 20 1 11 = p := ⟨_, rfl⟩
          rw [hz2] at B2 HN
          obtain ⟨z3, hz3⟩ : ∃ p, Rv.part x 21 10 1 = p := ⟨_, rfl⟩
          rw [hz3] at B3 HN
          obtain ⟨z4, hz4⟩ : ∃ p, Rv.part x 31 1 20 = p := ⟨_, rfl⟩
          rw [hz4] at B4 HN
          have hor : bits .or .u32 (bits .or .u32 (bits .or .u32 z1 z2) (z3)) (z4) = N := HN.out
          clear HN hN b0 b1 hz1 hz2 hz3 hz4
          clear him
          cases fit
          · have hfn' : (wd != x) = true := hfn
            clear hfn
            go_wp2_with (first
              | (go_at_call 68; with_reducible refine (B1.out _).mono ?_; rintro e w3 ⟨rfl, m1, rfl⟩)
              | (go_at_call 68; with_reducible refine (B2.out _).mono ?_; rintro e w3 ⟨rfl, m2, rfl⟩)
              | (go_at_call 68; with_reducible refine (B3.out _).mono ?_; rintro e w3 ⟨rfl, m3, rfl⟩)
              | (go_at_call 68; with_reducible refine (B4.out _).mono ?_; rintro e w3 ⟨rfl, m4, rfl⟩)
              | (go_at_call 70; refine (HSG.out _).mono ?_; rintro e w3 ⟨rfl, rfl⟩)
              | (go_at_call 35; refine (HEN.out _).mono ?_; rintro e w5 ⟨rfl, g5⟩; obtain ⟨HX5, HR5, HG5⟩ := KE.out im _ _ g5 (by first | exact ((((HGR.out.drewN _).drewN _).drewN _).drewN _).setCell HLE.out _ | exact (((((HGR.out.setCell HLE.out _).drewN _).drewN _).drewN _).drewN _) | exact (HGR.out.drewN _).setCell HLE.out _ | exact (HGR.out.setCell HLE.out _).drewN _) rfl; have r0 := cell_of_row _ _ 0 _ _ _ HR5.out; have r1 := cell_of_row _ _ 1 _ _ _ HR5.out; have r2 := cell_of_row _ _ 2 _ _ _ HR5.out; have r3 := cell_of_row _ _ 3 _ _ _ HR5.out; have r4 := cell_of_row _ _ 4 _ _ _ HR5.out; have f0 := frozen_of_row _ _ 0 _ _ HR5.out; have f1 := frozen_of_row _ _ 1 _ _ HR5.out; have f2 := frozen_of_row _ _ 2 _ _ HR5.out; have f3 := frozen_of_row _ _ 3 _ _ HR5.out; have f4 := frozen_of_row _ _ 4 _ _ HR5.out; have y0 := cell_of_row _ _ 0 _ _ _ HX5.out; have y1 := cell_of_row _ _ 1 _ _ _ HX5.out; have y2 := cell_of_row _ _ 2 _ _ _ HX5.out; have y3 := cell_of_row _ _ 3 _ _ _ HX5.out; have y4 := cell_of_row _ _ 4 _ _ _ HX5.out))
            refine bodyPost_ret (results_rv _ _ 4 5 (.bool false) _ w.heap.size _ _ _ _ _ (0, 0) rfl rfl rfl (row5_set _ _ _ _ _ HR5.out)) rfl ?_
            exact ⟨by rw [HV.out]; rfl, ((((HG5.out.setCell (Nat.le_refl _) _).setCell (Nat.le_refl _) _).setCell (Nat.le_refl _) _).setCell (Nat.le_refl _) _).setCell (Nat.le_refl _) _⟩
          · have hfn' : (wd != x) = false := hfn
            clear hfn
            go_wp2_with (first
              | (go_at_call 68; with_reducible refine (B1.out _).mono ?_; rintro e w3 ⟨rfl, m1, rfl⟩)
              | (go_at_call 68; with_reducible refine (B2.out _).mono ?_; rintro e w3 ⟨rfl, m2, rfl⟩)
              | (go_at_call 68; with_reducible refine (B3.out _).mono ?_; rintro e w3 ⟨rfl, m3, rfl⟩)
              | (go_at_call 68; with_reducible refine (B4.out _).mono ?_; rintro e w3 ⟨rfl, m4, rfl⟩)
              | (go_at_call 70; refine (HSG.out _).mono ?_; rintro e w3 ⟨rfl, rfl⟩)
              | (go_at_call 35; refine (HEN.out _).mono ?_; rintro e w5 ⟨rfl, g5⟩; obtain ⟨HX5, HR5, HG5⟩ := KE.out im _ _ g5 (by first | exact ((((HGR.out.drewN _).drewN _).drewN _).drewN _).setCell HLE.out _ | exact (((((HGR.out.setCell HLE.out _).drewN _).drewN _).drewN _).drewN _) | exact (HGR.out.drewN _).setCell HLE.out _ | exact (HGR.out.setCell HLE.out _).drewN _) rfl; have r0 := cell_of_row _ _ 0 _ _ _ HR5.out; have r1 := cell_of_row _ _ 1 _ _ _ HR5.out; have r2 := cell_of_row _ _ 2 _ _ _ HR5.out; have r3 := cell_of_row _ _ 3 _ _ _ HR5.out; have r4 := cell_of_row _ _ 4 _ _ _ HR5.out; have f0 := frozen_of_row _ _ 0 _ _ HR5.out; have f1 := frozen_of_row _ _ 1 _ _ HR5.out; have f2 := frozen_of_row _ _ 2 _ _ HR5.out; have f3 := frozen_of_row _ _ 3 _ _ HR5.out; have f4 := frozen_of_row _ _ 4 _ _ HR5.out; have y0 := cell_of_row _ _ 0 _ _ _ HX5.out; have y1 := cell_of_row _ _ 1 _ _ _ HX5.out; have y2 := cell_of_row _ _ 2 _ _ _ HX5.out; have y3 := cell_of_row _ _ 3 _ _ _ HX5.out; have y4 := cell_of_row _ _ 4 _ _ _ HX5.out))
            refine bodyPost_ret (results_rv _ _ 4 5 (.bool true) _ w.heap.size _ _ _ _ _ (0, 0) rfl rfl rfl (row5_set _ _ _ _ _ HR5.out)) rfl ?_
            exact ⟨by rw [HV.out]; rfl, ((((HG5.out.setCell (Nat.le_refl _) _).setCell (Nat.le_refl _) _).setCell (Nat.le_refl _) _).setCell (Nat.le_refl _) _).setCell (Nat.le_refl _) _⟩
        · have HSG : Hid (∀ w1, Calls Tryd.prog 70 #[.int .u32 (x / 1048576), .int .i64 12] w1 fun e w' => e = .returned (.int .i64 im) ∧ w1 = w') := fun w1 => by
            have h := psigned_any (x / 1048576) 12 (by omega) (by omega) (by simp only [Int.reducePow]; omega) w1
            have e : Rv.sgn (2 ^ 12) (x / 1048576) = im := by
              rw [← him]; simp only [Int.reducePow]
              have e2 : x / 1048576 % 4096 = x / 1048576 := by omega
              unfold Rv.immN; simp [e2]
            rw [e] at h; exact h
          clear him
          cases fit
          · have hfn' : (wd != x) = true := hfn
            clear hfn
            go_wp2_with (first
              | (go_at_call 70; refine (HSG.out _).mono ?_; rintro e w3 ⟨rfl, rfl⟩)
              | (go_at_call 35; refine (HEN.out _).mono ?_; rintro e w5 ⟨rfl, g5⟩; obtain ⟨HX5, HR5, HG5⟩ := KE.out im _ _ g5 (by first | exact HGR.out.setCell HLE.out _ | exact (HGR.out.setCell HLE.out _) | exact (HGR.out.drewN _).setCell HLE.out _ | exact (HGR.out.setCell HLE.out _).drewN _) rfl; have r0 := cell_of_row _ _ 0 _ _ _ HR5.out; have r1 := cell_of_row _ _ 1 _ _ _ HR5.out; have r2 := cell_of_row _ _ 2 _ _ _ HR5.out; have r3 := cell_of_row _ _ 3 _ _ _ HR5.out; have r4 := cell_of_row _ _ 4 _ _ _ HR5.out; have f0 := frozen_of_row _ _ 0 _ _ HR5.out; have f1 := frozen_of_row _ _ 1 _ _ HR5.out; have f2 := frozen_of_row _ _ 2 _ _ HR5.out; have f3 := frozen_of_row _ _ 3 _ _ HR5.out; have f4 := frozen_of_row _ _ 4 _ _ HR5.out; have y0 := cell_of_row _ _ 0 _ _ _ HX5.out; have y1 := cell_of_row _ _ 1 _ _ _ HX5.out; have y2 := cell_of_row _ _ 2 _ _ _ HX5.out; have y3 := cell_of_row _ _ 3 _ _ _ HX5.out; have y4 := cell_of_row _ _ 4 _ _ _ HX5.out))
            refine bodyPost_ret (results_rv _ _ 4 5 (.bool false) _ w.heap.size _ _ _ _ _ (0, 0) rfl rfl rfl (row5_set _ _ _ _ _ HR5.out)) rfl ?_
            exact ⟨by rw [HV.out]; rfl, ((((HG5.out.setCell (Nat.le_refl _) _).setCell (Nat.le_refl _) _).setCell (Nat.le_refl _) _).setCell (Nat.le_refl _) _).setCell (Nat.le_refl _) _⟩
          · have hfn' : (wd != x) = false := hfn
            clear hfn
            go_wp2_with (first
              | (go_at_call 70; refine (HSG.out _).mono ?_; rintro e w3 ⟨rfl, rfl⟩)
              | (go_at_call 35; refine (HEN.out _).mono ?_; rintro e w5 ⟨rfl, g5⟩; obtain ⟨HX5, HR5, HG5⟩ := KE.out im _ _ g5 (by first | exact HGR.out.setCell HLE.out _ | exact (HGR.out.setCell HLE.out _) | exact (HGR.out.drewN _).setCell HLE.out _ | exact (HGR.out.setCell HLE.out _).drewN _) rfl; have r0 := cell_of_row _ _ 0 _ _ _ HR5.out; have r1 := cell_of_row _ _ 1 _ _ _ HR5.out; have r2 := cell_of_row _ _ 2 _ _ _ HR5.out; have r3 := cell_of_row _ _ 3 _ _ _ HR5.out; have r4 := cell_of_row _ _ 4 _ _ _ HR5.out; have f0 := frozen_of_row _ _ 0 _ _ HR5.out; have f1 := frozen_of_row _ _ 1 _ _ HR5.out; have f2 := frozen_of_row _ _ 2 _ _ HR5.out; have f3 := frozen_of_row _ _ 3 _ _ HR5.out; have f4 := frozen_of_row _ _ 4 _ _ HR5.out; have y0 := cell_of_row _ _ 0 _ _ _ HX5.out; have y1 := cell_of_row _ _ 1 _ _ _ HX5.out; have y2 := cell_of_row _ _ 2 _ _ _ HX5.out; have y3 := cell_of_row _ _ 3 _ _ _ HX5.out; have y4 := cell_of_row _ _ 4 _ _ _ HX5.out))
            refine bodyPost_ret (results_rv _ _ 4 5 (.bool true) _ w.heap.size _ _ _ _ _ (0, 0) rfl rfl rfl (row5_set _ _ _ _ _ HR5.out)) rfl ?_
            exact ⟨by rw [HV.out]; rfl, ((((HG5.out.setCell (Nat.le_refl _) _).setCell (Nat.le_refl _) _).setCell (Nat.le_refl _) _).setCell (Nat.le_refl _) _).setCell (Nat.le_refl _) _⟩
end Go.Proofs.YthiaaagoccpkcaaDoor

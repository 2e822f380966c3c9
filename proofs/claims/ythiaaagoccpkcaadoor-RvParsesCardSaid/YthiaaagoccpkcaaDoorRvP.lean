/- Decode of the document. -/
import Derived.Test.YthiaaagoccpkcaaDoorRvO
namespace Go.Proofs.YthiaaagoccpkcaaDoor
set_option linter.unusedSimpArgs false
set_option linter.unusedVariables false
open Go.RowKit

def rv0 : RvI := ⟨0, 0, 0, 0, 0⟩
/-- What Decode hands back. -/
def decV (r : Option RvI) : Value := .tuple #[rvVal (r.getD rv0), .bool r.isSome]
theorem row5_set {w : World} {g : Nat} {x0 x1 x2 x3 x4 : Value} {T : TypeId} (v0 v1 v2 v3 v4 : Value) (h : w.heap[g]? = some (.cells #[x0, x1, x2, x3, x4] T (0, 0))) :
    (((((w.setCell ⟨g, 0, none⟩ v0).setCell ⟨g, 1, none⟩ v1).setCell ⟨g, 2, none⟩ v2).setCell ⟨g, 3, none⟩ v3).setCell ⟨g, 4, none⟩ v4).heap[g]? = some (.cells #[v0, v1, v2, v3, v4] T (0, 0)) := by
  have h1 := heap_setCell_same _ _ 4 _ _ v4 (heap_setCell_same _ _ 3 _ _ v3 (heap_setCell_same _ _ 2 _ _ v2 (heap_setCell_same _ _ 1 _ _ v1 (heap_setCell_same _ _ 0 _ _ v0 h))))
  simpa using h1
theorem results_rv (fn : Func) (tmps : Array Value) (t u : Nat) (b : Value) (w : World) (B : Nat) (v0 v1 v2 v3 v4 : Value) (fr : Nat × Nat) (h : fn.results = #[.cell t 23, .tmp u]) (ht : tmps[t]?.getD undef = .pointer (some ⟨B, 0, none⟩)) (hu : tmps[u]?.getD undef = b) (hb : w.heap[B]? = some (.cells #[v0, v1, v2, v3, v4] 23 fr)) :
    (results fn tmps).run Tryd.prog w = .ok (.tuple #[.agg #[v0, v1, v2, v3, v4], b]) w := by
  have k0 := cell_of_row _ _ 0 _ _ _ hb
  have k1 := cell_of_row _ _ 1 _ _ _ hb
  have k2 := cell_of_row _ _ 2 _ _ _ hb
  have k3 := cell_of_row _ _ 3 _ _ _ hb
  have k4 := cell_of_row _ _ 4 _ _ _ hb
  simp [results, h, ht, hu, go_sem, k0, k1, k2, k3, k4]
theorem findFrom_step (x : Int) (k : Nat) (hk : k < 41) : Rv.findFrom x (41 - k) k = if Rv.fitsOp k x then some k else Rv.findFrom x (41 - (k + 1)) (k + 1) := by
  have e : 41 - k = (41 - (k + 1)) + 1 := by omega
  rw [e]; rfl

set_option maxRecDepth 100000 in
set_option maxHeartbeats 16000000 in
theorem rDecode_any (x : Int) (h0 : 0 ≤ x) (h1 : x < 4294967296) (w : World) : Calls Tryd.prog 18 #[.int .u32 x] w fun e w' => e = .returned (decV (Rv.decode x)) ∧ Gr w w' := by
  have HFM : Hid (∀ w1, Calls Tryd.prog 41 #[] w1 fun e w' => ∃ B, e = .returned (.slice (some ⟨B, 0, none⟩) 41 41) ∧ Hid (∀ w2, Gr w' w2 → ∀ k, k ≤ 40 → w2.cell? ⟨B, k * 4, none⟩ = some (.int .i64 (Rv.shapeN k))) ∧ Gr w1 w') := fun w1 =>
    (forms_any w1).mono fun _ _ ⟨q1, q2, q3⟩ => ⟨_, q1, fun w2 g k hk => (cell_of_row _ _ _ _ _ _ ((g.heap _ (Array.getElem?_eq_some_iff.1 q2.out).1).trans q2.out)).trans (form_cells k hk).1, q3⟩
  obtain ⟨W, hW⟩ : ∃ W, w.alloc (.cells #[.int .i64 0, .int .i64 0, .int .i64 0, .int .i64 0, .int .i64 0] 23) = W := ⟨_, rfl⟩
  have hB0 : Gr w W := by rw [← hW]; exact (Gr.refl w).alloc _
  have hrw : W.heap[w.heap.size]? = some (.cells #[.int .i64 0, .int .i64 0, .int .i64 0, .int .i64 0, .int .i64 0] 23 (0, 0)) := by rw [← hW]; exact heap_alloc_new w _
  have hWs : W.heap.size = w.heap.size + 1 := by rw [← hW]; simp
  have KP : Hid (∀ w', Gr W w' → w'.heap[w.heap.size]? = some (.cells #[.int .i64 0, .int .i64 0, .int .i64 0, .int .i64 0, .int .i64 0] 23 (0, 0))) := fun w' q => (q.heap _ (by omega)).trans hrw
  have HB0 := Lib.hid hB0
  have HDE : Hid (Rv.decode x = (Rv.findFrom x 41 0).map fun op => Rv.fieldsOf op x) := by show _ = _; rfl
  clear hrw hWs hB0
  go_enter Tryd.func18, Tryd.ntmps18
  go_wp2_with (go_at_call 41; refine (HFM.out _).mono ?_; rintro e w1 ⟨B, rfl, HT, g1⟩)
  have HG1 := Lib.hid g1
  clear g1 hW HFM
  go_loopw [5] (fun i wr => ∃ k : Nat, k ≤ 41 ∧ i = .int .i64 k ∧ Hid (Gr w1 wr) ∧ Hid (Rv.findFrom x 41 0 = Rv.findFrom x (41 - k) k)) (fun i _ => 41 - (intOf i).toNat)
  case atStart => exact ⟨0, Nat.zero_le _, rfl, Lib.hid (Gr.refl _), Lib.hid rfl⟩
  case round =>
    obtain ⟨k, hk, rfl, HG, HE⟩ := hrel
    by_cases hlt : k < 41
    · have hlt' : (k : Int) < 41 := by omega
      have hk0 : (0 : Int) ≤ (k : Int) := by omega
      have c0 := HT.out wr HG.out k (by omega)
      have c1 : ∀ o, (wr.alloc o).cell? ⟨B, k * 4, none⟩ = some (.int .i64 (Rv.shapeN k)) := fun o => HT.out _ (HG.out.alloc o) k (by omega)
      have HHA : Hid (∀ w1, Calls Tryd.prog 42 #[.int .i64 (Rv.shapeN k)] w1 fun e w' => e = .returned (.tuple #[.bool (Rv.hasD (Rv.shapeN k)), .bool (Rv.hasA (Rv.shapeN k)), .bool (Rv.hasB (Rv.shapeN k)), .bool (Rv.hasI (Rv.shapeN k))]) ∧ w1 = w') := fun w1 => rhas_any k w1
      have HIM : Hid (∀ w1, Calls Tryd.prog 47 #[.int .i64 (Rv.shapeN k), .int .u32 x] w1 fun e w' => e = .returned (.int .i64 (Rv.immN (Rv.shapeN k) x)) ∧ w1 = w') := fun w1 => rimm_any _ x (by rcases Rv.shape_cases k with e | e | e | e | e | e | e | e | e | e <;> rw [e] <;> decide) h0 h1 w1
      have B1 : Hid (∀ w, Calls Tryd.prog 48 #[.int .u32 x, .int .i64 7, .int .i64 11, .int .i64 0] w fun e w' => e = .returned (.int .u32 (Rv.part x 7 5 0)) ∧ w = w') := fun w => rbits_any x 7 11 0 h0 h1 (by omega) (by omega) (by omega) (by omega) w
      have B2 : Hid (∀ w, Calls Tryd.prog 48 #[.int .u32 x, .int .i64 15, .int .i64 19, .int .i64 0] w fun e w' => e = .returned (.int .u32 (Rv.part x 15 5 0)) ∧ w = w') := fun w => rbits_any x 15 19 0 h0 h1 (by omega) (by omega) (by omega) (by omega) w
      have B3 : Hid (∀ w, Calls Tryd.prog 48 #[.int .u32 x, .int .i64 20, .int .i64 24, .int .i64 0] w fun e w' => e = .returned (.int .u32 (Rv.part x 20 5 0)) ∧ w = w') := fun w => rbits_any x 20 24 0 h0 h1 (by omega) (by omega) (by omega) (by omega) w
      have hvalid := Rv.fields_valid k x (by omega) h0 h1
      have hword := Rv.fields_word k x (by omega) h0 h1
      have hfo : Rv.fieldsOf k x = ⟨k, if Rv.hasD (Rv.shapeN k) then Rv.part x 7 5 0 else 0, if Rv.hasA (Rv.shapeN k) then Rv.part x 15 5 0 else 0, if Rv.hasB (Rv.shapeN k) then Rv.part x 20 5 0 else 0, Rv.immN (Rv.shapeN k) x⟩ := by
        rw [part_num x 7 5 0 128 32 1 (by decide) (by decide) (by decide), part_num x 15 5 0 32768 32 1 (by decide) (by decide) (by decide), part_num x 20 5 0 1048576 32 1 (by decide) (by decide) (by decide)]
        unfold Rv.fieldsOf Rv.dOf Rv.aOf Rv.bOf
        simp only [Int.mul_one]
      have hst := findFrom_step x k hlt
      have HFO := Lib.hid hfo
      rw [hfo] at hvalid hword
      clear hfo
      obtain ⟨b10, b11, -⟩ := part_lt x 7 5 0
      obtain ⟨q1, hq1⟩ : ∃ q, Rv.part x 7 5 0 = q := ⟨_, rfl⟩
      rw [hq1] at B1 b10 b11
      simp only [Int.reducePow, Nat.reduceAdd] at b11
      obtain ⟨b20, b21, -⟩ := part_lt x 15 5 0
      obtain ⟨q2, hq2⟩ : ∃ q, Rv.part x 15 5 0 = q := ⟨_, rfl⟩
      rw [hq2] at B2 b20 b21
      simp only [Int.reducePow, Nat.reduceAdd] at b21
      obtain ⟨b30, b31, -⟩ := part_lt x 20 5 0
      obtain ⟨q3, hq3⟩ : ∃ q, Rv.part x 20 5 0 = q := ⟨_, rfl⟩
      rw [hq3] at B3 b30 b31
      simp only [Int.reducePow, Nat.reduceAdd] at b31
      rw [hq1, hq2, hq3] at HFO hvalid hword
      clear hq1 hq2 hq3
      obtain ⟨im, him⟩ : ∃ q, Rv.immN (Rv.shapeN k) x = q := ⟨_, rfl⟩
      rw [him] at HFO hvalid hword HIM
      obtain ⟨d, hd⟩ : ∃ q, Rv.hasD (Rv.shapeN k) = q := ⟨_, rfl⟩
      obtain ⟨a, ha⟩ : ∃ q, Rv.hasA (Rv.shapeN k) = q := ⟨_, rfl⟩
      obtain ⟨b, hb⟩ : ∃ q, Rv.hasB (Rv.shapeN k) = q := ⟨_, rfl⟩
      rw [hd, ha, hb] at HFO hvalid hword HHA
      obtain ⟨hi, hhi⟩ : ∃ q, Rv.hasI (Rv.shapeN k) = q := ⟨_, rfl⟩
      rw [hhi] at HHA
      obtain ⟨s, hs⟩ : ∃ q, Rv.shapeN k = q := ⟨_, rfl⟩
      rw [hs] at HHA HIM c0 c1
      clear him hd ha hb hhi hs
      obtain ⟨fit, hfit⟩ : ∃ q, Rv.fitsOp k x = q := ⟨_, rfl⟩
      rw [hfit] at hword hst
      have HFIT := Lib.hid hfit
      have HST := Lib.hid hst
      clear hst hfit
      have hnx : (k : Int) + 1 = ((k + 1 : Nat) : Int) := by omega
      have HNX := Lib.hid hnx
      clear hnx
      cases d <;> cases a <;> cases b
      · simp only [if_true, if_false, Bool.false_eq_true] at HFO hvalid hword
        have HVD : Hid (∀ w1, Calls Tryd.prog 15 #[.agg #[.int .i64 k, .int .i64 0, .int .i64 0, .int .i64 0, .int .i64 im]] w1 fun e w' => e = .returned (.int .i64 0) ∧ Gr w1 w') := fun w1 => by
          have h := rValidate_any ⟨(k : Int), 0, 0, 0, im⟩ w1
          have e : Rv.validE ⟨(k : Int), 0, 0, 0, im⟩ = 0 := by unfold Rv.validE; rw [hvalid]; rfl
          rw [e] at h; exact h
        have HEN : Hid (∀ w1, Calls Tryd.prog 36 #[.agg #[.int .i64 k, .int .i64 0, .int .i64 0, .int .i64 0, .int .i64 im]] w1 fun e w' => e = .returned (.int .u32 (Rv.word ⟨(k : Int), 0, 0, 0, im⟩)) ∧ Gr w1 w') := fun w1 => rencode_valid ⟨(k : Int), 0, 0, 0, im⟩ hvalid w1
        obtain ⟨wd, hwd⟩ : ∃ q, Rv.word ⟨(k : Int), 0, 0, 0, im⟩ = q := ⟨_, rfl⟩
        rw [hwd] at HEN hword
        clear hwd hvalid
        cases fit
        · have hwx : (wd == x) = false := by rw [beq_eq_false_iff_ne]; intro e; exact absurd (hword.1 e) (by decide)
          clear hword
          go_wp2_with (first
            | (go_at_call 47; refine (HIM.out _).mono ?_; rintro e w2 ⟨rfl, rfl⟩)
            | (go_at_call 42; refine (HHA.out _).mono ?_; rintro e w2 ⟨rfl, rfl⟩)
            | (go_at_call 15; refine (HVD.out _).mono ?_; rintro e w3 ⟨rfl, g3⟩; have hbx := (g3.heap _ (by simp)).trans (heap_alloc_new wr (.cells #[.int .i64 k, .int .i64 0, .int .i64 0, .int .i64 0, .int .i64 im] 23)); have y0 := cell_of_row _ _ 0 _ _ _ hbx; have y1 := cell_of_row _ _ 1 _ _ _ hbx; have y2 := cell_of_row _ _ 2 _ _ _ hbx; have y3 := cell_of_row _ _ 3 _ _ _ hbx; have y4 := cell_of_row _ _ 4 _ _ _ hbx; have HBX := Lib.hid hbx; clear hbx)
            | (go_at_call 36; refine (HEN.out _).mono ?_; rintro e w4 ⟨rfl, g4⟩; have G4 : Hid (Gr w1 w4) := (HG.out.alloc _).trans (g3.trans g4)))
          go_roundw
          case rel => exact ⟨k + 1, by omega, by rw [← HNX.out], G4, Lib.hid (by rw [HE.out, HST.out]; rfl)⟩
          case measure => simp [intOf]; omega
        · have hwx : (wd == x) = true := by rw [beq_iff_eq]; exact hword.2 rfl
          clear hword
          go_wp2_with (first
            | (go_at_call 47; refine (HIM.out _).mono ?_; rintro e w2 ⟨rfl, rfl⟩)
            | (go_at_call 42; refine (HHA.out _).mono ?_; rintro e w2 ⟨rfl, rfl⟩)
            | (go_at_call 15; refine (HVD.out _).mono ?_; rintro e w3 ⟨rfl, g3⟩; have hbx := (g3.heap _ (by simp)).trans (heap_alloc_new wr (.cells #[.int .i64 k, .int .i64 0, .int .i64 0, .int .i64 0, .int .i64 im] 23)); have y0 := cell_of_row _ _ 0 _ _ _ hbx; have y1 := cell_of_row _ _ 1 _ _ _ hbx; have y2 := cell_of_row _ _ 2 _ _ _ hbx; have y3 := cell_of_row _ _ 3 _ _ _ hbx; have y4 := cell_of_row _ _ 4 _ _ _ hbx; have HBX := Lib.hid hbx; clear hbx)
            | (go_at_call 36; refine (HEN.out _).mono ?_; rintro e w4 ⟨rfl, g4⟩; have G4 : Hid (Gr w1 w4) := (HG.out.alloc _).trans (g3.trans g4); have hby := (g4.heap _ (Array.getElem?_eq_some_iff.1 HBX.out).1).trans HBX.out; have z0 := cell_of_row _ _ 0 _ _ _ hby; have z1 := cell_of_row _ _ 1 _ _ _ hby; have z2 := cell_of_row _ _ 2 _ _ _ hby; have z3 := cell_of_row _ _ 3 _ _ _ hby; have z4 := cell_of_row _ _ 4 _ _ _ hby; have hr := KP.out w4 (HG1.out.trans G4.out); have r0 := cell_of_row _ _ 0 _ _ _ hr; have r1 := cell_of_row _ _ 1 _ _ _ hr; have r2 := cell_of_row _ _ 2 _ _ _ hr; have r3 := cell_of_row _ _ 3 _ _ _ hr; have r4 := cell_of_row _ _ 4 _ _ _ hr; have f0 := frozen_of_row _ _ 0 _ _ hr; have f1 := frozen_of_row _ _ 1 _ _ hr; have f2 := frozen_of_row _ _ 2 _ _ hr; have f3 := frozen_of_row _ _ 3 _ _ hr; have f4 := frozen_of_row _ _ 4 _ _ hr; have HR := Lib.hid hr; clear hby hr))
          have HV : Hid (decV (Rv.decode x) = .tuple #[.agg #[.int .i64 k, .int .i64 0, .int .i64 0, .int .i64 0, .int .i64 im], .bool true]) := by
            show _ = _
            rw [HDE.out, HE.out, HST.out]
            simp [decV, HFO.out, rvVal]
          refine bodyPost_ret (results_rv _ _ 2 3 (.bool true) _ w.heap.size _ _ _ _ _ (0, 0) rfl rfl rfl (row5_set _ _ _ _ _ HR.out)) rfl ?_
          exact ⟨by rw [HV.out], ((((((HB0.out.trans HG1.out).trans G4.out).setCell (Nat.le_refl _) _).setCell (Nat.le_refl _) _).setCell (Nat.le_refl _) _).setCell (Nat.le_refl _) _).setCell (Nat.le_refl _) _⟩
      · simp only [if_true, if_false, Bool.false_eq_true] at HFO hvalid hword
        have HVD : Hid (∀ w1, Calls Tryd.prog 15 #[.agg #[.int .i64 k, .int .i64 0, .int .i64 0, .int .i64 q3, .int .i64 im]] w1 fun e w' => e = .returned (.int .i64 0) ∧ Gr w1 w') := fun w1 => by
          have h := rValidate_any ⟨(k : Int), 0, 0, q3, im⟩ w1
          have e : Rv.validE ⟨(k : Int), 0, 0, q3, im⟩ = 0 := by unfold Rv.validE; rw [hvalid]; rfl
          rw [e] at h; exact h
        have HEN : Hid (∀ w1, Calls Tryd.prog 36 #[.agg #[.int .i64 k, .int .i64 0, .int .i64 0, .int .i64 q3, .int .i64 im]] w1 fun e w' => e = .returned (.int .u32 (Rv.word ⟨(k : Int), 0, 0, q3, im⟩)) ∧ Gr w1 w') := fun w1 => rencode_valid ⟨(k : Int), 0, 0, q3, im⟩ hvalid w1
        obtain ⟨wd, hwd⟩ : ∃ q, Rv.word ⟨(k : Int), 0, 0, q3, im⟩ = q := ⟨_, rfl⟩
        rw [hwd] at HEN hword
        clear hwd hvalid
        cases fit
        · have hwx : (wd == x) = false := by rw [beq_eq_false_iff_ne]; intro e; exact absurd (hword.1 e) (by decide)
          clear hword
          go_wp2_with (first
            | (go_at_call 47; refine (HIM.out _).mono ?_; rintro e w2 ⟨rfl, rfl⟩)
            | (go_at_call 42; refine (HHA.out _).mono ?_; rintro e w2 ⟨rfl, rfl⟩)
            | (go_at_call 48; with_reducible refine (B3.out _).mono ?_; rintro e w2 ⟨rfl, rfl⟩)
            | (go_at_call 15; refine (HVD.out _).mono ?_; rintro e w3 ⟨rfl, g3⟩; have hbx := (g3.heap _ (by simp)).trans (heap_alloc_new wr (.cells #[.int .i64 k, .int .i64 0, .int .i64 0, .int .i64 q3, .int .i64 im] 23)); have y0 := cell_of_row _ _ 0 _ _ _ hbx; have y1 := cell_of_row _ _ 1 _ _ _ hbx; have y2 := cell_of_row _ _ 2 _ _ _ hbx; have y3 := cell_of_row _ _ 3 _ _ _ hbx; have y4 := cell_of_row _ _ 4 _ _ _ hbx; have HBX := Lib.hid hbx; clear hbx)
            | (go_at_call 36; refine (HEN.out _).mono ?_; rintro e w4 ⟨rfl, g4⟩; have G4 : Hid (Gr w1 w4) := (HG.out.alloc _).trans (g3.trans g4)))
          go_roundw
          case rel => exact ⟨k + 1, by omega, by rw [← HNX.out], G4, Lib.hid (by rw [HE.out, HST.out]; rfl)⟩
          case measure => simp [intOf]; omega
        · have hwx : (wd == x) = true := by rw [beq_iff_eq]; exact hword.2 rfl
          clear hword
          go_wp2_with (first
            | (go_at_call 47; refine (HIM.out _).mono ?_; rintro e w2 ⟨rfl, rfl⟩)
            | (go_at_call 42; refine (HHA.out _).mono ?_; rintro e w2 ⟨rfl, rfl⟩)
            | (go_at_call 48; with_reducible refine (B3.out _).mono ?_; rintro e w2 ⟨rfl, rfl⟩)
            | (go_at_call 15; refine (HVD.out _).mono ?_; rintro e w3 ⟨rfl, g3⟩; have hbx := (g3.heap _ (by simp)).trans (heap_alloc_new wr (.cells #[.int .i64 k, .int .i64 0, .int .i64 0, .int .i64 q3, .int .i64 im] 23)); have y0 := cell_of_row _ _ 0 _ _ _ hbx; have y1 := cell_of_row _ _ 1 _ _ _ hbx; have y2 := cell_of_row _ _ 2 _ _ _ hbx; have y3 := cell_of_row _ _ 3 _ _ _ hbx; have y4 := cell_of_row _ _ 4 _ _ _ hbx; have HBX := Lib.hid hbx; clear hbx)
            | (go_at_call 36; refine (HEN.out _).mono ?_; rintro e w4 ⟨rfl, g4⟩; have G4 : Hid (Gr w1 w4) := (HG.out.alloc _).trans (g3.trans g4); have hby := (g4.heap _ (Array.getElem?_eq_some_iff.1 HBX.out).1).trans HBX.out; have z0 := cell_of_row _ _ 0 _ _ _ hby; have z1 := cell_of_row _ _ 1 _ _ _ hby; have z2 := cell_of_row _ _ 2 _ _ _ hby; have z3 := cell_of_row _ _ 3 _ _ _ hby; have z4 := cell_of_row _ _ 4 _ _ _ hby; have hr := KP.out w4 (HG1.out.trans G4.out); have r0 := cell_of_row _ _ 0 _ _ _ hr; have r1 := cell_of_row _ _ 1 _ _ _ hr; have r2 := cell_of_row _ _ 2 _ _ _ hr; have r3 := cell_of_row _ _ 3 _ _ _ hr; have r4 := cell_of_row _ _ 4 _ _ _ hr; have f0 := frozen_of_row _ _ 0 _ _ hr; have f1 := frozen_of_row _ _ 1 _ _ hr; have f2 := frozen_of_row _ _ 2 _ _ hr; have f3 := frozen_of_row _ _ 3 _ _ hr; have f4 := frozen_of_row _ _ 4 _ _ hr; have HR := Lib.hid hr; clear hby hr))
          have HV : Hid (decV (Rv.decode x) = .tuple #[.agg #[.int .i64 k, .int .i64 0, .int .i64 0, .int .i64 q3, .int .i64 im], .bool true]) := by
            show _ = _
            rw [HDE.out, HE.out, HST.out]
            simp [decV, HFO.out, rvVal]
          refine bodyPost_ret (results_rv _ _ 2 3 (.bool true) _ w.heap.size _ _ _ _ _ (0, 0) rfl rfl rfl (row5_set _ _ _ _ _ HR.out)) rfl ?_
          exact ⟨by rw [HV.out], ((((((HB0.out.trans HG1.out).trans G4.out).setCell (Nat.le_refl _) _).setCell (Nat.le_refl _) _).setCell (Nat.le_refl _) _).setCell (Nat.le_refl _) _).setCell (Nat.le_refl _) _⟩
      · simp only [if_true, if_false, Bool.false_eq_true] at HFO hvalid hword
        have HVD : Hid (∀ w1, Calls Tryd.prog 15 #[.agg #[.int .i64 k, .int .i64 0, .int .i64 q2, .int .i64 0, .int .i64 im]] w1 fun e w' => e = .returned (.int .i64 0) ∧ Gr w1 w') := fun w1 => by
          have h := rValidate_any ⟨(k : Int), 0, q2, 0, im⟩ w1
          have e : Rv.validE ⟨(k : Int), 0, q2, 0, im⟩ = 0 := by unfold Rv.validE; rw [hvalid]; rfl
          rw [e] at h; exact h
        have HEN : Hid (∀ w1, Calls Tryd.prog 36 #[.agg #[.int .i64 k, .int .i64 0, .int .i64 q2, .int .i64 0, .int .i64 im]] w1 fun e w' => e = .returned (.int .u32 (Rv.word ⟨(k : Int), 0, q2, 0, im⟩)) ∧ Gr w1 w') := fun w1 => rencode_valid ⟨(k : Int), 0, q2, 0, im⟩ hvalid w1
        obtain ⟨wd, hwd⟩ : ∃ q, Rv.word ⟨(k : Int), 0, q2, 0, im⟩ = q := ⟨_, rfl⟩
        rw [hwd] at HEN hword
        clear hwd hvalid
        cases fit
        · have hwx : (wd == x) = false := by rw [beq_eq_false_iff_ne]; intro e; exact absurd (hword.1 e) (by decide)
          clear hword
          go_wp2_with (first
            | (go_at_call 47; refine (HIM.out _).mono ?_; rintro e w2 ⟨rfl, rfl⟩)
            | (go_at_call 42; refine (HHA.out _).mono ?_; rintro e w2 ⟨rfl, rfl⟩)
            | (go_at_call 48; with_reducible refine (B2.out _).mono ?_; rintro e w2 ⟨rfl, rfl⟩)
            | (go_at_call 15; refine (HVD.out _).mono ?_; rintro e w3 ⟨rfl, g3⟩; have hbx := (g3.heap _ (by simp)).trans (heap_alloc_new wr (.cells #[.int .i64 k, .int .i64 0, .int .i64 q2, .int .i64 0, .int .i64 im] 23)); have y0 := cell_of_row _ _ 0 _ _ _ hbx; have y1 := cell_of_row _ _ 1 _ _ _ hbx; have y2 := cell_of_row _ _ 2 _ _ _ hbx; have y3 := cell_of_row _ _ 3 _ _ _ hbx; have y4 := cell_of_row _ _ 4 _ _ _ hbx; have HBX := Lib.hid hbx; clear hbx)
            | (go_at_call 36; refine (HEN.out _).mono ?_; rintro e w4 ⟨rfl, g4⟩; have G4 : Hid (Gr w1 w4) := (HG.out.alloc _).trans (g3.trans g4)))
          go_roundw
          case rel => exact ⟨k + 1, by omega, by rw [← HNX.out], G4, Lib.hid (by rw [HE.out, HST.out]; rfl)⟩
          case measure => simp [intOf]; omega
        · have hwx : (wd == x) = true := by rw [beq_iff_eq]; exact hword.2 rfl
          clear hword
          go_wp2_with (first
            | (go_at_call 47; refine (HIM.out _).mono ?_; rintro e w2 ⟨rfl, rfl⟩)
            | (go_at_call 42; refine (HHA.out _).mono ?_; rintro e w2 ⟨rfl, rfl⟩)
            | (go_at_call 48; with_reducible refine (B2.out _).mono ?_; rintro e w2 ⟨rfl, rfl⟩)
            | (go_at_call 15; refine (HVD.out _).mono ?_; rintro e w3 ⟨rfl, g3⟩; have hbx := (g3.heap _ (by simp)).trans (heap_alloc_new wr (.cells #[.int .i64 k, .int .i64 0, .int .i64 q2, .int .i64 0, .int .i64 im] 23)); have y0 := cell_of_row _ _ 0 _ _ _ hbx; have y1 := cell_of_row _ _ 1 _ _ _ hbx; have y2 := cell_of_row _ _ 2 _ _ _ hbx; have y3 := cell_of_row _ _ 3 _ _ _ hbx; have y4 := cell_of_row _ _ 4 _ _ _ hbx; have HBX := Lib.hid hbx; clear hbx)
            | (go_at_call 36; refine (HEN.out _).mono ?_; rintro e w4 ⟨rfl, g4⟩; have G4 : Hid (Gr w1 w4) := (HG.out.alloc _).trans (g3.trans g4); have hby := (g4.heap _ (Array.getElem?_eq_some_iff.1 HBX.out).1).trans HBX.out; have z0 := cell_of_row _ _ 0 _ _ _ hby; have z1 := cell_of_row _ _ 1 _ _ _ hby; have z2 := cell_of_row _ _ 2 _ _ _ hby; have z3 := cell_of_row _ _ 3 _ _ _ hby; have z4 := cell_of_row _ _ 4 _ _ _ hby; have hr := KP.out w4 (HG1.out.trans G4.out); have r0 := cell_of_row _ _ 0 _ _ _ hr; have r1 := cell_of_row _ _ 1 _ _ _ hr; have r2 := cell_of_row _ _ 2 _ _ _ hr; have r3 := cell_of_row _ _ 3 _ _ _ hr; have r4 := cell_of_row _ _ 4 _ _ _ hr; have f0 := frozen_of_row _ _ 0 _ _ hr; have f1 := frozen_of_row _ _ 1 _ _ hr; have f2 := frozen_of_row _ _ 2 _ _ hr; have f3 := frozen_of_row _ _ 3 _ _ hr; have f4 := frozen_of_row _ _ 4 _ _ hr; have HR := Lib.hid hr; clear hby hr))
          have HV : Hid (decV (Rv.decode x) = .tuple #[.agg #[.int .i64 k, .int .i64 0, .int .i64 q2, .int .i64 0, .int .i64 im], .bool true]) := by
            show _ = _
            rw [HDE.out, HE.out, HST.out]
            simp [decV, HFO.out, rvVal]
          refine bodyPost_ret (results_rv _ _ 2 3 (.bool true) _ w.heap.size _ _ _ _ _ (0, 0) rfl rfl rfl (row5_set _ _ _ _ _ HR.out)) rfl ?_
          exact ⟨by rw [HV.out], ((((((HB0.out.trans HG1.out).trans G4.out).setCell (Nat.le_refl _) _).setCell (Nat.le_refl _) _).setCell (Nat.le_refl _) _).setCell (Nat.le_refl _) _).setCell (Nat.le_refl _) _⟩
      · simp only [if_true, if_false, Bool.false_eq_true] at HFO hvalid hword
        have HVD : Hid (∀ w1, Calls Tryd.prog 15 #[.agg #[.int .i64 k, .int .i64 0, .int .i64 q2, .int .i64 q3, .int .i64 im]] w1 fun e w' => e = .returned (.int .i64 0) ∧ Gr w1 w') := fun w1 => by
          have h := rValidate_any ⟨(k : Int), 0, q2, q3, im⟩ w1
          have e : Rv.validE ⟨(k : Int), 0, q2, q3, im⟩ = 0 := by unfold Rv.validE; rw [hvalid]; rfl
          rw [e] at h; exact h
        have HEN : Hid (∀ w1, Calls Tryd.prog 36 #[.agg #[.int .i64 k, .int .i64 0, .int .i64 q2, .int .i64 q3, .int .i64 im]] w1 fun e w' => e = .returned (.int .u32 (Rv.word ⟨(k : Int), 0, q2, q3, im⟩)) ∧ Gr w1 w') := fun w1 => rencode_valid ⟨(k : Int), 0, q2, q3, im⟩ hvalid w1
        obtain ⟨wd, hwd⟩ : ∃ q, Rv.word ⟨(k : Int), 0, q2, q3, im⟩ = q := ⟨_, rfl⟩
        rw [hwd] at HEN hword
        clear hwd hvalid
        cases fit
        · have hwx : (wd == x) = false := by rw [beq_eq_false_iff_ne]; intro e; exact absurd (hword.1 e) (by decide)
          clear hword
          go_wp2_with (first
            | (go_at_call 47; refine (HIM.out _).mono ?_; rintro e w2 ⟨rfl, rfl⟩)
            | (go_at_call 42; refine (HHA.out _).mono ?_; rintro e w2 ⟨rfl, rfl⟩)
            | (go_at_call 48; with_reducible refine (B2.out _).mono ?_; rintro e w2 ⟨rfl, rfl⟩)
            | (go_at_call 48; with_reducible refine (B3.out _).mono ?_; rintro e w2 ⟨rfl, rfl⟩)
            | (go_at_call 15; refine (HVD.out _).mono ?_; rintro e w3 ⟨rfl, g3⟩; have hbx := (g3.heap _ (by simp)).trans (heap_alloc_new wr (.cells #[.int .i64 k, .int .i64 0, .int .i64 q2, .int .i64 q3, .int .i64 im] 23)); have y0 := cell_of_row _ _ 0 _ _ _ hbx; have y1 := cell_of_row _ _ 1 _ _ _ hbx; have y2 := cell_of_row _ _ 2 _ _ _ hbx; have y3 := cell_of_row _ _ 3 _ _ _ hbx; have y4 := cell_of_row _ _ 4 _ _ _ hbx; have HBX := Lib.hid hbx; clear hbx)
            | (go_at_call 36; refine (HEN.out _).mono ?_; rintro e w4 ⟨rfl, g4⟩; have G4 : Hid (Gr w1 w4) := (HG.out.alloc _).trans (g3.trans g4)))
          go_roundw
          case rel => exact ⟨k + 1, by omega, by rw [← HNX.out], G4, Lib.hid (by rw [HE.out, HST.out]; rfl)⟩
          case measure => simp [intOf]; omega
        · have hwx : (wd == x) = true := by rw [beq_iff_eq]; exact hword.2 rfl
          clear hword
          go_wp2_with (first
            | (go_at_call 47; refine (HIM.out _).mono ?_; rintro e w2 ⟨rfl, rfl⟩)
            | (go_at_call 42; refine (HHA.out _).mono ?_; rintro e w2 ⟨rfl, rfl⟩)
            | (go_at_call 48; with_reducible refine (B2.out _).mono ?_; rintro e w2 ⟨rfl, rfl⟩)
            | (go_at_call 48; with_reducible refine (B3.out _).mono ?_; rintro e w2 ⟨rfl, rfl⟩)
            | (go_at_call 15; refine (HVD.out _).mono ?_; rintro e w3 ⟨rfl, g3⟩; have hbx := (g3.heap _ (by simp)).trans (heap_alloc_new wr (.cells #[.int .i64 k, .int .i64 0, .int .i64 q2, .int .i64 q3, .int .i64 im] 23)); have y0 := cell_of_row _ _ 0 _ _ _ hbx; have y1 := cell_of_row _ _ 1 _ _ _ hbx; have y2 := cell_of_row _ _ 2 _ _ _ hbx; have y3 := cell_of_row _ _ 3 _ _ _ hbx; have y4 := cell_of_row _ _ 4 _ _ _ hbx; have HBX := Lib.hid hbx; clear hbx)
            | (go_at_call 36; refine (HEN.out _).mono ?_; rintro e w4 ⟨rfl, g4⟩; have G4 : Hid (Gr w1 w4) := (HG.out.alloc _).trans (g3.trans g4); have hby := (g4.heap _ (Array.getElem?_eq_some_iff.1 HBX.out).1).trans HBX.out; have z0 := cell_of_row _ _ 0 _ _ _ hby; have z1 := cell_of_row _ _ 1 _ _ _ hby; have z2 := cell_of_row _ _ 2 _ _ _ hby; have z3 := cell_of_row _ _ 3 _ _ _ hby; have z4 := cell_of_row _ _ 4 _ _ _ hby; have hr := KP.out w4 (HG1.out.trans G4.out); have r0 := cell_of_row _ _ 0 _ _ _ hr; have r1 := cell_of_row _ _ 1 _ _ _ hr; have r2 := cell_of_row _ _ 2 _ _ _ hr; have r3 := cell_of_row _ _ 3 _ _ _ hr; have r4 := cell_of_row _ _ 4 _ _ _ hr; have f0 := frozen_of_row _ _ 0 _ _ hr; have f1 := frozen_of_row _ _ 1 _ _ hr; have f2 := frozen_of_row _ _ 2 _ _ hr; have f3 := frozen_of_row _ _ 3 _ _ hr; have f4 := frozen_of_row _ _ 4 _ _ hr; have HR := Lib.hid hr; clear hby hr))
          have HV : Hid (decV (Rv.decode x) = .tuple #[.agg #[.int .i64 k, .int .i64 0, .int .i64 q2, .int .i64 q3, .int .i64 im], .bool true]) := by
            show _ = _
            rw [HDE.out, HE.out, HST.out]
            simp [decV, HFO.out, rvVal]
          refine bodyPost_ret (results_rv _ _ 2 3 (.bool true) _ w.heap.size _ _ _ _ _ (0, 0) rfl rfl rfl (row5_set _ _ _ _ _ HR.out)) rfl ?_
          exact ⟨by rw [HV.out], ((((((HB0.out.trans HG1.out).trans G4.out).setCell (Nat.le_refl _) _).setCell (Nat.le_refl _) _).setCell (Nat.le_refl _) _).setCell (Nat.le_refl _) _).setCell (Nat.le_refl _) _⟩
      · simp only [if_true, if_false, Bool.false_eq_true] at HFO hvalid hword
        have HVD : Hid (∀ w1, Calls Tryd.prog 15 #[.agg #[.int .i64 k, .int .i64 q1, .int .i64 0, .int .i64 0, .int .i64 im]] w1 fun e w' => e = .returned (.int .i64 0) ∧ Gr w1 w') := fun w1 => by
          have h := rValidate_any ⟨(k : Int), q1, 0, 0, im⟩ w1
          have e : Rv.validE ⟨(k : Int), q1, 0, 0, im⟩ = 0 := by unfold Rv.validE; rw [hvalid]; rfl
          rw [e] at h; exact h
        have HEN : Hid (∀ w1, Calls Tryd.prog 36 #[.agg #[.int .i64 k, .int .i64 q1, .int .i64 0, .int .i64 0, .int .i64 im]] w1 fun e w' => e = .returned (.int .u32 (Rv.word ⟨(k : Int), q1, 0, 0, im⟩)) ∧ Gr w1 w') := fun w1 => rencode_valid ⟨(k : Int), q1, 0, 0, im⟩ hvalid w1
        obtain ⟨wd, hwd⟩ : ∃ q, Rv.word ⟨(k : Int), q1, 0, 0, im⟩ = q := ⟨_, rfl⟩
        rw [hwd] at HEN hword
        clear hwd hvalid
        cases fit
        · have hwx : (wd == x) = false := by rw [beq_eq_false_iff_ne]; intro e; exact absurd (hword.1 e) (by decide)
          clear hword
          go_wp2_with (first
            | (go_at_call 47; refine (HIM.out _).mono ?_; rintro e w2 ⟨rfl, rfl⟩)
            | (go_at_call 42; refine (HHA.out _).mono ?_; rintro e w2 ⟨rfl, rfl⟩)
            | (go_at_call 48; with_reducible refine (B1.out _).mono ?_; rintro e w2 ⟨rfl, rfl⟩)
            | (go_at_call 15; refine (HVD.out _).mono ?_; rintro e w3 ⟨rfl, g3⟩; have hbx := (g3.heap _ (by simp)).trans (heap_alloc_new wr (.cells #[.int .i64 k, .int .i64 q1, .int .i64 0, .int .i64 0, .int .i64 im] 23)); have y0 := cell_of_row _ _ 0 _ _ _ hbx; have y1 := cell_of_row _ _ 1 _ _ _ hbx; have y2 := cell_of_row _ _ 2 _ _ _ hbx; have y3 := cell_of_row _ _ 3 _ _ _ hbx; have y4 := cell_of_row _ _ 4 _ _ _ hbx; have HBX := Lib.hid hbx; clear hbx)
            | (go_at_call 36; refine (HEN.out _).mono ?_; rintro e w4 ⟨rfl, g4⟩; have G4 : Hid (Gr w1 w4) := (HG.out.alloc _).trans (g3.trans g4)))
          go_roundw
          case rel => exact ⟨k + 1, by omega, by rw [← HNX.out], G4, Lib.hid (by rw [HE.out, HST.out]; rfl)⟩
          case measure => simp [intOf]; omega
        · have hwx : (wd == x) = true := by rw [beq_iff_eq]; exact hword.2 rfl
          clear hword
          go_wp2_with (first
            | (go_at_call 47; refine (HIM.out _).mono ?_; rintro e w2 ⟨rfl, rfl⟩)
            | (go_at_call 42; refine (HHA.out _).mono ?_; rintro e w2 ⟨rfl, rfl⟩)
            | (go_at_call 48; with_reducible refine (B1.out _).mono ?_; rintro e w2 ⟨rfl, rfl⟩)
            | (go_at_call 15; refine (HVD.out _).mono ?_; rintro e w3 ⟨rfl, g3⟩; have hbx := (g3.heap _ (by simp)).trans (heap_alloc_new wr (.cells #[.int .i64 k, .int .i64 q1, .int .i64 0, .int .i64 0, .int .i64 im] 23)); have y0 := cell_of_row _ _ 0 _ _ _ hbx; have y1 := cell_of_row _ _ 1 _ _ _ hbx; have y2 := cell_of_row _ _ 2 _ _ _ hbx; have y3 := cell_of_row _ _ 3 _ _ _ hbx; have y4 := cell_of_row _ _ 4 _ _ _ hbx; have HBX := Lib.hid hbx; clear hbx)
            | (go_at_call 36; refine (HEN.out _).mono ?_; rintro e w4 ⟨rfl, g4⟩; have G4 : Hid (Gr w1 w4) := (HG.out.alloc _).trans (g3.trans g4); have hby := (g4.heap _ (Array.getElem?_eq_some_iff.1 HBX.out).1).trans HBX.out; have z0 := cell_of_row _ _ 0 _ _ _ hby; have z1 := cell_of_row _ _ 1 _ _ _ hby; have z2 := cell_of_row _ _ 2 _ _ _ hby; have z3 := cell_of_row _ _ 3 _ _ _ hby; have z4 := cell_of_row _ _ 4 _ _ _ hby; have hr := KP.out w4 (HG1.out.trans G4.out); have r0 := cell_of_row _ _ 0 _ _ _ hr; have r1 := cell_of_row _ _ 1 _ _ _ hr; have r2 := cell_of_row _ _ 2 _ _ _ hr; have r3 := cell_of_row _ _ 3 _ _ _ hr; have r4 := cell_of_row _ _ 4 _ _ _ hr; have f0 := frozen_of_row _ _ 0 _ _ hr; have f1 := frozen_of_row _ _ 1 _ _ hr; have f2 := frozen_of_row _ _ 2 _ _ hr; have f3 := frozen_of_row _ _ 3 _ _ hr; have f4 := frozen_of_row _ _ 4 _ _ hr; have HR := Lib.hid hr; clear hby hr))
          have HV : Hid (decV (Rv.decode x) = .tuple #[.agg #[.int .i64 k, .int .i64 q1, .int .i64 0, .int .i64 0, .int .i64 im], .bool true]) := by
            show _ = _
            rw [HDE.out, HE.out, HST.out]
            simp [decV, HFO.out, rvVal]
          refine bodyPost_ret (results_rv _ _ 2 3 (.bool true) _ w.heap.size _ _ _ _ _ (0, 0) rfl rfl rfl (row5_set _ _ _ _ _ HR.out)) rfl ?_
          exact ⟨by rw [HV.out], ((((((HB0.out.trans HG1.out).trans G4.out).setCell (Nat.le_refl _) _).setCell (Nat.le_refl _) _).setCell (Nat.le_refl _) _).setCell (Nat.le_refl _) _).setCell (Nat.le_refl _) _⟩
      · simp only [if_true, if_false, Bool.false_eq_true] at HFO hvalid hword
        have HVD : Hid (∀ w1, Calls Tryd.prog 15 #[.agg #[.int .i64 k, .int .i64 q1, .int .i64 0, .int .i64 q3, .int .i64 im]] w1 fun e w' => e = .returned (.int .i64 0) ∧ Gr w1 w') := fun w1 => by
          have h := rValidate_any ⟨(k : Int), q1, 0, q3, im⟩ w1
          have e : Rv.validE ⟨(k : Int), q1, 0, q3, im⟩ = 0 := by unfold Rv.validE; rw [hvalid]; rfl
          rw [e] at h; exact h
        have HEN : Hid (∀ w1, Calls Tryd.prog 36 #[.agg #[.int .i64 k, .int .i64 q1, .int .i64 0, .int .i64 q3, .int .i64 im]] w1 fun e w' => e = .returned (.int .u32 (Rv.word ⟨(k : Int), q1, 0, q3, im⟩)) ∧ Gr w1 w') := fun w1 => rencode_valid ⟨(k : Int), q1, 0, q3, im⟩ hvalid w1
        obtain ⟨wd, hwd⟩ : ∃ q, Rv.word ⟨(k : Int), q1, 0, q3, im⟩ = q := ⟨_, rfl⟩
        rw [hwd] at HEN hword
        clear hwd hvalid
        cases fit
        · have hwx : (wd == x) = false := by rw [beq_eq_false_iff_ne]; intro e; exact absurd (hword.1 e) (by decide)
          clear hword
          go_wp2_with (first
            | (go_at_call 47; refine (HIM.out _).mono ?_; rintro e w2 ⟨rfl, rfl⟩)
            | (go_at_call 42; refine (HHA.out _).mono ?_; rintro e w2 ⟨rfl, rfl⟩)
            | (go_at_call 48; with_reducible refine (B1.out _).mono ?_; rintro e w2 ⟨rfl, rfl⟩)
            | (go_at_call 48; with_reducible refine (B3.out _).mono ?_; rintro e w2 ⟨rfl, rfl⟩)
            | (go_at_call 15; refine (HVD.out _).mono ?_; rintro e w3 ⟨rfl, g3⟩; have hbx := (g3.heap _ (by simp)).trans (heap_alloc_new wr (.cells #[.int .i64 k, .int .i64 q1, .int .i64 0, .int .i64 q3, .int .i64 im] 23)); have y0 := cell_of_row _ _ 0 _ _ _ hbx; have y1 := cell_of_row _ _ 1 _ _ _ hbx; have y2 := cell_of_row _ _ 2 _ _ _ hbx; have y3 := cell_of_row _ _ 3 _ _ _ hbx; have y4 := cell_of_row _ _ 4 _ _ _ hbx; have HBX := Lib.hid hbx; clear hbx)
            | (go_at_call 36; refine (HEN.out _).mono ?_; rintro e w4 ⟨rfl, g4⟩; have G4 : Hid (Gr w1 w4) := (HG.out.alloc _).trans (g3.trans g4)))
          go_roundw
          case rel => exact ⟨k + 1, by omega, by rw [← HNX.out], G4, Lib.hid (by rw [HE.out, HST.out]; rfl)⟩
          case measure => simp [intOf]; omega
        · have hwx : (wd == x) = true := by rw [beq_iff_eq]; exact hword.2 rfl
          clear hword
          go_wp2_with (first
            | (go_at_call 47; refine (HIM.out _).mono ?_; rintro e w2 ⟨rfl, rfl⟩)
            | (go_at_call 42; refine (HHA.out _).mono ?_; rintro e w2 ⟨rfl, rfl⟩)
            | (go_at_call 48; with_reducible refine (B1.out _).mono ?_; rintro e w2 ⟨rfl, rfl⟩)
            | (go_at_call 48; with_reducible refine (B3.out _).mono ?_; rintro e w2 ⟨rfl, rfl⟩)
            | (go_at_call 15; refine (HVD.out _).mono ?_; rintro e w3 ⟨rfl, g3⟩; have hbx := (g3.heap _ (by simp)).trans (heap_alloc_new wr (.cells #[.int .i64 k, .int .i64 q1, .int .i64 0, .int .i64 q3, .int .i64 im] 23)); have y0 := cell_of_row _ _ 0 _ _ _ hbx; have y1 := cell_of_row _ _ 1 _ _ _ hbx; have y2 := cell_of_row _ _ 2 _ _ _ hbx; have y3 := cell_of_row _ _ 3 _ _ _ hbx; have y4 := cell_of_row _ _ 4 _ _ _ hbx; have HBX := Lib.hid hbx; clear hbx)
            | (go_at_call 36; refine (HEN.out _).mono ?_; rintro e w4 ⟨rfl, g4⟩; have G4 : Hid (Gr w1 w4) := (HG.out.alloc _).trans (g3.trans g4); have hby := (g4.heap _ (Array.getElem?_eq_some_iff.1 HBX.out).1).trans HBX.out; have z0 := cell_of_row _ _ 0 _ _ _ hby; have z1 := cell_of_row _ _ 1 _ _ _ hby; have z2 := cell_of_row _ _ 2 _ _ _ hby; have z3 := cell_of_row _ _ 3 _ _ _ hby; have z4 := cell_of_row _ _ 4 _ _ _ hby; have hr := KP.out w4 (HG1.out.trans G4.out); have r0 := cell_of_row _ _ 0 _ _ _ hr; have r1 := cell_of_row _ _ 1 _ _ _ hr; have r2 := cell_of_row _ _ 2 _ _ _ hr; have r3 := cell_of_row _ _ 3 _ _ _ hr; have r4 := cell_of_row _ _ 4 _ _ _ hr; have f0 := frozen_of_row _ _ 0 _ _ hr; have f1 := frozen_of_row _ _ 1 _ _ hr; have f2 := frozen_of_row _ _ 2 _ _ hr; have f3 := frozen_of_row _ _ 3 _ _ hr; have f4 := frozen_of_row _ _ 4 _ _ hr; have HR := Lib.hid hr; clear hby hr))
          have HV : Hid (decV (Rv.decode x) = .tuple #[.agg #[.int .i64 k, .int .i64 q1, .int .i64 0, .int .i64 q3, .int .i64 im], .bool true]) := by
            show _ = _
            rw [HDE.out, HE.out, HST.out]
            simp [decV, HFO.out, rvVal]
          refine bodyPost_ret (results_rv _ _ 2 3 (.bool true) _ w.heap.size _ _ _ _ _ (0, 0) rfl rfl rfl (row5_set _ _ _ _ _ HR.out)) rfl ?_
          exact ⟨by rw [HV.out], ((((((HB0.out.trans HG1.out).trans G4.out).setCell (Nat.le_refl _) _).setCell (Nat.le_refl _) _).setCell (Nat.le_refl _) _).setCell (Nat.le_refl _) _).setCell (Nat.le_refl _) _⟩
      · simp only [if_true, if_false, Bool.false_eq_true] at HFO hvalid hword
        have HVD : Hid (∀ w1, Calls Tryd.prog 15 #[.agg #[.int .i64 k, .int .i64 q1, .int .i64 q2, .int .i64 0, .int .i64 im]] w1 fun e w' => e = .returned (.int .i64 0) ∧ Gr w1 w') := fun w1 => by
          have h := rValidate_any ⟨(k : Int), q1, q2, 0, im⟩ w1
          have e : Rv.validE ⟨(k : Int), q1, q2, 0, im⟩ = 0 := by unfold Rv.validE; rw [hvalid]; rfl
          rw [e] at h; exact h
        have HEN : Hid (∀ w1, Calls Tryd.prog 36 #[.agg #[.int .i64 k, .int .i64 q1, .int .i64 q2, .int .i64 0, .int .i64 im]] w1 fun e w' => e = .returned (.int .u32 (Rv.word ⟨(k : Int), q1, q2, 0, im⟩)) ∧ Gr w1 w') := fun w1 => rencode_valid ⟨(k : Int), q1, q2, 0, im⟩ hvalid w1
        obtain ⟨wd, hwd⟩ : ∃ q, Rv.word ⟨(k : Int), q1, q2, 0, im⟩ = q := ⟨_, rfl⟩
        rw [hwd] at HEN hword
        clear hwd hvalid
        cases fit
        · have hwx : (wd == x) = false := by rw [beq_eq_false_iff_ne]; intro e; exact absurd (hword.1 e) (by decide)
          clear hword
          go_wp2_with (first
            | (go_at_call 47; refine (HIM.out _).mono ?_; rintro e w2 ⟨rfl, rfl⟩)
            | (go_at_call 42; refine (HHA.out _).mono ?_; rintro e w2 ⟨rfl, rfl⟩)
            | (go_at_call 48; with_reducible refine (B1.out _).mono ?_; rintro e w2 ⟨rfl, rfl⟩)
            | (go_at_call 48; with_reducible refine (B2.out _).mono ?_; rintro e w2 ⟨rfl, rfl⟩)
            | (go_at_call 15; refine (HVD.out _).mono ?_; rintro e w3 ⟨rfl, g3⟩; have hbx := (g3.heap _ (by simp)).trans (heap_alloc_new wr (.cells #[.int .i64 k, .int .i64 q1, .int .i64 q2, .int .i64 0, .int .i64 im] 23)); have y0 := cell_of_row _ _ 0 _ _ _ hbx; have y1 := cell_of_row _ _ 1 _ _ _ hbx; have y2 := cell_of_row _ _ 2 _ _ _ hbx; have y3 := cell_of_row _ _ 3 _ _ _ hbx; have y4 := cell_of_row _ _ 4 _ _ _ hbx; have HBX := Lib.hid hbx; clear hbx)
            | (go_at_call 36; refine (HEN.out _).mono ?_; rintro e w4 ⟨rfl, g4⟩; have G4 : Hid (Gr w1 w4) := (HG.out.alloc _).trans (g3.trans g4)))
          go_roundw
          case rel => exact ⟨k + 1, by omega, by rw [← HNX.out], G4, Lib.hid (by rw [HE.out, HST.out]; rfl)⟩
          case measure => simp [intOf]; omega
        · have hwx : (wd == x) = true := by rw [beq_iff_eq]; exact hword.2 rfl
          clear hword
          go_wp2_with (first
            | (go_at_call 47; refine (HIM.out _).mono ?_; rintro e w2 ⟨rfl, rfl⟩)
            | (go_at_call 42; refine (HHA.out _).mono ?_; rintro e w2 ⟨rfl, rfl⟩)
            | (go_at_call 48; with_reducible refine (B1.out _).mono ?_; rintro e w2 ⟨rfl, rfl⟩)
            | (go_at_call 48; with_reducible refine (B2.out _).mono ?_; rintro e w2 ⟨rfl, rfl⟩)
            | (go_at_call 15; refine (HVD.out _).mono ?_; rintro e w3 ⟨rfl, g3⟩; have hbx := (g3.heap _ (by simp)).trans (heap_alloc_new wr (.cells #[.int .i64 k, .int .i64 q1, .int .i64 q2, .int .i64 0, .int .i64 im] 23)); have y0 := cell_of_row _ _ 0 _ _ _ hbx; have y1 := cell_of_row _ _ 1 _ _ _ hbx; have y2 := cell_of_row _ _ 2 _ _ _ hbx; have y3 := cell_of_row _ _ 3 _ _ _ hbx; have y4 := cell_of_row _ _ 4 _ _ _ hbx; have HBX := Lib.hid hbx; clear hbx)
            | (go_at_call 36; refine (HEN.out _).mono ?_; rintro e w4 ⟨rfl, g4⟩; have G4 : Hid (Gr w1 w4) := (HG.out.alloc _).trans (g3.trans g4); have hby := (g4.heap _ (Array.getElem?_eq_some_iff.1 HBX.out).1).trans HBX.out; have z0 := cell_of_row _ _ 0 _ _ _ hby; have z1 := cell_of_row _ _ 1 _ _ _ hby; have z2 := cell_of_row _ _ 2 _ _ _ hby; have z3 := cell_of_row _ _ 3 _ _ _ hby; have z4 := cell_of_row _ _ 4 _ _ _ hby; have hr := KP.out w4 (HG1.out.trans G4.out); have r0 := cell_of_row _ _ 0 _ _ _ hr; have r1 := cell_of_row _ _ 1 _ _ _ hr; have r2 := cell_of_row _ _ 2 _ _ _ hr; have r3 := cell_of_row _ _ 3 _ _ _ hr; have r4 := cell_of_row _ _ 4 _ _ _ hr; have f0 := frozen_of_row _ _ 0 _ _ hr; have f1 := frozen_of_row _ _ 1 _ _ hr; have f2 := frozen_of_row _ _ 2 _ _ hr; have f3 := frozen_of_row _ _ 3 _ _ hr; have f4 := frozen_of_row _ _ 4 _ _ hr; have HR := Lib.hid hr; clear hby hr))
          have HV : Hid (decV (Rv.decode x) = .tuple #[.agg #[.int .i64 k, .int .i64 q1, .int .i64 q2, .int .i64 0, .int .i64 im], .bool true]) := by
            show _ = _
            rw [HDE.out, HE.out, HST.out]
            simp [decV, HFO.out, rvVal]
          refine bodyPost_ret (results_rv _ _ 2 3 (.bool true) _ w.heap.size _ _ _ _ _ (0, 0) rfl rfl rfl (row5_set _ _ _ _ _ HR.out)) rfl ?_
          exact ⟨by rw [HV.out], ((((((HB0.out.trans HG1.out).trans G4.out).setCell (Nat.le_refl _) _).setCell (Nat.le_refl _) _).setCell (Nat.le_refl _) _).setCell (Nat.le_refl _) _).setCell (Nat.le_refl _) _⟩
      · simp only [if_true, if_false, Bool.false_eq_true] at HFO hvalid hword
        have HVD : Hid (∀ w1, Calls Tryd.prog 15 #[.agg #[.int .i64 k, .int .i64 q1, .int .i64 q2, .int .i64 q3, .int .i64 im]] w1 fun e w' => e = .returned (.int .i64 0) ∧ Gr w1 w') := fun w1 => by
          have h := rValidate_any ⟨(k : Int), q1, q2, q3, im⟩ w1
          have e : Rv.validE ⟨(k : Int), q1, q2, q3, im⟩ = 0 := by unfold Rv.validE; rw [hvalid]; rfl
          rw [e] at h; exact h
        have HEN : Hid (∀ w1, Calls Tryd.prog 36 #[.agg #[.int .i64 k, .int .i64 q1, .int .i64 q2, .int .i64 q3, .int .i64 im]] w1 fun e w' => e = .returned (.int .u32 (Rv.word ⟨(k : Int), q1, q2, q3, im⟩)) ∧ Gr w1 w') := fun w1 => rencode_valid ⟨(k : Int), q1, q2, q3, im⟩ hvalid w1
        obtain ⟨wd, hwd⟩ : ∃ q, Rv.word ⟨(k : Int), q1, q2, q3, im⟩ = q := ⟨_, rfl⟩
        rw [hwd] at HEN hword
        clear hwd hvalid
        cases fit
        · have hwx : (wd == x) = false := by rw [beq_eq_false_iff_ne]; intro e; exact absurd (hword.1 e) (by decide)
          clear hword
          go_wp2_with (first
            | (go_at_call 47; refine (HIM.out _).mono ?_; rintro e w2 ⟨rfl, rfl⟩)
            | (go_at_call 42; refine (HHA.out _).mono ?_; rintro e w2 ⟨rfl, rfl⟩)
            | (go_at_call 48; with_reducible refine (B1.out _).mono ?_; rintro e w2 ⟨rfl, rfl⟩)
            | (go_at_call 48; with_reducible refine (B2.out _).mono ?_; rintro e w2 ⟨rfl, rfl⟩)
            | (go_at_call 48; with_reducible refine (B3.out _).mono ?_; rintro e w2 ⟨rfl, rfl⟩)
            | (go_at_call 15; refine (HVD.out _).mono ?_; rintro e w3 ⟨rfl, g3⟩; have hbx := (g3.heap _ (by simp)).trans (heap_alloc_new wr (.cells #[.int .i64 k, .int .i64 q1, .int .i64 q2, .int .i64 q3, .int .i64 im] 23)); have y0 := cell_of_row _ _ 0 _ _ _ hbx; have y1 := cell_of_row _ _ 1 _ _ _ hbx; have y2 := cell_of_row _ _ 2 _ _ _ hbx; have y3 := cell_of_row _ _ 3 _ _ _ hbx; have y4 := cell_of_row _ _ 4 _ _ _ hbx; have HBX := Lib.hid hbx; clear hbx)
            | (go_at_call 36; refine (HEN.out _).mono ?_; rintro e w4 ⟨rfl, g4⟩; have G4 : Hid (Gr w1 w4) := (HG.out.alloc _).trans (g3.trans g4)))
          go_roundw
          case rel => exact ⟨k + 1, by omega, by rw [← HNX.out], G4, Lib.hid (by rw [HE.out, HST.out]; rfl)⟩
          case measure => simp [intOf]; omega
        · have hwx : (wd == x) = true := by rw [beq_iff_eq]; exact hword.2 rfl
          clear hword
          go_wp2_with (first
            | (go_at_call 47; refine (HIM.out _).mono ?_; rintro e w2 ⟨rfl, rfl⟩)
            | (go_at_call 42; refine (HHA.out _).mono ?_; rintro e w2 ⟨rfl, rfl⟩)
            | (go_at_call 48; with_reducible refine (B1.out _).mono ?_; rintro e w2 ⟨rfl, rfl⟩)
            | (go_at_call 48; with_reducible refine (B2.out _).mono ?_; rintro e w2 ⟨rfl, rfl⟩)
            | (go_at_call 48; with_reducible refine (B3.out _).mono ?_; rintro e w2 ⟨rfl, rfl⟩)
            | (go_at_call 15; refine (HVD.out _).mono ?_; rintro e w3 ⟨rfl, g3⟩; have hbx := (g3.heap _ (by simp)).trans (heap_alloc_new wr (.cells #[.int .i64 k, .int .i64 q1, .int .i64 q2, .int .i64 q3, .int .i64 im] 23)); have y0 := cell_of_row _ _ 0 _ _ _ hbx; have y1 := cell_of_row _ _ 1 _ _ _ hbx; have y2 := cell_of_row _ _ 2 _ _ _ hbx; have y3 := cell_of_row _ _ 3 _ _ _ hbx; have y4 := cell_of_row _ _ 4 _ _ _ hbx; have HBX := Lib.hid hbx; clear hbx)
            | (go_at_call 36; refine (HEN.out _).mono ?_; rintro e w4 ⟨rfl, g4⟩; have G4 : Hid (Gr w1 w4) := (HG.out.alloc _).trans (g3.trans g4); have hby := (g4.heap _ (Array.getElem?_eq_some_iff.1 HBX.out).1).trans HBX.out; have z0 := cell_of_row _ _ 0 _ _ _ hby; have z1 := cell_of_row _ _ 1 _ _ _ hby; have z2 := cell_of_row _ _ 2 _ _ _ hby; have z3 := cell_of_row _ _ 3 _ _ _ hby; have z4 := cell_of_row _ _ 4 _ _ _ hby; have hr := KP.out w4 (HG1.out.trans G4.out); have r0 := cell_of_row _ _ 0 _ _ _ hr; have r1 := cell_of_row _ _ 1 _ _ _ hr; have r2 := cell_of_row _ _ 2 _ _ _ hr; have r3 := cell_of_row _ _ 3 _ _ _ hr; have r4 := cell_of_row _ _ 4 _ _ _ hr; have f0 := frozen_of_row _ _ 0 _ _ hr; have f1 := frozen_of_row _ _ 1 _ _ hr; have f2 := frozen_of_row _ _ 2 _ _ hr; have f3 := frozen_of_row _ _ 3 _ _ hr; have f4 := frozen_of_row _ _ 4 _ _ hr; have HR := Lib.hid hr; clear hby hr))
          have HV : Hid (decV (Rv.decode x) = .tuple #[.agg #[.int .i64 k, .int .i64 q1, .int .i64 q2, .int .i64 q3, .int .i64 im], .bool true]) := by
            show _ = _
            rw [HDE.out, HE.out, HST.out]
            simp [decV, HFO.out, rvVal]
          refine bodyPost_ret (results_rv _ _ 2 3 (.bool true) _ w.heap.size _ _ _ _ _ (0, 0) rfl rfl rfl (row5_set _ _ _ _ _ HR.out)) rfl ?_
          exact ⟨by rw [HV.out], ((((((HB0.out.trans HG1.out).trans G4.out).setCell (Nat.le_refl _) _).setCell (Nat.le_refl _) _).setCell (Nat.le_refl _) _).setCell (Nat.le_refl _) _).setCell (Nat.le_refl _) _⟩
    · have he : k = 41 := by omega
      subst he
      have hr := KP.out wr (HG1.out.trans HG.out)
      have r0 := cell_of_row _ _ 0 _ _ _ hr
      have r1 := cell_of_row _ _ 1 _ _ _ hr
      have r2 := cell_of_row _ _ 2 _ _ _ hr
      have r3 := cell_of_row _ _ 3 _ _ _ hr
      have r4 := cell_of_row _ _ 4 _ _ _ hr
      have f0 := frozen_of_row _ _ 0 _ _ hr
      have f1 := frozen_of_row _ _ 1 _ _ hr
      have f2 := frozen_of_row _ _ 2 _ _ hr
      have f3 := frozen_of_row _ _ 3 _ _ hr
      have f4 := frozen_of_row _ _ 4 _ _ hr
      have HR := Lib.hid hr
      clear hr
      have HV : Hid (decV (Rv.decode x) = .tuple #[.agg #[.int .i64 0, .int .i64 0, .int .i64 0, .int .i64 0, .int .i64 0], .bool false]) := by
        show _ = _
        rw [HDE.out, HE.out]
        rfl
      go_wp2
      refine bodyPost_ret (results_rv _ _ 2 3 (.bool false) _ w.heap.size _ _ _ _ _ (0, 0) rfl rfl rfl (row5_set _ _ _ _ _ HR.out)) rfl ?_
      exact ⟨by rw [HV.out], ((((((HB0.out.trans HG1.out).trans HG.out).setCell (Nat.le_refl _) _).setCell (Nat.le_refl _) _).setCell (Nat.le_refl _) _).setCell (Nat.le_refl _) _).setCell (Nat.le_refl _) _⟩
end Go.Proofs.YthiaaagoccpkcaaDoor

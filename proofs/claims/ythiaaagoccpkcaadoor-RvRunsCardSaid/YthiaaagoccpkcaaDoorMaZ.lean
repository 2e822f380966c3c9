/- RvSteps. -/
import Derived.Test.YthiaaagoccpkcaaDoorMaY
namespace Go.Proofs.YthiaaagoccpkcaaDoor
set_option linter.unusedSimpArgs false
set_option linter.unusedVariables false
open Go.RowKit

set_option maxRecDepth 100000 in
set_option maxHeartbeats 8000000 in
theorem rvSteps_long (m : Mach) (mv : Value) (w : World) (hv : BytesAt w mv m.mem) (hw : Rv.WfM m) (ht : Tabs w) (hlong : 40000 < m.mem.length) :
    Calls Tryd.prog 7 #[.agg (machL m mv).toArray] w fun e w' => e = .returned (.bool true) ∧ Gr w w' := by
  have HKN : Hid (∀ w1, Gr w w1 → Calls Tryd.prog 17 #[] w1 fun e w' => e = .returned (.bool true) ∧ Gr w1 w') := fun w1 g => known_any w1 (ht.gr g)
  obtain ⟨W, hW⟩ : ∃ W, w.alloc (.cells (machL m mv).toArray 45) = W := ⟨_, rfl⟩
  have hr : MRow W w.heap.size 45 m mv [] := by rw [← hW]; exact MRow.new0 hw.regs w _ mv
  have HG : Hid (Gr w W) := by rw [← hW]; exact (Gr.refl w).alloc _
  have k34 := hr.mem
  obtain ⟨A, c, hmv⟩ : ∃ A c, mv = .slice A m.mem.length c := by
    obtain ⟨-, A, c, e, -⟩ := hv
    exact ⟨A, c, e⟩
  rw [hmv] at k34
  generalize m.mem.length = l at *
  have c1 : decide ((40000 : Int) < (l : Int)) = true := by rw [decide_eq_true_iff]; omega
  clear hmv hr hv hw ht hlong
  go_enter Tryd.func7, Tryd.ntmps7
  go_wp2_with (go_at_call 17; refine (HKN.out _ HG.out).mono ?_; rintro e w1 ⟨rfl, g1⟩)
  go_ret
  exact ⟨rfl, HG.out.trans g1⟩
/-- What Step leaves, said of one machine. -/
theorem ma_facts {m : Mach} (hw : Rv.WfM m) (ma : Mach) (h : ma = if Rv.errM m 0 = 0 then Rv.stepM m else Mach.zero) (hl : m.mem.length ≤ 40000) : ma.regs.length = 32 ∧ Rv.isBytes ma.mem ∧ ma.mem.length ≤ 40000 := by
  subst h
  split
  · obtain ⟨-, -, q3, -⟩ := Rv.stepM_keeps m
    exact ⟨stepM_len hw, (stepM_wf hw).mem, by omega⟩
  · exact ⟨rfl, ⟨(fun z hz => by cases hz), by show (0 : Nat) ≤ 40000; omega⟩⟩
/-- A new variable that is given a machine. -/
theorem newRow (w : World) {ma : Mach} (hl : ma.regs.length = 32) (u : Value) : ∃ W W', w.alloc (.cells #[.int .u32 0, .int .u32 0, .int .u32 0, .int .u32 0, .int .u32 0, .int .u32 0, .int .u32 0, .int .u32 0, .int .u32 0, .int .u32 0, .int .u32 0, .int .u32 0, .int .u32 0, .int .u32 0, .int .u32 0, .int .u32 0, .int .u32 0, .int .u32 0, .int .u32 0, .int .u32 0, .int .u32 0, .int .u32 0, .int .u32 0, .int .u32 0, .int .u32 0, .int .u32 0, .int .u32 0, .int .u32 0, .int .u32 0, .int .u32 0, .int .u32 0, .int .u32 0, .int .i64 0, .int .u32 0, .slice none 0 0, .int .i64 0] 45) = W ∧
    W.setRow w.heap.size (machL ma u).toArray = W' ∧ Hid (W.heap[w.heap.size]? = some (.cells (machL Mach.zero (.slice none 0 0)).toArray 45 (0, 0))) ∧ Hid (MRow W' w.heap.size 45 ma u []) ∧ Hid (Gr w W') ∧ Hid (W'.heap.size = w.heap.size + 1) := by
  rw [← zeroM_eq]
  have hz : (w.alloc (.cells (machL Mach.zero (.slice none 0 0)).toArray 45)).heap[w.heap.size]? = some (.cells (machL Mach.zero (.slice none 0 0)).toArray 45 (0, 0)) := heap_alloc_new w _
  have hr := MRow.setRow (m := ma) hl hz u []
  rw [List.append_nil] at hr
  exact ⟨_, _, rfl, rfl, Lib.hid hz, Lib.hid hr, Lib.hid (Gr.setRow ((Gr.refl w).alloc _) (Nat.le_refl _) _), Lib.hid (by simp [World.setRow])⟩
/-- A machine that is given a memory of its own. -/
theorem own_front {W W3 w4 : World} {B : Nat} {m : Mach} {mv : Value} {A : Option Addr} {c : Nat} (h3 : MRow W3 B 45 m mv []) (hg : Gr W3 w4) (ho : Own1 W3.heap.size 5 w4 (.slice A m.mem.length c) (m.mem.map (Value.int .u8))) (h0 : Gr W W3) (hB : W.heap.size ≤ B)
    (hi : Rv.isBytes m.mem) (hl : m.mem.length ≤ 1000000) :
    ∃ W5, w4.setCell ⟨B, 34, none⟩ (.slice A m.mem.length c) = W5 ∧ Hid (MRow W5 B 45 m (.slice A m.mem.length c) []) ∧ Hid (Gr W W5) ∧ Hid (BytesAt W5 (.slice A m.mem.length c) m.mem) ∧ w4.cell? ⟨B, 34, none⟩ = some mv ∧ w4.frozen? ⟨B, 34, none⟩ = false := by
  have hlt := h3.lt
  refine ⟨_, rfl, Lib.hid ((h3.gr hg).setMem _), Lib.hid ((h0.trans hg).setCell (p := ⟨B, 34, none⟩) hB _), Lib.hid (own_bytes (ho.setOther (fun e => ?_) _) hi (by omega)), (h3.gr hg).mem, (h3.gr hg).frozen 34⟩
  have := (own_block_lt ho _ e).1
  have e' : W3.heap.size ≤ B := this
  omega
/-- While bytes are turned. -/
def SL (W4 : World) (B4 : Nat) (ma : Mach) (u : Value) (w : World) : Prop :=
  Gr W4 w ∧ MRow w B4 45 ma u [] ∧ (∀ k, u.ownBlock = some k → k ≠ B4) ∧ ∃ ys : List Int, ys.length = ma.mem.length ∧ Own1 W4.heap.size 5 w u (ys.map (Value.int .u8))
set_option maxRecDepth 100000 in
set_option maxHeartbeats 8000000 in
theorem rvSteps_main (m : Mach) (mv : Value) (w : World) (hv : BytesAt w mv m.mem) (hw : Rv.WfM m) (ht : Tabs w) (hlong : ¬ 40000 < m.mem.length) :
    Calls Tryd.prog 7 #[.agg (machL m mv).toArray] w fun e w' => e = .returned (.bool true) ∧ Gr w w' := by
  have HKN : Hid (∀ w1, Gr w w1 → Calls Tryd.prog 17 #[] w1 fun e w' => e = .returned (.bool true) ∧ Gr w1 w') := fun w1 g => known_any w1 (ht.gr g)
  obtain ⟨W, hW⟩ : ∃ W, w.alloc (.cells (machL m mv).toArray 45) = W := ⟨_, rfl⟩
  obtain ⟨W2, W3, hW2, hW3, HZ, HR3, HG3, HS3⟩ := newRow W hw.regs mv
  have hr : MRow W w.heap.size 45 m mv [] := by rw [← hW]; exact MRow.new0 hw.regs w _ mv
  have HR := Lib.hid hr
  have HG : Hid (Gr w W) := by rw [← hW]; exact (Gr.refl w).alloc _
  have HS1 : Hid (W.heap.size = w.heap.size + 1) := by rw [← hW]; exact Lib.hid (by simp)
  have HV := Lib.hid hv
  have HW := Lib.hid hw
  obtain ⟨ma, hma⟩ : ∃ ma, (if Rv.errM m 0 = 0 then Rv.stepM m else Mach.zero) = ma := ⟨_, rfl⟩
  obtain ⟨f1, f2, f3⟩ := ma_facts hw ma hma.symm (by omega)
  have HF1 := Lib.hid f1
  have HF2 := Lib.hid f2
  have HPS : Hid (∀ (u : Value) (w1 : World), BytesAt w1 u m.mem → Calls Tryd.prog 24 #[.agg (machL m u).toArray] w1 (MachRet w1 ma (Rv.errM m 0))) := fun u w1 h => by
    have := pStep_any h hw
    rw [hma] at this
    exact this
  have HRS : Hid (∀ (u : Value) (w1 : World), BytesAt w1 u m.mem → Calls Tryd.prog 25 #[.agg (machL m u).toArray] w1 (MachRet w1 ma (Rv.errM m 0))) := fun u w1 h => by
    have := rStep_any h hw
    rw [hma] at this
    exact this
  generalize Rv.errM m 0 = er at *
  have k34 := hr.mem
  have k34' := HR3.out.mem
  have fr34 := HR3.out.frozen 34
  obtain ⟨l, hl⟩ : ∃ l, m.mem.length = l := ⟨_, rfl⟩
  have HL := Lib.hid hl
  obtain ⟨la, hla⟩ : ∃ l, ma.mem.length = l := ⟨_, rfl⟩
  have HLA := Lib.hid hla
  obtain ⟨A, c, hmv⟩ : ∃ A c, mv = .slice A m.mem.length c := by
    obtain ⟨-, A, c, e, -⟩ := hv
    exact ⟨A, c, e⟩
  have HMV := Lib.hid hmv
  rw [hmv, hl] at k34
  rw [hla] at f3
  have hb3 := hv.gr (HG.out.trans HG3.out)
  rw [hmv, hl] at hb3
  have HB3 := Lib.hid hb3
  clear hb3
  have HLM : Hid (m.mem.length ≤ 1000000) := Lib.hid (by omega)
  have HLF := Lib.hid f3
  have HIN := Lib.hid hw.mem
  have HON : Hid (mv.oneCell' = true) := by rw [hmv]; exact Lib.hid rfl
  have c1 : decide ((40000 : Int) < (l : Int)) = false := by rw [decide_eq_false_iff_not]; omega
  have c0 : (la : Int) ≤ 40000 := by omega
  have HLL : Hid (l ≤ 40000) := Lib.hid (by omega)
  clear hmv hr hv hw ht hlong hl hla hma f1 f2
  go_enter Tryd.func7, Tryd.ntmps7
  go_wp2_with (first
    | (refine wpList_loadM2 rfl (.tmp 1) rfl w.heap.size (by simp [Act.eval]) HR.out ?_)
    | (refine wpList_store_row rfl 45 (.tmp 3) (.tmp 14) rfl W.heap.size (machL m mv).toArray (by simp [Act.eval, Act.put]) (by simp [Act.eval, Act.put]) 45 (machL Mach.zero (.slice none 0 0)).toArray HZ.out (by rw [infoM]; simp [machL, HW.out.regs]) (by simp [machL, Mach.zero, HW.out.regs]) (machL_one m HON.out) ?_; rw [hW3]; have a34 : ∀ o, (W3.alloc o).cell? ⟨w.heap.size, 34, none⟩ = some (.slice A l c) := fun o => by { rw [(HR.out.gr (HG3.out.alloc o)).mem, HMV.out, HL.out] })
    | (at_builtin; refine appB rfl _ _ rfl (by simp [Act.eval]) rfl HB3.out HLM.out ?_; intro A' c' w4 hown hg; have HO4 := Lib.hid hown; have HG4 := Lib.hid hg; clear hown hg; obtain ⟨W5, hW5, HR5, HG5, HB5, j34, e34⟩ := own_front HR3.out HG4.out HO4.out HG3.out (Nat.le_refl _) HIN.out HLM.out; rw [HMV.out, HL.out] at j34; have HGW5 : Hid (Gr W W5) := HG5; have HGW8 := Lib.hid (HG.out.trans HG5.out); clear a34)
    | (refine wpList_loadM2 rfl (.tmp 3) rfl W.heap.size (by simp [Act.eval]) HR5.out ?_)
    | (go_at_call 24; refine (HPS.out _ _ HB5.out).mono ?_; rintro e w6 ⟨u1, rfl, ho6, g6⟩; have HO6 := Lib.hid ho6; have HG6 := Lib.hid g6; clear ho6 g6; obtain ⟨W7, W8, hW7, hW8, HZ7, HR8, HG8, HS8⟩ := newRow w6 HF1.out u1)
    | (refine wpList_store_row rfl 45 (.tmp 4) (.tmp 23) rfl w6.heap.size (machL ma u1).toArray (by simp [Act.eval, Act.put]) (by simp [Act.eval, Act.put]) 45 (machL Mach.zero (.slice none 0 0)).toArray HZ7.out (by rw [infoM]; simp [machL, HF1.out]) (by simp [machL, Mach.zero, HF1.out]) (machL_one ma HO6.out.slice1) ?_; rw [hW8])
    | (refine wpList_loadM2 rfl (.tmp 1) rfl w.heap.size (by simp [Act.eval]) (HR.out.gr (HGW5.out.trans (HG6.out.trans HG8.out))) ?_)
    | (go_at_call 25; refine (HRS.out _ _ (HV.out.gr (HGW8.out.trans (HG6.out.trans HG8.out)))).mono ?_; rintro e w9 ⟨u2, rfl, ho9, g9⟩; have HO9 := Lib.hid ho9; have HG9 := Lib.hid g9; clear ho9 g9; obtain ⟨W10, W11, hW10, hW11, HZ10, HR11, HG11, HS11⟩ := newRow w9 HF1.out u2)
    | (refine wpList_store_row rfl 45 (.tmp 6) (.tmp 28) rfl w9.heap.size (machL ma u2).toArray (by simp [Act.eval, Act.put]) (by simp [Act.eval, Act.put]) 45 (machL Mach.zero (.slice none 0 0)).toArray HZ10.out (by rw [infoM]; simp [machL, HF1.out]) (by simp [machL, Mach.zero, HF1.out]) (machL_one ma HO9.out.slice1) ?_; rw [hW11])
    | (refine wpList_loadM2 rfl (.tmp 4) rfl w6.heap.size (by simp [Act.eval]) (HR8.out.gr (HG9.out.trans HG11.out)) ?_)
    | (refine wpList_loadM2 rfl (.tmp 6) rfl w9.heap.size (by simp [Act.eval, Act.put]) HR11.out ?_)
    | (go_at_call 26; refine (same_eq HF1.out (own_bytes (HO6.out.gr (HG8.out.trans (HG9.out.trans HG11.out))) HF2.out (by have := HLA.out; have := HLF.out; omega)) (own_bytes (HO9.out.gr HG11.out) HF2.out (by have := HLA.out; have := HLF.out; omega))).mono ?_; rintro e w12 ⟨rfl, g12⟩; have HG12 := Lib.hid g12; clear g12))
  obtain ⟨A1, c1', hu1⟩ := HO6.out.form
  rw [List.length_map, HLA.out] at hu1
  subst hu1
  have HSL : Hid (SL W5 w6.heap.size ma (.slice A1 la c1') w12) := Lib.hid ⟨HG6.out.trans (HG8.out.trans (HG9.out.trans (HG11.out.trans HG12.out))), HR8.out.gr (HG9.out.trans (HG11.out.trans HG12.out)), fun k hk => by have := (own_block_lt HO6.out k hk).2; omega, ma.mem, rfl, HO6.out.gr (HG8.out.trans (HG9.out.trans (HG11.out.trans HG12.out)))⟩
  have HEND : Hid (∀ wr, SL W5 w6.heap.size ma (.slice A1 la c1') wr → wr.cell? ⟨W.heap.size, 34, none⟩ = some (.slice A' m.mem.length c') ∧ wr.cell? ⟨w.heap.size, 34, none⟩ = some (.slice A l c) ∧ (convert 35 9 (.slice A' m.mem.length c')).run Tryd.prog wr = .ok (.string (bytesB m.mem)) wr ∧ (convert 35 9 (.slice A l c)).run Tryd.prog wr = .ok (.string (bytesB m.mem)) wr ∧ Gr w wr) := by
    intro wr h
    have g := h.1
    have hb := HV.out.gr (HGW8.out.trans g)
    rw [HMV.out, HL.out] at hb
    exact ⟨(HR5.out.gr g).mem, by rw [((HR.out.gr HGW5.out).gr g).mem, HMV.out, HL.out], run_bytes (HB5.out.gr g) Tryd.underlying35 Tryd.underlying5 Tryd.underlying9, run_bytes hb Tryd.underlying35 Tryd.underlying5 Tryd.underlying9, HGW8.out.trans g⟩
  generalize w6.heap.size = B4 at *
  go_loopw [8] (fun j wr => ∃ k : Nat, k ≤ 64 ∧ k ≤ la ∧ j = .int .i64 k ∧ Hid (SL W5 B4 ma (.slice A1 la c1') wr)) (fun j _ => 64 - (intOf j).toNat)
  case atStart => exact ⟨0, by omega, by omega, rfl, HSL⟩
  case round =>
    obtain ⟨k, hk, hka, rfl, HI⟩ := hrel
    have k34r := HI.out.2.1.mem
    by_cases h1 : k < la
    · have h1I : (k : Int) < (la : Int) := by omega
      by_cases h2 : k < 64
      · have h2I : (k : Int) < 64 := by omega
        obtain ⟨b, rfl, ⟨y, kc⟩, kf, kb, kn⟩ : ∃ b, A1 = some ⟨b, 0, none⟩ ∧ (∃ old, wr.cell? ⟨b, k, none⟩ = some (.int .u8 old)) ∧ wr.frozen? ⟨b, k, none⟩ = false ∧ W5.heap.size ≤ b ∧ b ≠ B4 := by
          obtain ⟨ys, hl, ho⟩ := HI.out.2.2.2
          have hll : (ys.map (Value.int .u8)).length = la := by rw [List.length_map, hl, HLA.out]
          obtain ⟨b, hA, _, hN, hcell⟩ := own_cells (n := la) (by have := ho; unfold Own1 at this; rw [hll] at this; exact this) rfl (by omega)
          subst hA
          refine ⟨b, rfl, ?_, ho.frozen _, hN, HI.out.2.2.1 b rfl⟩
          rw [hcell k (by omega), List.getElem?_map, getD_of (by rw [hl, HLA.out]; omega)]
          exact ⟨_, rfl⟩
        have HKB := Lib.hid kb
        have HKN2 := Lib.hid kn
        clear kb kn
        go_wp2
        go_roundw
        case rel =>
          refine ⟨k + 1, by omega, by omega, by go_num, Lib.hid ?_⟩
          obtain ⟨g, r, n, ys, hl, ho⟩ := HI.out
          refine ⟨g.setCell (p := ⟨b, k, none⟩) HKB.out _, r.other (a := ⟨b, k, none⟩) (fun e => HKN2.out e.symm) _, n, ys.set k ((y + 1) % 256), by simpa using hl, ?_⟩
          rw [List.map_set]
          exact ho.set k (by rw [List.length_map, hl, HLA.out]; omega) _
        case measure => simp [intOf]; omega
      · have h3 : k = 64 := by omega
        subst h3
        obtain ⟨e1, e2, e3, e4, e5⟩ := HEND.out _ HI.out
        have HE5 := Lib.hid e5
        clear e5
        go_wp2_with (go_at_call 17; refine (HKN.out _ HE5.out).mono ?_; rintro e w1 ⟨rfl, g1⟩)
        go_ret
        exact ⟨rfl, HE5.out.trans g1⟩
    · have h3 : k = la := by omega
      subst h3
      obtain ⟨e1, e2, e3, e4, e5⟩ := HEND.out _ HI.out
      have HE5 := Lib.hid e5
      clear e5
      go_wp2_with (go_at_call 17; refine (HKN.out _ HE5.out).mono ?_; rintro e w1 ⟨rfl, g1⟩)
      go_ret
      exact ⟨rfl, HE5.out.trans g1⟩
theorem rvSteps_any (m : Mach) (mv : Value) (w : World) (hv : BytesAt w mv m.mem) (hw : Rv.WfM m) (ht : Tabs w) :
    Calls Tryd.prog 7 #[.agg (machL m mv).toArray] w fun e w' => e = .returned (.bool true) ∧ Gr w w' := by
  by_cases h : 40000 < m.mem.length
  · exact rvSteps_long m mv w hv hw ht h
  · exact rvSteps_main m mv w hv hw ht h
end Go.Proofs.YthiaaagoccpkcaaDoor

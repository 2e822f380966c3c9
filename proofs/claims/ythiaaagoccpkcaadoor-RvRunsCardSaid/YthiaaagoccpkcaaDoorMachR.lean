/- Run of both; RvRuns (RunE, RunF were printed by gen_rund.py). -/
import Derived.Test.YthiaaagoccpkcaaDoorMachC
import Derived.Test.YthiaaagoccpkcaaDoorMaZ
import Derived.Outline
import Derived.IntWalk

namespace Go.Proofs.YthiaaagoccpkcaaDoor
set_option linter.unusedSimpArgs false
set_option linter.unusedVariables false

namespace Rv
/-- At most k instructions; how many were executed. -/
def runS : Nat → Mach → Mach × Nat
  | 0, m => (m, 0)
  | k + 1, m => if m.fin ≠ 0 then (m, 0) else match stepO m with
    | none => ({ m with fin := 3 }, 0)
    | some m' => ((runS k m').1, (runS k m').2 + 1)
/-- A machine that has not ended is at an end for want of instructions. -/
def late (m : Mach) : Mach := if m.fin = 0 then { m with fin := 4 } else m
theorem runS_fin (m : Mach) (h : m.fin ≠ 0) : ∀ k, runS k m = (m, 0)
  | 0 => rfl
  | k + 1 => by unfold runS; rw [if_pos h]
theorem runS_none (m : Mach) (h : m.fin = 0) (hs : stepO m = none) (k : Nat) : runS (k + 1) m = ({ m with fin := 3 }, 0) := by
  unfold runS; rw [if_neg (by omega), hs]
theorem runS_some (m m' : Mach) (h : m.fin = 0) (hs : stepO m = some m') (k : Nat) : runS (k + 1) m = ((runS k m').1, (runS k m').2 + 1) := by
  rw [show runS (k + 1) m = if m.fin ≠ 0 then (m, 0) else match stepO m with
    | none => ({ m with fin := 3 }, 0)
    | some m' => ((runS k m').1, (runS k m').2 + 1) from rfl, if_neg (by omega), hs]
theorem execS_fin (m m' : Mach) (s : Int) (o : Nat) (d a b n : Int) (h : execS m s o d a b n = some m') : m'.fin = m.fin ∨ m'.fin = 1 ∨ m'.fin = 2 := by
  unfold execS at h
  repeat' split at h
  all_goals first
    | (cases h; exact .inl rfl)
    | (cases h; exact .inr (.inl rfl))
    | (cases h; exact .inr (.inr rfl))
    | (cases h; done)
    | (cases h; dsimp only; split; exact .inr (.inl rfl); exact .inr (.inr rfl))
theorem stepO_fin {m m' : Mach} (h : stepO m = some m') : m'.fin = m.fin ∨ m'.fin = 1 ∨ m'.fin = 2 := by
  unfold stepO at h
  split at h
  · cases h
  · cases hd : decode (rd m.mem m.pc.toNat 4) with
    | none => rw [hd] at h; cases h
    | some x => rw [hd] at h; exact execS_fin _ _ _ _ _ _ _ _ h
theorem runS_ends : ∀ (k : Nat) (m : Mach), m.fin = 0 → (runS k m).1.fin = 0 ∨ (runS k m).1.fin = 1 ∨ (runS k m).1.fin = 2 ∨ (runS k m).1.fin = 3
  | 0, m, h => .inl h
  | k + 1, m, h => by
    cases hs : stepO m with
    | none => rw [runS_none m h hs]; exact .inr (.inr (.inr rfl))
    | some m' =>
      rw [runS_some m m' h hs]
      dsimp only
      rcases stepO_fin hs with h1 | h1 | h1
      · exact runS_ends k m' (by omega)
      · rw [runS_fin m' (by omega)]; exact .inr (.inl h1)
      · rw [runS_fin m' (by omega)]; exact .inr (.inr (.inl h1))
/-- Some, and then more, are as many together. -/
theorem runS_add (q : Nat) : ∀ (p : Nat) (m : Mach), (runS (p + q) m) = ((runS q (runS p m).1).1, (runS p m).2 + (runS q (runS p m).1).2)
  | 0, m => by simp [runS]
  | p + 1, m => by
    rw [show p + 1 + q = (p + q) + 1 by omega]
    by_cases h : m.fin = 0
    · cases hs : stepO m with
      | none =>
        rw [runS_none m h hs, runS_none m h hs]
        rw [runS_fin { m with fin := 3 } (by show (3 : Int) ≠ 0; decide)]
        rfl
      | some m' =>
        rw [runS_some m m' h hs, runS_some m m' h hs, runS_add q p m']
        dsimp only
        rw [show (runS p m').2 + (runS q (runS p m').1).2 + 1 = (runS p m').2 + 1 + (runS q (runS p m').1).2 by omega]
    · rw [runS_fin m h, runS_fin m h]
      dsimp only
      rw [runS_fin m h]
      rfl
theorem runS_le : ∀ (k : Nat) (m : Mach), (runS k m).2 ≤ k
  | 0, m => Nat.le_refl 0
  | k + 1, m => by
    by_cases h : m.fin = 0
    · cases hs : stepO m with
      | none => rw [runS_none m h hs]; exact Nat.zero_le _
      | some m' => rw [runS_some m m' h hs]; have := runS_le k m'; dsimp only; omega
    · rw [runS_fin m h]; exact Nat.zero_le _
/-- The plain law of RvRuns. -/
theorem runs_law (m : Mach) (h : m.fin = 0) (p q : Nat) :
    ((late (runS p m).1).fin ≠ 4 → late (runS p m).1 = late (runS (p + q) m).1 ∧ (runS p m).2 = (runS (p + q) m).2) ∧
    ((late (runS p m).1).fin = 4 → { late (runS p m).1 with fin := 0 } = (runS p m).1 ∧ (runS p m).1.fin = 0 ∧ late (runS q (runS p m).1).1 = late (runS (p + q) m).1 ∧ (runS p m).2 + (runS q (runS p m).1).2 = (runS (p + q) m).2) := by
  rw [runS_add]
  have he := runS_ends p m h
  generalize runS p m = r at *
  obtain ⟨x, i⟩ := r
  dsimp only at he ⊢
  refine ⟨fun h4 => ?_, fun h4 => ?_⟩
  · have hx : x.fin ≠ 0 := fun e => h4 (by unfold late; rw [if_pos e])
    rw [runS_fin x hx]
    exact ⟨rfl, rfl⟩
  · have hx : x.fin = 0 := by
      unfold late at h4
      split at h4
      · assumption
      · omega
    refine ⟨?_, hx, rfl, rfl⟩
    unfold late
    rw [if_pos hx]
    obtain ⟨a, b, c, d, e⟩ := x
    dsimp only at hx ⊢
    rw [hx]
end Rv
/-- What a run keeps. -/
structure RunK (m x : Mach) : Prop where
  wf : Rv.WfM x
  len : x.mem.length = m.mem.length
  r0 : x.regs.getD 0 0 = m.regs.getD 0 0
theorem RunK.refl {m : Mach} (h : Rv.WfM m) : RunK m m := ⟨h, rfl, rfl⟩
theorem RunK.step {m x x' : Mach} (h : RunK m x) (hs : Rv.stepO x = some x') : RunK m x' := by
  have e : Rv.stepM x = x' := by unfold Rv.stepM; rw [hs]
  obtain ⟨-, q2, q3, -⟩ := Rv.stepM_keeps x
  have w := stepM_wf h.wf
  rw [e] at q2 q3 w
  exact ⟨w, q3.trans h.len, q2.trans h.r0⟩
theorem RunK.fin {m x : Mach} (h : RunK m x) (n : Int) : RunK m { x with fin := n } := ⟨wf_fin h.wf n, h.len, h.r0⟩
theorem RunK.run {m : Mach} : ∀ (k : Nat) (x : Mach), RunK m x → RunK m (Rv.runS k x).1
  | 0, x, h => h
  | k + 1, x, h => by
    by_cases hf : x.fin = 0
    · cases hs : Rv.stepO x with
      | none => rw [Rv.runS_none x hf hs]; exact h.fin 3
      | some x' => rw [Rv.runS_some x x' hf hs]; exact RunK.run k x' (h.step hs)
    · rw [Rv.runS_fin x hf]; exact h
theorem RunK.late {m x : Mach} (h : RunK m x) : RunK m (Rv.late x) := by
  unfold Rv.late
  split
  · exact h.fin 4
  · exact h
end Go.Proofs.YthiaaagoccpkcaaDoor

namespace Go.Proofs.YthiaaagoccpkcaaDoor
set_option linter.unusedSimpArgs false
set_option linter.unusedVariables false
open Go.RowKit

/-- A machine handed back, how many instructions, and an error. -/
def RunRet (w : World) (m : Mach) (n : Nat) (err : Int) : Ending → World → Prop :=
  fun e w' => ∃ u, e = .returned (.tuple #[.agg (machL m u).toArray, .int .i64 n, .int .i64 err]) ∧ Own1 w.heap.size 5 w' u (m.mem.map (Value.int .u8)) ∧ Gr w w'
theorem results_run {fn : Func} {p q r : Nat} (h : fn.results = #[.cell p 45, .tmp q, .tmp r]) (tmps : Array Value) (w : World) (g : Nat) (t : TypeId) (m : Mach) (u : Value)
    (hp : tmps.getD p undef = .pointer (some ⟨g, 0, none⟩)) (hr : MRow w g t m u []) :
    (results fn tmps).run Tryd.prog w = .ok (.tuple #[.agg (machL m u).toArray, tmps.getD q undef, tmps.getD r undef]) w := by
  have hp' : tmps[p]?.getD undef = .pointer (some ⟨g, 0, none⟩) := by simpa using hp
  simp [results, h, hp', asAddr, loadM2 hr]
theorem zero_run {w W : World} {B2 : Nat} (h2 : W.heap[B2]? = some (.cells (machL Mach.zero (.slice none 0 0)).toArray 45 (0, 0))) (hg : Gr w W) (hB : w.heap.size ≤ B2) (err : Int) :
    MRow (W.setRow B2 (machL Mach.zero (.slice none 0 0)).toArray) B2 45 Mach.zero (.slice none 0 0) [] ∧
      RunRet w Mach.zero 0 err (.returned (.tuple #[.agg (machL Mach.zero (.slice none 0 0)).toArray, .int .i64 0, .int .i64 err])) (W.setRow B2 (machL Mach.zero (.slice none 0 0)).toArray) := by
  have := MRow.setRow (m := Mach.zero) (by rfl) h2 (.slice none 0 0) []
  rw [List.append_nil] at this
  exact ⟨this, _, rfl, Own1.nil _ _ _, hg.setRow hB _⟩
set_option maxRecDepth 100000 in
set_option maxHeartbeats 8000000 in
theorem pRun_err {w : World} {m : Mach} {mv : Value} (hv : BytesAt w mv m.mem) (hw : Rv.WfM m) (most : Int) (he : Rv.errM m most ≠ 0) :
    Calls Tryd.prog 27 #[.agg (machL m mv).toArray, .int .i64 most] w (RunRet w Mach.zero 0 (Rv.errM m most)) := by
  obtain ⟨W, W1, hW, hW1, HR, HZ, HG, HZS⟩ := step_front (w := w) (mv := mv) hw
  rw [zeroM_eq] at hW1
  have HB : Hid (∀ W1, Gr w W1 → Calls Tryd.prog 51 #[.agg (machL m mv).toArray, .int .i64 most] W1 fun e w' => e = .returned (.tuple #[.pointer none, .int .i64 (Rv.errM m most)]) ∧ Gr W1 w') := fun W1 g1 => begin_err (hv.gr g1) hw most he
  generalize Rv.errM m most = er at *
  have c1 : (er != 0) = true := by simpa using he
  clear hv hw he
  go_enter Tryd.func27, Tryd.ntmps27
  go_wp2_with (first
    | (refine wpList_loadM2 rfl (.tmp 2) rfl w.heap.size (by simp [Act.eval]) HR.out ?_)
    | (go_at_call 51; refine (HB.out _ HG.out).mono ?_; rintro _ w2 ⟨rfl, g2⟩; have HZ2 : Hid (w2.heap[W.heap.size]? = some (.cells (machL Mach.zero (.slice none 0 0)).toArray 45 (0, 0))) := (g2.heap _ (by have := HZS.out; omega)).trans HZ.out)
    | (refine wpList_store_row rfl 45 (.tmp 4) (.tmp 18) rfl W.heap.size (machL Mach.zero (.slice none 0 0)).toArray (by simp [Act.eval]) (by simp [Act.eval, zeroM_eq]) 45 (machL Mach.zero (.slice none 0 0)).toArray HZ2.out zeroM_size rfl zeroM_one ?_))
  obtain ⟨q1, q2⟩ := zero_run HZ2.out (HG.out.trans g2) (by have := HZS.out; omega) er
  refine bodyPost_ret (results_run rfl _ _ W.heap.size 45 Mach.zero (.slice none 0 0) (by simp [Act.put]) q1) rfl ?_
  exact q2
/-- While the program runs. -/
def RL (N : Nat) (w : World) (B g : Nat) (m : Mach) (most : Nat) (u : Value) (k : Nat) (wr : World) : Prop :=
  ∃ x, MS N wr B x u g ∧ Below N w wr ∧ RunK m x ∧ Rv.runS most m = ((Rv.runS (most - k) x).1, k + (Rv.runS (most - k) x).2)
set_option maxRecDepth 100000 in
set_option maxHeartbeats 8000000 in
theorem pRun_ok {w : World} {m : Mach} {mv : Value} (hv : BytesAt w mv m.mem) (hw : Rv.WfM m) (most : Nat) (he : Rv.errM m most = 0) :
    Calls Tryd.prog 27 #[.agg (machL m mv).toArray, .int .i64 most] w (RunRet w (Rv.late (Rv.runS most m).1) (Rv.runS most m).2 0) := by
  obtain ⟨W, W1, hW, hW1, HR, HZ, HG, HZS⟩ := step_front (w := w) (mv := mv) hw
  rw [zeroM_eq] at hW1
  have HB : Hid (∀ W1, Gr w W1 → Calls Tryd.prog 51 #[.agg (machL m mv).toArray, .int .i64 most] W1 fun e w' => ∃ B u g, e = .returned (.tuple #[.pointer (some ⟨B, 0, none⟩), .int .i64 0]) ∧ MS W1.heap.size w' B m u g ∧ Gr W1 w') := fun W1 g1 => begin_ok (hv.gr g1) hw most he
  obtain ⟨hm1, hf0⟩ : most ≤ 200000 ∧ m.fin = 0 := by
    unfold Rv.errM at he
    split at he
    · cases he
    · split at he
      · cases he
      · omega
  have HWF := Lib.hid hw
  have HF0 := Lib.hid hf0
  have hmI : (most : Int) ≤ 200000 := by omega
  clear hv hw he hf0
  go_enter Tryd.func27, Tryd.ntmps27
  go_wp2_with (first
    | (refine wpList_loadM2 rfl (.tmp 2) rfl w.heap.size (by simp [Act.eval]) HR.out ?_)
    | (go_at_call 51; refine (HB.out _ HG.out).mono ?_; rintro _ w2 ⟨B, u, g, rfl, hm2, g2⟩; have HM2 := Lib.hid hm2; have HG2 := Lib.hid g2; clear hm2 g2))
  have HZ2 : Hid (∀ wr, Below W1.heap.size w2 wr → wr.heap[W.heap.size]? = some (.cells (machL Mach.zero (.slice none 0 0)).toArray 45 (0, 0))) := fun wr h => (h.block _ (by have := HZS.out; omega)).trans ((HG2.out.heap _ (by have := HZS.out; omega)).trans HZ.out)
  have HEND : Hid (∀ wr (x : Mach) (n : Nat), Rv.late (Rv.runS most m).1 = x → (Rv.runS most m).2 = n → MS W1.heap.size wr B x u g → Below W1.heap.size w2 wr →
      MRow (wr.setRow W.heap.size (machL x u).toArray) W.heap.size 45 x u [] ∧ RunRet w (Rv.late (Rv.runS most m).1) (Rv.runS most m).2 0 (.returned (.tuple #[.agg (machL x u).toArray, .int .i64 n, .int .i64 0])) (wr.setRow W.heap.size (machL x u).toArray)) := by
    intro wr x n h1 h2 hm hb
    have := MRow.setRow (m := x) hm.row.len (HZ2.out wr hb) u []
    rw [List.append_nil] at this
    refine ⟨this, u, by rw [h1, h2], ?_, ?_⟩
    · rw [h1]
      exact own_base (hm.mem.rowOther (by have := HZS.out; omega) _) (by have := HZS.out; omega)
    · exact (Gr.below (HG.out.trans HG2.out) hb (by have := HZS.out; omega)).setRow (by have := HZS.out; omega) _
  go_loopw [9] (fun n wr => ∃ k : Nat, k ≤ most ∧ n = .int .i64 k ∧ Hid (RL W1.heap.size w2 B g m most u k wr)) (fun n _ => most - (intOf n).toNat)
  case atStart => exact ⟨0, Nat.zero_le _, rfl, Lib.hid ⟨m, HM2.out, Below.refl _ _, RunK.refl HWF.out, by simp⟩⟩
  case round =>
    obtain ⟨k, hk, rfl, HI⟩ := hrel
    obtain ⟨x, hx, hbx, hkx, hrx⟩ := HI.out
    have HX := Lib.hid hx
    have HBX := Lib.hid hbx
    have HKX := Lib.hid hkx
    have HRX := Lib.hid hrx
    have k35 := hx.row.fin
    have f35 := hx.row.frozen 35
    clear hx hbx hkx hrx
    by_cases hf : x.fin = 0
    · rw [hf] at k35
      have HF := Lib.hid hf
      clear hf
      by_cases hkm : k < most
      · have hkI : (k : Int) < (most : Int) := by omega
        cases hs : Rv.stepO x with
        | some x' =>
          have HS := Lib.hid hs
          clear hs
          go_wp2_with (go_at_call 52; refine (step_any HX.out).mono ?_; rintro e3 w3 ⟨he3, hm3, hb3⟩; rw [HS.out] at he3 hm3; simp only [Option.isSome_some, Option.getD_some] at he3 hm3; subst he3; have HM3 := Lib.hid hm3; have HB3 := Lib.hid hb3; clear hm3 hb3)
          go_roundw
          case rel =>
            refine ⟨k + 1, by omega, by go_num, Lib.hid ⟨x', HM3.out, HBX.out.trans HB3.out, HKX.out.step HS.out, ?_⟩⟩
            rw [HRX.out, show most - k = (most - (k + 1)) + 1 by omega, Rv.runS_some x x' HF.out HS.out]
            dsimp only
            rw [show k + 1 + (Rv.runS (most - (k + 1)) x').2 = k + ((Rv.runS (most - (k + 1)) x').2 + 1) by omega]
          case measure => simp [intOf]; omega
        | none =>
          have HS := Lib.hid hs
          clear hs
          obtain ⟨r, hr⟩ : ∃ r, most - k = r + 1 := ⟨most - k - 1, by omega⟩
          have hrr := HRX.out
          rw [hr, Rv.runS_none x HF.out HS.out] at hrr
          have HRR := Lib.hid hrr
          clear hr hrr
          go_wp2_with (first
            | (go_at_call 52; refine (step_any HX.out).mono ?_; rintro e3 w3 ⟨he3, hm3, hb3⟩; rw [HS.out] at he3 hm3; simp only [Option.isSome_none, Option.getD_none] at he3 hm3; subst he3; have z35 := hm3.row.fin; have zf35 := hm3.row.frozen 35; obtain ⟨W5, hW5⟩ : ∃ W5, w3.setCell ⟨B, 35, none⟩ (.int .i64 3) = W5 := ⟨_, rfl⟩; have hm4 := hm3.setCell (hm3.row.setFin 3) rfl (wf_fin hm3.wf 3); have hb4 := hb3.setCell (p := ⟨B, 35, none⟩) hm3.nB (.int .i64 3); rw [hW5] at hm4 hb4; have HM4 := Lib.hid hm4; have HB4 := Lib.hid (HBX.out.trans hb4); have y35 := hm4.row.fin; clear hm3 hb3 hm4 hb4)
            | (refine wpList_loadM2 rfl (.tmp 52) rfl B (by simp [Act.eval]) (MS.row HM4.out) ?_)
            | (refine wpList_store_row rfl 45 (.tmp 4) (.tmp 53) rfl W.heap.size (machL { x with fin := 3 } u).toArray (by simp [Act.eval, Act.put]) (by simp [Act.eval, Act.put]) 45 (machL Mach.zero (.slice none 0 0)).toArray (HZ2.out _ HB4.out) (by rw [infoM]; simp [machL, HX.out.row.len]) (by simp [machL, Mach.zero, HX.out.row.len]) (machL_one { x with fin := 3 } (Own1.slice1 HX.out.mem)) ?_))
          obtain ⟨q1, q2⟩ := HEND.out _ { x with fin := 3 } k (by rw [HRR.out]; unfold Rv.late; rw [if_neg (by show ¬ (3 : Int) = 0; decide)]) (by rw [HRR.out]; rfl) HM4.out HB4.out
          refine bodyPost_ret (results_run rfl _ _ W.heap.size 45 { x with fin := 3 } u (by simp [Act.put]) q1) rfl ?_
          exact q2
      · have hkk : k = most := by omega
        subst hkk
        have hrr : Rv.runS k m = (x, k) := by
          have h := HRX.out
          rw [Nat.sub_self] at h
          exact h
        have HRR := Lib.hid hrr
        clear hrr
        obtain ⟨W5, hW5⟩ : ∃ W5, wr.setCell ⟨B, 35, none⟩ (.int .i64 4) = W5 := ⟨_, rfl⟩
        have hm4 := HX.out.setCell (HX.out.row.setFin 4) rfl (wf_fin HX.out.wf 4)
        have hb4 := HBX.out.setCell (p := ⟨B, 35, none⟩) HX.out.nB (.int .i64 4)
        rw [hW5] at hm4 hb4
        have HM4 := Lib.hid hm4
        have HB4 := Lib.hid hb4
        clear hm4 hb4
        go_wp2_with (first
          | (refine wpList_loadM2 rfl (.tmp 52) rfl B (by simp [Act.eval]) (MS.row HM4.out) ?_)
          | (refine wpList_store_row rfl 45 (.tmp 4) (.tmp 53) rfl W.heap.size (machL { x with fin := 4 } u).toArray (by simp [Act.eval, Act.put]) (by simp [Act.eval, Act.put]) 45 (machL Mach.zero (.slice none 0 0)).toArray (HZ2.out _ HB4.out) (by rw [infoM]; simp [machL, HX.out.row.len]) (by simp [machL, Mach.zero, HX.out.row.len]) (machL_one { x with fin := 4 } (Own1.slice1 HX.out.mem)) ?_))
        obtain ⟨q1, q2⟩ := HEND.out _ { x with fin := 4 } k (by rw [HRR.out]; unfold Rv.late; rw [if_pos HF.out]) (by rw [HRR.out]) HM4.out HB4.out
        refine bodyPost_ret (results_run rfl _ _ W.heap.size 45 { x with fin := 4 } u (by simp [Act.put]) q1) rfl ?_
        exact q2
    · have hrr := HRX.out
      rw [Rv.runS_fin x hf] at hrr
      have HRR := Lib.hid hrr
      clear hrr
      have HF := Lib.hid hf
      obtain ⟨fi, hfi⟩ : ∃ fi, x.fin = fi := ⟨_, rfl⟩
      rw [hfi] at k35
      have cf : (fi == 0) = false := by rw [← hfi]; simpa using hf
      clear hf hfi
      go_wp2_with (first
        | (refine wpList_loadM2 rfl (.tmp 52) rfl B (by simp [Act.eval]) (MS.row HX.out) ?_)
        | (refine wpList_store_row rfl 45 (.tmp 4) (.tmp 53) rfl W.heap.size (machL x u).toArray (by simp [Act.eval, Act.put]) (by simp [Act.eval, Act.put]) 45 (machL Mach.zero (.slice none 0 0)).toArray (HZ2.out _ HBX.out) (by rw [infoM]; simp [machL, HX.out.row.len]) (by simp [machL, Mach.zero, HX.out.row.len]) (machL_one x (Own1.slice1 HX.out.mem)) ?_))
      obtain ⟨q1, q2⟩ := HEND.out _ x k (by rw [HRR.out]; unfold Rv.late; rw [if_neg HF.out]) (by rw [HRR.out]; rfl) HX.out HBX.out
      refine bodyPost_ret (results_run rfl _ _ W.heap.size 45 x u (by simp [Act.put]) q1) rfl ?_
      exact q2
theorem errM_neg {m : Mach} {most : Int} (h : Rv.errM m most = 0) : 0 ≤ most := by
  unfold Rv.errM at h
  split at h
  · cases h
  · split at h
    · cases h
    · omega
/-- What a run comes to. -/
def Rv.runM (m : Mach) (most : Int) : Mach := if Rv.errM m most = 0 then Rv.late (Rv.runS most.toNat m).1 else Mach.zero
def Rv.runN (m : Mach) (most : Int) : Nat := if Rv.errM m most = 0 then (Rv.runS most.toNat m).2 else 0
theorem pRun_any {w : World} {m : Mach} {mv : Value} (hv : BytesAt w mv m.mem) (hw : Rv.WfM m) (most : Int) :
    Calls Tryd.prog 27 #[.agg (machL m mv).toArray, .int .i64 most] w (RunRet w (Rv.runM m most) (Rv.runN m most) (Rv.errM m most)) := by
  unfold Rv.runM Rv.runN
  by_cases he : Rv.errM m most = 0
  · rw [if_pos he, if_pos he, he]
    obtain ⟨p, rfl⟩ := Int.eq_ofNat_of_zero_le (errM_neg he)
    exact pRun_ok hv hw p he
  · rw [if_neg he, if_neg he]; exact pRun_err hv hw most he
end Go.Proofs.YthiaaagoccpkcaaDoor

namespace Go.Proofs.YthiaaagoccpkcaaDoor
set_option linter.unusedSimpArgs false
set_option linter.unusedVariables false
open Go.RowKit

set_option maxRecDepth 100000 in
set_option maxHeartbeats 8000000 in
theorem rRun_err1 {w : World} {m : Mach} {mv : Value} (hv : BytesAt w mv m.mem) (hw : Rv.WfM m) (most : Int) (h1 : 32768 < m.mem.length ∨ m.regs.getD 0 0 ≠ 0) :
    Calls Tryd.prog 28 #[.agg (machL m mv).toArray, .int .i64 most] w (RunRet w Mach.zero 0 1) := by
  obtain ⟨W, W1, hW, hW1, HR, HZ, HG, HZS⟩ := step_front (w := w) (mv := mv) hw
  rw [zeroM_eq] at hW1
  have HAS := Lib.hid (asked_at hv hw 1 (by rw [if_pos h1]))
  clear hv hw h1
  go_enter Tryd.func28, Tryd.ntmps28
  go_wp2_with (first
    | (refine wpList_loadM2 rfl (.tmp 2) rfl w.heap.size (by simp [Act.eval]) HR.out ?_)
    | (go_at_call 53; refine (HAS.out _).mono ?_; rintro _ w2 ⟨rfl, g2⟩; have HZ2 : Hid (w2.heap[W.heap.size]? = some (.cells (machL Mach.zero (.slice none 0 0)).toArray 45 (0, 0))) := (g2.heap _ (by have := HZS.out; omega)).trans HZ.out)
    | (refine wpList_store_row rfl 45 (.tmp 4) (.tmp 18) rfl W.heap.size (machL Mach.zero (.slice none 0 0)).toArray (by simp [Act.eval]) (by simp [Act.eval, zeroM_eq]) 45 (machL Mach.zero (.slice none 0 0)).toArray HZ2.out zeroM_size rfl zeroM_one ?_))
  obtain ⟨q1, q2⟩ := zero_run HZ2.out (HG.out.trans g2) (by have := HZS.out; omega) 1
  refine bodyPost_ret (results_run rfl _ _ W.heap.size 45 Mach.zero (.slice none 0 0) (by simp [Act.put]) q1) rfl ?_
  exact q2
set_option maxRecDepth 100000 in
set_option maxHeartbeats 8000000 in
theorem rRun_err2 {w : World} {m : Mach} {mv : Value} (hv : BytesAt w mv m.mem) (hw : Rv.WfM m) (most : Int) (h1 : ¬ (32768 < m.mem.length ∨ m.regs.getD 0 0 ≠ 0)) (h2 : ¬ (0 ≤ most ∧ most ≤ 200000)) :
    Calls Tryd.prog 28 #[.agg (machL m mv).toArray, .int .i64 most] w (RunRet w Mach.zero 0 1) := by
  obtain ⟨W, W1, hW, hW1, HR, HZ, HG, HZS⟩ := step_front (w := w) (mv := mv) hw
  rw [zeroM_eq] at hW1
  have HAS := Lib.hid (asked_at hv hw 0 (by rw [if_neg h1]))
  have HWI : Hid (∀ w1, Calls Tryd.prog 40 #[.int .i64 most, .int .i64 0, .int .i64 200000] w1 fun e w' => e = .returned (.bool false) ∧ w1 = w') := fun w1 => by
    have := within_any most 0 200000 w1
    have e : (decide (0 ≤ most) && decide (most ≤ 200000)) = false := by rw [Bool.and_eq_false_iff, decide_eq_false_iff_not, decide_eq_false_iff_not]; omega
    rw [e] at this
    exact this
  clear hv hw h1 h2
  go_enter Tryd.func28, Tryd.ntmps28
  go_wp2_with (first
    | (refine wpList_loadM2 rfl (.tmp 2) rfl w.heap.size (by simp [Act.eval]) HR.out ?_)
    | (go_at_call 53; refine (HAS.out _).mono ?_; rintro _ w2 ⟨rfl, g2⟩; have HZ2 : Hid (w2.heap[W.heap.size]? = some (.cells (machL Mach.zero (.slice none 0 0)).toArray 45 (0, 0))) := (g2.heap _ (by have := HZS.out; omega)).trans HZ.out)
    | (go_at_call 40; refine (HWI.out _).mono ?_; rintro _ _ ⟨rfl, rfl⟩)
    | (refine wpList_store_row rfl 45 (.tmp 4) (.tmp 18) rfl W.heap.size (machL Mach.zero (.slice none 0 0)).toArray (by simp [Act.eval]) (by simp [Act.eval, zeroM_eq]) 45 (machL Mach.zero (.slice none 0 0)).toArray HZ2.out zeroM_size rfl zeroM_one ?_))
  obtain ⟨q1, q2⟩ := zero_run HZ2.out (HG.out.trans g2) (by have := HZS.out; omega) 1
  refine bodyPost_ret (results_run rfl _ _ W.heap.size 45 Mach.zero (.slice none 0 0) (by simp [Act.put]) q1) rfl ?_
  exact q2
theorem within_yes {most : Int} (h2 : 0 ≤ most ∧ most ≤ 200000) (w1 : World) : Calls Tryd.prog 40 #[.int .i64 most, .int .i64 0, .int .i64 200000] w1 fun e w' => e = .returned (.bool true) ∧ w1 = w' := by
  have := within_any most 0 200000 w1
  have e : (decide (0 ≤ most) && decide (most ≤ 200000)) = true := by rw [Bool.and_eq_true, decide_eq_true_iff, decide_eq_true_iff]; exact h2
  rw [e] at this
  exact this
set_option maxRecDepth 100000 in
set_option maxHeartbeats 8000000 in
theorem rRun_err9 {w : World} {m : Mach} {mv : Value} (hv : BytesAt w mv m.mem) (hw : Rv.WfM m) (most : Int) (h1 : ¬ (32768 < m.mem.length ∨ m.regs.getD 0 0 ≠ 0)) (h2 : 0 ≤ most ∧ most ≤ 200000) (h9 : m.fin ≠ 0) :
    Calls Tryd.prog 28 #[.agg (machL m mv).toArray, .int .i64 most] w (RunRet w Mach.zero 0 9) := by
  obtain ⟨W, W1, hW, hW1, HR, HZ, HG, HZS⟩ := step_front (w := w) (mv := mv) hw
  rw [zeroM_eq] at hW1
  have HAS := Lib.hid (asked_at hv hw 0 (by rw [if_neg h1]))
  have HWI := Lib.hid (within_yes h2)
  have HK : Hid (∀ w1, Gr W1 w1 → w1.cell? ⟨w.heap.size, 35, none⟩ = some (.int .i64 m.fin)) := fun w1 g => (HR.out.gr g).fin
  have c1 : (m.fin != 0) = true := by simpa using h9
  generalize m.fin = fi at *
  clear hv hw h1 h2 h9
  go_enter Tryd.func28, Tryd.ntmps28
  go_wp2_with (first
    | (refine wpList_loadM2 rfl (.tmp 2) rfl w.heap.size (by simp [Act.eval]) HR.out ?_)
    | (go_at_call 53; refine (HAS.out _).mono ?_; rintro _ w2 ⟨rfl, g2⟩; have k2 := HK.out _ g2; have HZ2 : Hid (w2.heap[W.heap.size]? = some (.cells (machL Mach.zero (.slice none 0 0)).toArray 45 (0, 0))) := (g2.heap _ (by have := HZS.out; omega)).trans HZ.out)
    | (go_at_call 40; refine (HWI.out _).mono ?_; rintro _ _ ⟨rfl, rfl⟩)
    | (refine wpList_store_row rfl 45 (.tmp 4) (.tmp 22) rfl W.heap.size (machL Mach.zero (.slice none 0 0)).toArray (by simp [Act.eval]) (by simp [Act.eval, zeroM_eq]) 45 (machL Mach.zero (.slice none 0 0)).toArray HZ2.out zeroM_size rfl zeroM_one ?_))
  obtain ⟨q1, q2⟩ := zero_run HZ2.out (HG.out.trans g2) (by have := HZS.out; omega) 9
  refine bodyPost_ret (results_run rfl _ _ W.heap.size 45 Mach.zero (.slice none 0 0) (by simp [Act.put]) q1) rfl ?_
  exact q2
/-- While the document runs. -/
structure DL (w wr : World) (B1 B2 N : Nat) (m : Mach) (most : Nat) (u : Value) (k : Nat) (x : Mach) : Prop where
  ro : RO w wr B1 B2 N x u
  keep : RunK m x
  eq : Rv.runS most m = ((Rv.runS (most - k) x).1, k + (Rv.runS (most - k) x).2)
theorem RO.step {w wr w5 : World} {B1 B2 N : Nat} {x x' : Mach} {u : Value} (h : RO w wr B1 B2 N x u) (ho : Own1 N 5 w5 u (x'.mem.map (Value.int .u8))) (hb : Below N wr w5) (hl : x'.regs.length = 32) :
    w5.heap[B1]? = some (.cells (machL x u).toArray 45 (0, 0)) ∧ RO w (w5.setRow B1 (machL x' u).toArray) B1 B2 N x' u := by
  have h1 := h.n0
  have h2 := h.n1
  have h3 := h.n2
  have r5 := h.r1.below (by omega) hb
  have hr := r5.row
  rw [List.append_nil] at hr
  refine ⟨hr, ?_, ?_, ho.rowOther (by omega) _, ?_, h.n0, h.n1, h.n2, ?_⟩
  · have := MRow.setRow (m := x') hl hr u []
    rw [List.append_nil] at this
    exact this
  · rw [heap_setRow_other _ _ _ _ (by omega)]
    exact (hb.block _ h.n2).trans h.r2
  · exact (Gr.below h.gr hb (by omega)).setRow h.n0 _
  · have := hb.size
    have := h.nW
    simp [World.setRow]; omega
theorem RO.fin {w wr : World} {B1 B2 N : Nat} {x : Mach} {u : Value} (h : RO w wr B1 B2 N x u) (n : Int) : RO w (wr.setCell ⟨B1, 35, none⟩ (.int .i64 n)) B1 B2 N { x with fin := n } u := by
  have h1 := h.n0
  have h2 := h.n1
  have h3 := h.n2
  refine ⟨h.r1.setFin n, (Below.heap_setCell wr ⟨B1, 35, none⟩ _ B2 (fun e => by have e' : B2 = B1 := e; omega)).trans h.r2, h.mem.setOther (fun e => ?_) _, h.gr.setCell (p := ⟨B1, 35, none⟩) h.n0 _, h.n0, h.n1, h.n2, by have := h.nW; simpa using this⟩
  have := (own_block_lt h.mem _ e).1
  have e' : N ≤ B1 := this
  omega
theorem RO.done {w wr : World} {B1 B2 N : Nat} {x : Mach} {u : Value} (h : RO w wr B1 B2 N x u) (n : Nat) : MRow (wr.setRow B2 (machL x u).toArray) B2 45 x u [] ∧ RunRet w x n 0 (.returned (.tuple #[.agg (machL x u).toArray, .int .i64 n, .int .i64 0])) (wr.setRow B2 (machL x u).toArray) := by
  have h1 := h.n0
  have h2 := h.n1
  have h3 := h.n2
  have := MRow.setRow (m := x) h.r1.len h.r2 u []
  rw [List.append_nil] at this
  exact ⟨this, u, rfl, own_base (h.mem.rowOther h.n2 _) (by omega), h.gr.setRow (by omega) _⟩
set_option maxRecDepth 100000 in
set_option maxHeartbeats 8000000 in
theorem rRun_ok {w : World} {m : Mach} {mv : Value} (hv : BytesAt w mv m.mem) (hw : Rv.WfM m) (most : Nat) (h0 : m.regs.getD 0 0 = 0) (hlen : m.mem.length ≤ 32768) (h2 : most ≤ 200000) (h9 : m.fin = 0) :
    Calls Tryd.prog 28 #[.agg (machL m mv).toArray, .int .i64 most] w (RunRet w (Rv.late (Rv.runS most m).1) (Rv.runS most m).2 0) := by
  obtain ⟨A, c, hmv⟩ : ∃ A c, mv = .slice A m.mem.length c := by
    obtain ⟨-, A, c, e, -⟩ := hv
    exact ⟨A, c, e⟩
  subst hmv
  obtain ⟨W, W1, hW, hW1, HR, HZ, HG, HZS⟩ := step_front (w := w) (mv := .slice A m.mem.length c) hw
  rw [zeroM_eq] at hW1
  have HAS := Lib.hid (asked_at hv hw 0 (by rw [if_neg (by omega)]))
  have HWI := Lib.hid (within_yes (most := most) (by omega))
  have HK : Hid (∀ w1, Gr W1 w1 → w1.cell? ⟨w.heap.size, 35, none⟩ = some (.int .i64 0) ∧ w1.cell? ⟨w.heap.size, 34, none⟩ = some (.slice A m.mem.length c) ∧ w1.frozen? ⟨w.heap.size, 34, none⟩ = false) := fun w1 g => ⟨by rw [← h9]; exact (HR.out.gr g).fin, (HR.out.gr g).mem, (HR.out.gr g).frozen 34⟩
  have HV := Lib.hid hv
  have HW := Lib.hid hw
  have H0 := Lib.hid h0
  have HL := Lib.hid hlen
  have HF0 := Lib.hid h9
  have hmI : (most : Int) ≤ 200000 := by omega
  clear hv hw h0 h9 hlen
  go_enter Tryd.func28, Tryd.ntmps28
  go_wp2_with (first
    | (refine wpList_loadM2 rfl (.tmp 2) rfl w.heap.size (by simp [Act.eval]) HR.out ?_)
    | (go_at_call 53; refine (HAS.out _).mono ?_; rintro _ w2 ⟨rfl, g2⟩; have k2 := HK.out _ g2; obtain ⟨k35, k34, f34⟩ := k2; have a34 : ∀ o, (w2.alloc o).cell? ⟨w.heap.size, 34, none⟩ = some (.slice A m.mem.length c) := fun o => (HK.out _ (g2.alloc o)).2.1; have HG2 := Lib.hid g2; clear g2)
    | (go_at_call 40; refine (HWI.out _).mono ?_; rintro _ _ ⟨rfl, rfl⟩)
    | (at_builtin; refine appB rfl _ _ rfl (by simp [Act.eval]) rfl (HV.out.gr (HG.out.trans HG2.out)) (by have := HL.out; omega) ?_; intro A' c' w3 hown hg; obtain ⟨j35, j34, e34⟩ := HK.out _ (HG2.out.trans hg); obtain ⟨W4, hW4⟩ : ∃ W4, w3.setCell ⟨w.heap.size, 34, none⟩ (.slice A' m.mem.length c') = W4 := ⟨_, rfl⟩; have HRO : Hid (RO w W4 w.heap.size W.heap.size w2.heap.size m (.slice A' m.mem.length c')) := Lib.hid (by { have s2 := HG2.out.size; have s3 := hg.size; have s0 := HZS.out; rw [← hW4]; exact ⟨((HR.out.gr (HG2.out.trans hg))).setMem _, (Below.heap_setCell w3 ⟨w.heap.size, 34, none⟩ _ W.heap.size (fun e => by { have e' : W.heap.size = w.heap.size := e; omega })).trans (((HG2.out.trans hg).heap _ (by omega)).trans HZ.out), hown.setOther (fun e => by { have := (own_block_lt hown _ e).1; have e' : w2.heap.size ≤ w.heap.size := this; omega }) _, (HG.out.trans (HG2.out.trans hg)).setCell (p := ⟨w.heap.size, 34, none⟩) (Nat.le_refl _) _, Nat.le_refl _, by omega, by omega, by { have : w2.heap.size ≤ w3.heap.size := s3; simpa using this }⟩ }); clear hown hg k35 k34 f34 a34))
  generalize w2.heap.size = N at *
  generalize w.heap.size = B1 at *
  generalize W.heap.size = B2 at *
  generalize (Value.slice A' m.mem.length c') = u at *
  clear HK HV HR HZ HAS HG HG2 HZS hW hW1 hW4 j34 e34 j35
  go_loopw [8] (fun n wr => ∃ k : Nat, k ≤ most ∧ n = .int .i64 k ∧ Hid (∃ x, DL w wr B1 B2 N m most u k x)) (fun n wr => 2 * (most - (intOf n).toNat) + (wr.cell? ⟨B1, 35, none⟩).elim 0 (fun v => if intOf v = 0 then 1 else 0))
  case atStart => exact ⟨0, Nat.zero_le _, rfl, Lib.hid ⟨m, HRO.out, RunK.refl HW.out, by simp⟩⟩
  case round =>
    obtain ⟨k, hk, rfl, HI⟩ := hrel
    obtain ⟨x, hx⟩ := HI.out
    have HX := Lib.hid hx
    have k35 := hx.ro.r1.fin
    have f35 := hx.ro.r1.frozen 35
    by_cases hf : x.fin = 0
    · rw [hf] at k35
      have HF := Lib.hid hf
      clear hf hx
      by_cases hkm : k < most
      · have hkI : (k : Int) < (most : Int) := by omega
        cases hs : Rv.stepO x with
        | some x' =>
          have HS := Lib.hid hs
          have HT : Hid (Rv.stepM x = x') := by show _ = _; unfold Rv.stepM; rw [hs]
          have HXL : Hid (x'.regs.length = 32) := Lib.hid (HX.out.keep.step hs).wf.regs
          have c3 : (x'.fin != 3) = true := by
            have := Rv.stepO_fin hs
            have := HF.out
            simp only [bne_iff_ne, ne_eq]
            omega
          obtain ⟨fi, hfi⟩ : ∃ fi, x'.fin = fi := ⟨_, rfl⟩
          have HFI := Lib.hid hfi
          rw [hfi] at c3
          clear hs hfi
          go_wp2_with (first
            | (refine wpList_loadM2 rfl (.tmp 2) rfl B1 (by simp [Act.eval]) HX.out.ro.r1 ?_)
            | (go_at_call 54; refine (rstep_any HX.out.ro.mem HX.out.ro.nW HX.out.keep.wf (by rw [HX.out.keep.r0]; exact H0.out) (by rw [HX.out.keep.len]; exact HL.out)).mono ?_; rintro _ w5 ⟨rfl, ho5, hb5⟩; rw [HT.out] at ho5 ⊢; obtain ⟨hr5, hro5⟩ := HX.out.ro.step ho5 hb5 HXL.out; obtain ⟨W6, hW6⟩ : ∃ W6, w5.setRow B1 (machL x' u).toArray = W6 := ⟨_, rfl⟩; rw [hW6] at hro5; have HR5 := Lib.hid hr5; have HRO5 := Lib.hid hro5; have y35 := hro5.r1.fin; rw [HFI.out] at y35; clear hr5 hro5 ho5 hb5)
            | (refine wpList_store_row rfl 45 (.tmp 2) (.tmp 37) rfl B1 (machL x' u).toArray (by simp [Act.eval, Act.put]) (by simp [Act.eval, Act.put]) 45 (machL x u).toArray HR5.out (by rw [infoM]; simp [machL, HXL.out]) (by simp [machL, HX.out.ro.r1.len, HXL.out]) (machL_one x' HX.out.ro.mem.slice1) ?_; rw [hW6]))
          go_roundw
          case rel =>
            refine ⟨k + 1, by omega, by go_num, Lib.hid ⟨x', HRO5.out, HX.out.keep.step HS.out, ?_⟩⟩
            rw [HX.out.eq, show most - k = (most - (k + 1)) + 1 by omega, Rv.runS_some x x' HF.out HS.out]
            dsimp only
            rw [show k + 1 + (Rv.runS (most - (k + 1)) x').2 = k + ((Rv.runS (most - (k + 1)) x').2 + 1) by omega]
          case measure =>
            rw [k35, y35]
            have hb : ∀ d : Decidable (fi = 0), @ite Nat (fi = 0) d 1 0 ≤ 1 := by intro d; split <;> omega
            simp only [intOf, Option.elim, if_true]
            refine Nat.lt_of_le_of_lt (Nat.add_le_add_left (hb _) _) ?_
            omega
        | none =>
          have HS := Lib.hid hs
          have HT : Hid (Rv.stepM x = { x with fin := 3 }) := by show _ = _; unfold Rv.stepM; rw [hs]
          have HXL : Hid (({ x with fin := 3 } : Mach).regs.length = 32) := Lib.hid HX.out.keep.wf.regs
          clear hs
          go_wp2_with (first
            | (refine wpList_loadM2 rfl (.tmp 2) rfl B1 (by simp [Act.eval]) HX.out.ro.r1 ?_)
            | (go_at_call 54; refine (rstep_any HX.out.ro.mem HX.out.ro.nW HX.out.keep.wf (by rw [HX.out.keep.r0]; exact H0.out) (by rw [HX.out.keep.len]; exact HL.out)).mono ?_; rintro _ w5 ⟨rfl, ho5, hb5⟩; rw [HT.out] at ho5 ⊢; obtain ⟨hr5, hro5⟩ := HX.out.ro.step ho5 hb5 HXL.out; obtain ⟨W6, hW6⟩ : ∃ W6, w5.setRow B1 (machL { x with fin := 3 } u).toArray = W6 := ⟨_, rfl⟩; rw [hW6] at hro5; have HR5 := Lib.hid hr5; have HRO5 := Lib.hid hro5; have y35 := hro5.r1.fin; clear hr5 hro5 ho5 hb5)
            | (refine wpList_store_row rfl 45 (.tmp 2) (.tmp 37) rfl B1 (machL { x with fin := 3 } u).toArray (by simp [Act.eval, Act.put]) (by simp [Act.eval, Act.put]) 45 (machL x u).toArray HR5.out (by rw [infoM]; simp [machL, HXL.out]) (by simp [machL, HX.out.ro.r1.len, HXL.out]) (machL_one { x with fin := 3 } HX.out.ro.mem.slice1) ?_; rw [hW6]))
          go_roundw
          case rel =>
            refine ⟨k, by omega, rfl, Lib.hid ⟨{ x with fin := 3 }, HRO5.out, HX.out.keep.fin 3, ?_⟩⟩
            rw [HX.out.eq, show most - k = (most - k - 1) + 1 by omega, Rv.runS_none x HF.out HS.out, Rv.runS_fin { x with fin := 3 } (by show (3 : Int) ≠ 0; decide)]
          case measure =>
            rw [k35, y35]
            simp [intOf]
      · have hkk : k = most := by omega
        subst hkk
        have hrr : Rv.runS k m = (x, k) := by
          have h := HX.out.eq
          rw [Nat.sub_self] at h
          exact h
        have HRR := Lib.hid hrr
        clear hrr
        obtain ⟨W5, hW5⟩ : ∃ W5, wr.setCell ⟨B1, 35, none⟩ (.int .i64 4) = W5 := ⟨_, rfl⟩
        have hro4 := HX.out.ro.fin 4
        rw [hW5] at hro4
        have HRO4 := Lib.hid hro4
        clear hro4
        go_wp2_with (first
          | (refine wpList_loadM2 rfl (.tmp 2) rfl B1 (by simp [Act.eval]) (RO.r1 HRO4.out) ?_)
          | (refine wpList_store_row rfl 45 (.tmp 4) (.tmp 47) rfl B2 (machL { x with fin := 4 } u).toArray (by simp [Act.eval, Act.put]) (by simp [Act.eval, Act.put]) 45 (machL Mach.zero (.slice none 0 0)).toArray (RO.r2 HRO4.out) (by rw [infoM]; simp [machL, HX.out.ro.r1.len]) (by simp [machL, Mach.zero, HX.out.ro.r1.len]) (machL_one { x with fin := 4 } HX.out.ro.mem.slice1) ?_))
        obtain ⟨q1, q2⟩ := RO.done HRO4.out k
        refine bodyPost_ret (results_run rfl _ _ B2 45 { x with fin := 4 } u (by simp [Act.put]) q1) rfl ?_
        have e1 : Rv.late (Rv.runS k m).1 = { x with fin := 4 } := by rw [HRR.out]; unfold Rv.late; rw [if_pos HF.out]
        have e2 : (Rv.runS k m).2 = k := by rw [HRR.out]
        rw [e1, e2]
        exact q2
    · have hrr := hx.eq
      rw [Rv.runS_fin x hf] at hrr
      have HRR := Lib.hid hrr
      clear hrr hx
      have HF := Lib.hid hf
      obtain ⟨fi, hfi⟩ : ∃ fi, x.fin = fi := ⟨_, rfl⟩
      rw [hfi] at k35
      have cf : (fi == 0) = false := by rw [← hfi]; simpa using hf
      clear hf hfi
      by_cases hkm : k < most
      · have hkI : (k : Int) < (most : Int) := by omega
        go_wp2_with (first
          | (refine wpList_loadM2 rfl (.tmp 2) rfl B1 (by simp [Act.eval]) (RO.r1 HX.out.ro) ?_)
          | (refine wpList_store_row rfl 45 (.tmp 4) (.tmp 47) rfl B2 (machL x u).toArray (by simp [Act.eval, Act.put]) (by simp [Act.eval, Act.put]) 45 (machL Mach.zero (.slice none 0 0)).toArray (RO.r2 HX.out.ro) (by rw [infoM]; simp [machL, HX.out.ro.r1.len]) (by simp [machL, Mach.zero, HX.out.ro.r1.len]) (machL_one x HX.out.ro.mem.slice1) ?_))
        obtain ⟨q1, q2⟩ := RO.done HX.out.ro k
        refine bodyPost_ret (results_run rfl _ _ B2 45 x u (by simp [Act.put]) q1) rfl ?_
        have e1 : Rv.late (Rv.runS most m).1 = x := by rw [HRR.out]; unfold Rv.late; rw [if_neg HF.out]
        have e2 : (Rv.runS most m).2 = k := by rw [HRR.out]; rfl
        rw [e1, e2]
        exact q2
      · have hkI : (most : Int) ≤ (k : Int) := by omega
        go_wp2_with (first
          | (refine wpList_loadM2 rfl (.tmp 2) rfl B1 (by simp [Act.eval]) (RO.r1 HX.out.ro) ?_)
          | (refine wpList_store_row rfl 45 (.tmp 4) (.tmp 47) rfl B2 (machL x u).toArray (by simp [Act.eval, Act.put]) (by simp [Act.eval, Act.put]) 45 (machL Mach.zero (.slice none 0 0)).toArray (RO.r2 HX.out.ro) (by rw [infoM]; simp [machL, HX.out.ro.r1.len]) (by simp [machL, Mach.zero, HX.out.ro.r1.len]) (machL_one x HX.out.ro.mem.slice1) ?_))
        obtain ⟨q1, q2⟩ := RO.done HX.out.ro k
        refine bodyPost_ret (results_run rfl _ _ B2 45 x u (by simp [Act.put]) q1) rfl ?_
        have e1 : Rv.late (Rv.runS most m).1 = x := by rw [HRR.out]; unfold Rv.late; rw [if_neg HF.out]
        have e2 : (Rv.runS most m).2 = k := by rw [HRR.out]; rfl
        rw [e1, e2]
        exact q2
theorem rRun_any {w : World} {m : Mach} {mv : Value} (hv : BytesAt w mv m.mem) (hw : Rv.WfM m) (most : Int) :
    Calls Tryd.prog 28 #[.agg (machL m mv).toArray, .int .i64 most] w (RunRet w (Rv.runM m most) (Rv.runN m most) (Rv.errM m most)) := by
  unfold Rv.runM Rv.runN
  by_cases h1 : 32768 < m.mem.length ∨ m.regs.getD 0 0 ≠ 0
  · have e : Rv.errM m most = 1 := by unfold Rv.errM; rw [if_pos (by omega)]
    rw [e, if_neg (by decide), if_neg (by decide)]
    exact rRun_err1 hv hw most h1
  · by_cases h2 : 0 ≤ most ∧ most ≤ 200000
    · by_cases h9 : m.fin = 0
      · have e : Rv.errM m most = 0 := by unfold Rv.errM; rw [if_neg (by omega), if_neg (by omega)]
        rw [e, if_pos rfl, if_pos rfl]
        obtain ⟨p, rfl⟩ := Int.eq_ofNat_of_zero_le h2.1
        exact rRun_ok hv hw p (by omega) (by omega) (by omega) h9
      · have e : Rv.errM m most = 9 := by unfold Rv.errM; rw [if_neg (by omega), if_pos h9]
        rw [e, if_neg (by decide), if_neg (by decide)]
        exact rRun_err9 hv hw most h1 h2 h9
    · have e : Rv.errM m most = 1 := by unfold Rv.errM; rw [if_pos (by omega)]
      rw [e, if_neg (by decide), if_neg (by decide)]
      exact rRun_err2 hv hw most h1 h2
end Go.Proofs.YthiaaagoccpkcaaDoor

namespace Go.Proofs.YthiaaagoccpkcaaDoor
set_option linter.unusedSimpArgs false
set_option linter.unusedVariables false
open Go.RowKit

set_option maxRecDepth 100000 in
set_option maxHeartbeats 8000000 in
theorem rvRuns_long (m : Mach) (mv : Value) (most first : Int) (w : World) (hv : BytesAt w mv m.mem) (hw : Rv.WfM m) (ht : Tabs w) (hlong : 4000 < m.mem.length ∧ m.mem.length ≤ 32768 ∨ 300 < most ∧ most ≤ 200000) :
    Calls Tryd.prog 9 #[.agg (machL m mv).toArray, .int .i64 most, .int .i64 first] w fun e w' => e = .returned (.bool true) ∧ Gr w w' := by
  have HKN : Hid (∀ w1, Gr w w1 → Calls Tryd.prog 17 #[] w1 fun e w' => e = .returned (.bool true) ∧ Gr w1 w') := fun w1 g => known_any w1 (ht.gr g)
  obtain ⟨W, hW⟩ : ∃ W, w.alloc (.cells (machL m mv).toArray 45) = W := ⟨_, rfl⟩
  have hr : MRow W w.heap.size 45 m mv [] := by rw [← hW]; exact MRow.new0 hw.regs w _ mv
  have HG : Hid (Gr w W) := by rw [← hW]; exact (Gr.refl w).alloc _
  have k34 := hr.mem
  obtain ⟨A, c, hmv⟩ : ∃ A c, mv = .slice A m.mem.length c := by
    obtain ⟨-, A, c, e, -⟩ := hv
    exact ⟨A, c, e⟩
  rw [hmv] at k34
  generalize m.mem.length = l at *
  obtain ⟨b1, e1⟩ : ∃ b, decide ((4000 : Int) < (l : Int)) = b := ⟨_, rfl⟩
  obtain ⟨b2, e2⟩ : ∃ b, decide ((l : Int) ≤ 32768) = b := ⟨_, rfl⟩
  obtain ⟨b3, e3⟩ : ∃ b, decide ((300 : Int) < most) = b := ⟨_, rfl⟩
  obtain ⟨b4, e4⟩ : ∃ b, decide (most ≤ (200000 : Int)) = b := ⟨_, rfl⟩
  have hb : (b1 && b2 || b3 && b4) = true := by
    rw [← e1, ← e2, ← e3, ← e4]
    simp only [Bool.or_eq_true, Bool.and_eq_true, decide_eq_true_iff]
    omega
  clear hmv hr hv hw ht hlong
  cases b1 <;> cases b2 <;> cases b3 <;> cases b4 <;> first | (exact absurd hb (by decide)) | skip
  all_goals
    clear hb
    go_enter Tryd.func9, Tryd.ntmps9
    go_wp2_with (go_at_call 17; refine (HKN.out _ HG.out).mono ?_; rintro e w1 ⟨rfl, g1⟩)
    go_ret
    exact ⟨rfl, HG.out.trans g1⟩
theorem run_facts {m : Mach} (hw : Rv.WfM m) (most : Int) (ma : Mach) (h : Rv.runM m most = ma) : ma.regs.length = 32 ∧ Rv.isBytes ma.mem ∧ ma.mem.length ≤ 32768 := by
  subst h
  unfold Rv.runM
  by_cases he : Rv.errM m most = 0
  · rw [if_pos he]
    have hl : m.mem.length ≤ 32768 := by
      unfold Rv.errM at he
      split at he
      · cases he
      · omega
    have k := ((RunK.refl hw).run most.toNat).late
    exact ⟨k.wf.regs, k.wf.mem, by rw [k.len]; exact hl⟩
  · rw [if_neg he]
    exact ⟨rfl, ⟨(fun z hz => by cases hz), by show (0 : Nat) ≤ 32768; omega⟩⟩
end Go.Proofs.YthiaaagoccpkcaaDoor

namespace Go.Proofs.YthiaaagoccpkcaaDoor
set_option linter.unusedSimpArgs false
set_option linter.unusedVariables false
open Go.RowKit

set_option maxRecDepth 100000 in
set_option maxHeartbeats 8000000 in
theorem rvRuns_err (m : Mach) (mv : Value) (most first : Int) (w : World) (hv : BytesAt w mv m.mem) (hw : Rv.WfM m) (ht : Tabs w) (hlong : ¬ (4000 < m.mem.length ∧ m.mem.length ≤ 32768 ∨ 300 < most ∧ most ≤ 200000)) (he : Rv.errM m most ≠ 0) :
    Calls Tryd.prog 9 #[.agg (machL m mv).toArray, .int .i64 most, .int .i64 first] w fun e w' => e = .returned (.bool true) ∧ Gr w w' := by
  have HKN : Hid (∀ w1, Gr w w1 → Calls Tryd.prog 17 #[] w1 fun e w' => e = .returned (.bool true) ∧ Gr w1 w') := fun w1 g => known_any w1 (ht.gr g)
  obtain ⟨W, hW⟩ : ∃ W, w.alloc (.cells (machL m mv).toArray 45) = W := ⟨_, rfl⟩
  have hr : MRow W w.heap.size 45 m mv [] := by rw [← hW]; exact MRow.new0 hw.regs w _ mv
  have HR := Lib.hid hr
  have HG : Hid (Gr w W) := by rw [← hW]; exact (Gr.refl w).alloc _
  have HV := Lib.hid hv
  have HW := Lib.hid hw
  obtain ⟨ma, hma⟩ : ∃ ma, Rv.runM m most = ma := ⟨_, rfl⟩
  obtain ⟨na, hna⟩ : ∃ n, Rv.runN m most = n := ⟨_, rfl⟩
  obtain ⟨f1, f2, f3⟩ := run_facts hw most ma hma
  have HF1 := Lib.hid f1
  have HF2 := Lib.hid f2
  have HF3 := Lib.hid f3
  have HMA := Lib.hid hma
  have HNA := Lib.hid hna
  obtain ⟨er, her⟩ : ∃ er, Rv.errM m most = er := ⟨_, rfl⟩
  have HER := Lib.hid her
  rw [her] at he
  have c9 : (er != 0) = true := by simpa using he
  have HP1 : Hid (∀ w1, Gr w w1 → Calls Tryd.prog 27 #[.agg (machL m mv).toArray, .int .i64 most] w1 (RunRet w1 ma na er)) := fun w1 g => by
    have := pRun_any (hv.gr g) hw most
    rw [hma, hna, HER.out] at this
    exact this
  have HP2 : Hid (∀ w1, Gr w w1 → Calls Tryd.prog 28 #[.agg (machL m mv).toArray, .int .i64 most] w1 (RunRet w1 ma na er)) := fun w1 g => by
    have := rRun_any (hv.gr g) hw most
    rw [hma, hna, HER.out] at this
    exact this
  have k34 := hr.mem
  obtain ⟨A, c, hmv⟩ : ∃ A c, mv = .slice A m.mem.length c := by
    obtain ⟨-, A, c, e, -⟩ := hv
    exact ⟨A, c, e⟩
  rw [hmv] at k34
  obtain ⟨l, hl⟩ : ∃ l, m.mem.length = l := ⟨_, rfl⟩
  rw [hl] at k34 hlong
  obtain ⟨b1, e1⟩ : ∃ b, decide ((4000 : Int) < (l : Int)) = b := ⟨_, rfl⟩
  obtain ⟨b2, e2⟩ : ∃ b, decide ((l : Int) ≤ 32768) = b := ⟨_, rfl⟩
  obtain ⟨b3, e3⟩ : ∃ b, decide ((300 : Int) < most) = b := ⟨_, rfl⟩
  obtain ⟨b4, e4⟩ : ∃ b, decide (most ≤ (200000 : Int)) = b := ⟨_, rfl⟩
  have hb : (b1 && b2 || b3 && b4) = false := by
    rw [← e1, ← e2, ← e3, ← e4]
    rw [Bool.eq_false_iff]
    simp only [ne_eq, Bool.or_eq_true, Bool.and_eq_true, decide_eq_true_iff]
    omega
  clear hma hna f1 f2 f3 he her hmv hl hr hv hw ht hlong
  cases b1 <;> cases b2 <;> cases b3 <;> cases b4 <;> first | (exact absurd hb (by decide)) | skip
  all_goals
    clear hb
    have tok1 : True := trivial
    have tok2 : True := trivial
    go_enter Tryd.func9, Tryd.ntmps9
    go_wp2_with (first
      | (refine wpList_loadM2 rfl (.tmp 3) rfl w.heap.size (by simp [Act.eval]) HR.out ?_)
      | (go_at_call 27; have _t := tok1; refine (HP1.out _ HG.out).mono ?_; rintro e w6 ⟨u1, rfl, ho6, g6⟩; clear _t tok1; have HO6 := Lib.hid ho6; have HG6 := Lib.hid g6; clear ho6 g6; obtain ⟨W7, W8, hW7, hW8, HZ7, HR8, HG8, HS8⟩ := newRow w6 HF1.out u1)
      | (refine wpList_store_row rfl 45 (.tmp 7) (.tmp 42) rfl w6.heap.size (machL ma u1).toArray (by simp [Act.eval, Act.put]) (by simp [Act.eval, Act.put]) 45 (machL Mach.zero (.slice none 0 0)).toArray HZ7.out (by rw [infoM]; simp [machL, HF1.out]) (by simp [machL, Mach.zero, HF1.out]) (machL_one ma HO6.out.slice1) ?_; rw [hW8])
      | (refine wpList_loadM2 rfl (.tmp 3) rfl w.heap.size (by simp [Act.eval]) (HR.out.gr (HG6.out.trans HG8.out)) ?_)
      | (go_at_call 28; refine (HP2.out _ (HG.out.trans (HG6.out.trans HG8.out))).mono ?_; rintro e w9 ⟨u2, rfl, ho9, g9⟩; have HO9 := Lib.hid ho9; have HG9 := Lib.hid g9; clear ho9 g9; obtain ⟨W10, W11, hW10, hW11, HZ10, HR11, HG11, HS11⟩ := newRow w9 HF1.out u2)
      | (refine wpList_store_row rfl 45 (.tmp 10) (.tmp 49) rfl w9.heap.size (machL ma u2).toArray (by simp [Act.eval, Act.put]) (by simp [Act.eval, Act.put]) 45 (machL Mach.zero (.slice none 0 0)).toArray HZ10.out (by rw [infoM]; simp [machL, HF1.out]) (by simp [machL, Mach.zero, HF1.out]) (machL_one ma HO9.out.slice1) ?_; rw [hW11])
      | (refine wpList_loadM2 rfl (.tmp 7) rfl w6.heap.size (by simp [Act.eval]) (HR8.out.gr (HG9.out.trans HG11.out)) ?_)
      | (refine wpList_loadM2 rfl (.tmp 10) rfl w9.heap.size (by simp [Act.eval, Act.put]) HR11.out ?_)
      | (go_at_call 26; have _t := tok2; refine (same_eq HF1.out (own_bytes (HO6.out.gr (HG8.out.trans (HG9.out.trans HG11.out))) HF2.out (by have := HF3.out; omega)) (own_bytes (HO9.out.gr HG11.out) HF2.out (by have := HF3.out; omega))).mono ?_; rintro e w12 ⟨rfl, g12⟩; have HG12 := Lib.hid g12; clear g12 _t tok2)
      | (go_at_call 17; refine (HKN.out _ (HG.out.trans (HG6.out.trans (HG8.out.trans (HG9.out.trans (HG11.out.trans HG12.out)))))).mono ?_; rintro e w1 ⟨rfl, g1⟩))
    go_ret
    exact ⟨rfl, (HG.out.trans (HG6.out.trans (HG8.out.trans (HG9.out.trans (HG11.out.trans HG12.out))))).trans g1⟩
end Go.Proofs.YthiaaagoccpkcaaDoor

namespace Go.Proofs.YthiaaagoccpkcaaDoor
set_option linter.unusedSimpArgs false
set_option linter.unusedVariables false
open Go.RowKit

theorem first_in (first most : Int) (h0 : 0 ≤ most) (h1 : most ≤ 200000) (p : Nat) (h : wrap64 ((IntKind.u64.wrap first).tmod (most + 1)) = p) : 0 ≤ (p : Int) ∧ (p : Int) ≤ most := by
  have e1 : 0 ≤ IntKind.u64.wrap first := by
    have : IntKind.u64.wrap first = first % 18446744073709551616 := rfl
    omega
  have e2 : (IntKind.u64.wrap first).tmod (most + 1) = IntKind.u64.wrap first % (most + 1) := Int.tmod_eq_emod_of_nonneg e1
  rw [e2] at h
  have e3 : 0 ≤ IntKind.u64.wrap first % (most + 1) := Int.emod_nonneg _ (by omega)
  have e4 : IntKind.u64.wrap first % (most + 1) < most + 1 := Int.emod_lt_of_pos _ (by omega)
  generalize IntKind.u64.wrap first % (most + 1) = z at *
  have e5 : wrap64 z = z := IntWalk.wrap64_in z (by omega)
  omega
theorem first_ex (first most : Int) (h0 : 0 ≤ most) (h1 : most ≤ 200000) : ∃ p : Nat, wrap64 ((IntKind.u64.wrap first).tmod (most + 1)) = p := by
  have e1 : 0 ≤ IntKind.u64.wrap first := by
    have : IntKind.u64.wrap first = first % 18446744073709551616 := rfl
    omega
  have e2 : (IntKind.u64.wrap first).tmod (most + 1) = IntKind.u64.wrap first % (most + 1) := Int.tmod_eq_emod_of_nonneg e1
  rw [e2]
  have e3 : 0 ≤ IntKind.u64.wrap first % (most + 1) := Int.emod_nonneg _ (by omega)
  have e4 : IntKind.u64.wrap first % (most + 1) < most + 1 := Int.emod_lt_of_pos _ (by omega)
  generalize IntKind.u64.wrap first % (most + 1) = z at *
  have e5 : wrap64 z = z := IntWalk.wrap64_in z (by omega)
  exact ⟨z.toNat, by omega⟩
theorem errM_less {m : Mach} {most p : Int} (hm0 : 0 ≤ most) (hp : p ≤ most) (h0 : 0 ≤ p) (he : Rv.errM m most = 0) : Rv.errM m p = 0 := by
  unfold Rv.errM at he ⊢
  split at he
  · cases he
  · split at he
    · cases he
    · rw [if_neg (by omega), if_neg (by omega)]
/-- The plain law, at the numbers of RvRuns. -/
theorem run_split {m : Mach} {most : Int} {p : Nat} (hm0 : 0 ≤ most) (hm1 : most ≤ 200000) (he : Rv.errM m most = 0) (h9 : m.fin = 0) (hp : (p : Int) ≤ most) :
    ((Rv.late (Rv.runS p m).1).fin ≠ 4 → Rv.late (Rv.runS p m).1 = Rv.runM m most ∧ (Rv.runS p m).2 = Rv.runN m most) ∧
    ((Rv.late (Rv.runS p m).1).fin = 4 → { Rv.late (Rv.runS p m).1 with fin := 0 } = (Rv.runS p m).1 ∧ (Rv.runS p m).1.fin = 0 ∧ Rv.errM (Rv.runS p m).1 (most - p) = Rv.errM (Rv.runS p m).1 0 ∧
      Rv.late (Rv.runS (most - p).toNat (Rv.runS p m).1).1 = Rv.runM m most ∧ (Rv.runS p m).2 + (Rv.runS (most - p).toNat (Rv.runS p m).1).2 = Rv.runN m most) := by
  have h := Rv.runs_law m h9 p (most - p).toNat
  have e : p + (most - p).toNat = most.toNat := by omega
  rw [e] at h
  unfold Rv.runM Rv.runN
  rw [if_pos he, if_pos he]
  refine ⟨h.1, fun h4 => ?_⟩
  obtain ⟨a, b, c, d⟩ := h.2 h4
  refine ⟨a, b, ?_, c, d⟩
  unfold Rv.errM
  have : (32768 < (Rv.runS p m).1.mem.length ∨ (Rv.runS p m).1.regs.getD 0 0 ≠ 0 ∨ most - (p : Int) < 0 ∨ 200000 < most - (p : Int)) ↔ (32768 < (Rv.runS p m).1.mem.length ∨ (Rv.runS p m).1.regs.getD 0 0 ≠ 0 ∨ (0 : Int) < 0 ∨ (200000 : Int) < 0) := by omega
  simp only [this]
set_option maxRecDepth 100000 in
set_option maxHeartbeats 8000000 in
theorem rvRuns_end (m : Mach) (mv : Value) (most first : Int) (w : World) (hv : BytesAt w mv m.mem) (hw : Rv.WfM m) (ht : Tabs w) (hlong : ¬ (4000 < m.mem.length ∧ m.mem.length ≤ 32768 ∨ 300 < most ∧ most ≤ 200000)) (he : Rv.errM m most = 0) (p : Nat) (hF : wrap64 ((IntKind.u64.wrap first).tmod (most + 1)) = p) (h4 : (Rv.late (Rv.runS p m).1).fin ≠ 4) :
    Calls Tryd.prog 9 #[.agg (machL m mv).toArray, .int .i64 most, .int .i64 first] w fun e w' => e = .returned (.bool true) ∧ Gr w w' := by
  have HKN : Hid (∀ w1, Gr w w1 → Calls Tryd.prog 17 #[] w1 fun e w' => e = .returned (.bool true) ∧ Gr w1 w') := fun w1 g => known_any w1 (ht.gr g)
  obtain ⟨W, hW⟩ : ∃ W, w.alloc (.cells (machL m mv).toArray 45) = W := ⟨_, rfl⟩
  have hr : MRow W w.heap.size 45 m mv [] := by rw [← hW]; exact MRow.new0 hw.regs w _ mv
  have HR := Lib.hid hr
  have HG : Hid (Gr w W) := by rw [← hW]; exact (Gr.refl w).alloc _
  have HV := Lib.hid hv
  have HW := Lib.hid hw
  obtain ⟨ma, hma⟩ : ∃ ma, Rv.runM m most = ma := ⟨_, rfl⟩
  obtain ⟨na, hna⟩ : ∃ n, Rv.runN m most = n := ⟨_, rfl⟩
  obtain ⟨f1, f2, f3⟩ := run_facts hw most ma hma
  have HF1 := Lib.hid f1
  have HF2 := Lib.hid f2
  have HF3 := Lib.hid f3
  have HMA := Lib.hid hma
  have HNA := Lib.hid hna
  have HER := Lib.hid he
  obtain ⟨hm0, hm1, hl0, h9⟩ : 0 ≤ most ∧ most ≤ 200000 ∧ m.mem.length ≤ 32768 ∧ m.fin = 0 := by
    unfold Rv.errM at he
    split at he
    · cases he
    · split at he
      · cases he
      · omega
  have HP1 : Hid (∀ w1, Gr w w1 → Calls Tryd.prog 27 #[.agg (machL m mv).toArray, .int .i64 most] w1 (RunRet w1 ma na 0)) := fun w1 g => by
    have := pRun_any (hv.gr g) hw most
    rw [hma, hna, HER.out] at this
    exact this
  have HP2 : Hid (∀ w1, Gr w w1 → Calls Tryd.prog 28 #[.agg (machL m mv).toArray, .int .i64 most] w1 (RunRet w1 ma na 0)) := fun w1 g => by
    have := rRun_any (hv.gr g) hw most
    rw [hma, hna, HER.out] at this
    exact this
  have k34 := hr.mem
  obtain ⟨A, c, hmv⟩ : ∃ A c, mv = .slice A m.mem.length c := by
    obtain ⟨-, A, c, e, -⟩ := hv
    exact ⟨A, c, e⟩
  rw [hmv] at k34
  obtain ⟨l, hl⟩ : ∃ l, m.mem.length = l := ⟨_, rfl⟩
  rw [hl] at k34 hlong
  have HL := Lib.hid hl
  have c1 : decide ((4000 : Int) < (l : Int)) = false := by rw [decide_eq_false_iff_not]; omega
  have c3 : decide ((300 : Int) < most) = false := by rw [decide_eq_false_iff_not]; omega
  have hm2 : most ≤ 300 := by omega
  have hpm : (p : Int) ≤ most := (first_in first most hm0 hm1 p hF).2
  have HP3 : Hid (∀ w1, Gr w w1 → Calls Tryd.prog 27 #[.agg (machL m mv).toArray, .int .i64 (p : Int)] w1 (RunRet w1 (Rv.late (Rv.runS p m).1) (Rv.runS p m).2 0)) := fun w1 g => by
    have e0 : Rv.errM m p = 0 := errM_less hm0 hpm (by omega) he
    have := pRun_ok (hv.gr g) hw p e0
    exact this
  have HQ := Lib.hid (run_split hm0 hm1 he h9 hpm)
  obtain ⟨r1, r2⟩ := HQ.out.1 h4
  rw [r1, r2, hma, hna] at HP3
  rw [r1, hma] at h4
  have HX1 := HF1
  obtain ⟨fi, hfi⟩ : ∃ fi, ma.fin = fi := ⟨_, rfl⟩
  have HX4 := Lib.hid hfi
  rw [hfi] at h4
  have c4 : (fi != 4) = true := by simpa using h4
  clear hma hna f1 f2 f3 he hmv hl hr hv hw ht hlong hl0 h9 h4 r1 r2 hfi HQ
  have tok1 : True := trivial
  have tok2 : True := trivial
  have tok3 : True := trivial
  go_enter Tryd.func9, Tryd.ntmps9
  go_wp2_with (first
    | (refine wpList_loadM2 rfl (.tmp 3) rfl w.heap.size (by simp [Act.eval]) HR.out ?_)
    | (go_at_call 27; have _t := tok1; refine (HP1.out _ HG.out).mono ?_; rintro e w6 ⟨u1, rfl, ho6, g6⟩; clear _t tok1; have HO6 := Lib.hid ho6; have HG6 := Lib.hid g6; clear ho6 g6; obtain ⟨W7, W8, hW7, hW8, HZ7, HR8, HG8, HS8⟩ := newRow w6 HF1.out u1)
    | (refine wpList_store_row rfl 45 (.tmp 7) (.tmp 42) rfl w6.heap.size (machL ma u1).toArray (by simp [Act.eval, Act.put]) (by simp [Act.eval, Act.put]) 45 (machL Mach.zero (.slice none 0 0)).toArray HZ7.out (by rw [infoM]; simp [machL, HF1.out]) (by simp [machL, Mach.zero, HF1.out]) (machL_one ma HO6.out.slice1) ?_; rw [hW8])
    | (refine wpList_loadM2 rfl (.tmp 3) rfl w.heap.size (by simp [Act.eval]) (HR.out.gr (HG6.out.trans HG8.out)) ?_)
    | (go_at_call 28; refine (HP2.out _ (HG.out.trans (HG6.out.trans HG8.out))).mono ?_; rintro e w9 ⟨u2, rfl, ho9, g9⟩; have HO9 := Lib.hid ho9; have HG9 := Lib.hid g9; clear ho9 g9; obtain ⟨W10, W11, hW10, hW11, HZ10, HR11, HG11, HS11⟩ := newRow w9 HF1.out u2)
    | (refine wpList_store_row rfl 45 (.tmp 10) (.tmp 49) rfl w9.heap.size (machL ma u2).toArray (by simp [Act.eval, Act.put]) (by simp [Act.eval, Act.put]) 45 (machL Mach.zero (.slice none 0 0)).toArray HZ10.out (by rw [infoM]; simp [machL, HF1.out]) (by simp [machL, Mach.zero, HF1.out]) (machL_one ma HO9.out.slice1) ?_; rw [hW11])
    | (refine wpList_loadM2 rfl (.tmp 7) rfl w6.heap.size (by simp [Act.eval]) (HR8.out.gr (HG9.out.trans HG11.out)) ?_)
    | (refine wpList_loadM2 rfl (.tmp 10) rfl w9.heap.size (by simp [Act.eval, Act.put]) HR11.out ?_)
    | (go_at_call 26; have _t := tok2; refine (same_eq HF1.out (own_bytes (HO6.out.gr (HG8.out.trans (HG9.out.trans HG11.out))) HF2.out (by have := HF3.out; omega)) (own_bytes (HO9.out.gr HG11.out) HF2.out (by have := HF3.out; omega))).mono ?_; rintro e w12 ⟨rfl, g12⟩; have HG12 := Lib.hid g12; clear g12 _t tok2)
    | (refine wpList_loadM2 rfl (.tmp 3) rfl w.heap.size (by simp [Act.eval]) (HR.out.gr (HG6.out.trans (HG8.out.trans (HG9.out.trans (HG11.out.trans HG12.out))))) ?_)
    | (go_at_call 27; have _t := tok3; refine (HP3.out _ (HG.out.trans (HG6.out.trans (HG8.out.trans (HG9.out.trans (HG11.out.trans HG12.out)))))).mono ?_; rintro e w13 ⟨u3, rfl, ho13, g13⟩; clear _t tok3; have HO13 := Lib.hid ho13; have HG13 := Lib.hid g13; clear ho13 g13; obtain ⟨W14, W15, hW14, hW15, HZ14, HR15, HG15, HS15⟩ := newRow w13 HX1.out u3; have k15 := HR15.out.fin; have f15 := HR15.out.frozen 35; rw [HX4.out] at k15)
    | (refine wpList_store_row rfl 45 (.tmp 13) (.tmp 80) rfl w13.heap.size (machL ma u3).toArray (by simp [Act.eval, Act.put]) (by simp [Act.eval, Act.put]) 45 (machL Mach.zero (.slice none 0 0)).toArray HZ14.out (by rw [infoM]; simp [machL, HX1.out]) (by simp [machL, Mach.zero, HX1.out]) (machL_one ma HO13.out.slice1) ?_; rw [hW15])
    | (refine wpList_loadM2 rfl (.tmp 13) rfl w13.heap.size (by simp [Act.eval]) HR15.out ?_)
    | (refine wpList_loadM2 rfl (.tmp 7) rfl w6.heap.size (by simp [Act.eval, Act.put]) (HR8.out.gr (HG9.out.trans (HG11.out.trans (HG12.out.trans (HG13.out.trans HG15.out))))) ?_)
    | (go_at_call 26; refine (same_eq HF1.out (own_bytes (HO13.out.gr HG15.out) HF2.out (by have := HF3.out; omega)) (own_bytes (HO6.out.gr (HG8.out.trans (HG9.out.trans (HG11.out.trans (HG12.out.trans (HG13.out.trans HG15.out)))))) HF2.out (by have := HF3.out; omega))).mono ?_; rintro e w16 ⟨rfl, g16⟩; have HG16 := Lib.hid g16; clear g16)
    | (go_at_call 17; refine (HKN.out _ ((HG.out.trans (HG6.out.trans (HG8.out.trans (HG9.out.trans (HG11.out.trans (HG12.out.trans (HG13.out.trans HG15.out))))))).trans HG16.out)).mono ?_; rintro e w17 ⟨rfl, g17⟩))
  go_ret
  exact ⟨rfl, ((HG.out.trans (HG6.out.trans (HG8.out.trans (HG9.out.trans (HG11.out.trans (HG12.out.trans (HG13.out.trans HG15.out))))))).trans HG16.out).trans g17⟩
set_option maxRecDepth 100000 in
set_option maxHeartbeats 8000000 in
theorem rvRuns_more (m : Mach) (mv : Value) (most first : Int) (w : World) (hv : BytesAt w mv m.mem) (hw : Rv.WfM m) (ht : Tabs w) (hlong : ¬ (4000 < m.mem.length ∧ m.mem.length ≤ 32768 ∨ 300 < most ∧ most ≤ 200000)) (he : Rv.errM m most = 0) (p : Nat) (hF : wrap64 ((IntKind.u64.wrap first).tmod (most + 1)) = p) (h4 : (Rv.late (Rv.runS p m).1).fin = 4) :
    Calls Tryd.prog 9 #[.agg (machL m mv).toArray, .int .i64 most, .int .i64 first] w fun e w' => e = .returned (.bool true) ∧ Gr w w' := by
  have HKN : Hid (∀ w1, Gr w w1 → Calls Tryd.prog 17 #[] w1 fun e w' => e = .returned (.bool true) ∧ Gr w1 w') := fun w1 g => known_any w1 (ht.gr g)
  obtain ⟨W, hW⟩ : ∃ W, w.alloc (.cells (machL m mv).toArray 45) = W := ⟨_, rfl⟩
  have hr : MRow W w.heap.size 45 m mv [] := by rw [← hW]; exact MRow.new0 hw.regs w _ mv
  have HR := Lib.hid hr
  have HG : Hid (Gr w W) := by rw [← hW]; exact (Gr.refl w).alloc _
  have HV := Lib.hid hv
  have HW := Lib.hid hw
  obtain ⟨ma, hma⟩ : ∃ ma, Rv.runM m most = ma := ⟨_, rfl⟩
  obtain ⟨na, hna⟩ : ∃ n, Rv.runN m most = n := ⟨_, rfl⟩
  obtain ⟨f1, f2, f3⟩ := run_facts hw most ma hma
  have HF1 := Lib.hid f1
  have HF2 := Lib.hid f2
  have HF3 := Lib.hid f3
  have HMA := Lib.hid hma
  have HNA := Lib.hid hna
  have HER := Lib.hid he
  obtain ⟨hm0, hm1, hl0, h9⟩ : 0 ≤ most ∧ most ≤ 200000 ∧ m.mem.length ≤ 32768 ∧ m.fin = 0 := by
    unfold Rv.errM at he
    split at he
    · cases he
    · split at he
      · cases he
      · omega
  have HP1 : Hid (∀ w1, Gr w w1 → Calls Tryd.prog 27 #[.agg (machL m mv).toArray, .int .i64 most] w1 (RunRet w1 ma na 0)) := fun w1 g => by
    have := pRun_any (hv.gr g) hw most
    rw [hma, hna, HER.out] at this
    exact this
  have HP2 : Hid (∀ w1, Gr w w1 → Calls Tryd.prog 28 #[.agg (machL m mv).toArray, .int .i64 most] w1 (RunRet w1 ma na 0)) := fun w1 g => by
    have := rRun_any (hv.gr g) hw most
    rw [hma, hna, HER.out] at this
    exact this
  have k34 := hr.mem
  obtain ⟨A, c, hmv⟩ : ∃ A c, mv = .slice A m.mem.length c := by
    obtain ⟨-, A, c, e, -⟩ := hv
    exact ⟨A, c, e⟩
  rw [hmv] at k34
  obtain ⟨l, hl⟩ : ∃ l, m.mem.length = l := ⟨_, rfl⟩
  rw [hl] at k34 hlong
  have HL := Lib.hid hl
  have c1 : decide ((4000 : Int) < (l : Int)) = false := by rw [decide_eq_false_iff_not]; omega
  have c3 : decide ((300 : Int) < most) = false := by rw [decide_eq_false_iff_not]; omega
  have hm2 : most ≤ 300 := by omega
  have hpm : (p : Int) ≤ most := (first_in first most hm0 hm1 p hF).2
  have HP3 : Hid (∀ w1, Gr w w1 → Calls Tryd.prog 27 #[.agg (machL m mv).toArray, .int .i64 (p : Int)] w1 (RunRet w1 (Rv.late (Rv.runS p m).1) (Rv.runS p m).2 0)) := fun w1 g => by
    have e0 : Rv.errM m p = 0 := errM_less hm0 hpm (by omega) he
    have := pRun_ok (hv.gr g) hw p e0
    exact this
  have HQ := Lib.hid (run_split hm0 hm1 he h9 hpm)
  obtain ⟨r1, r2, r3, r4, r5⟩ := HQ.out.2 h4
  have kx := (RunK.refl hw).run p
  have n3le := Rv.runS_le p m
  have n4le := Rv.runS_le (most - p).toNat (Rv.runS p m).1
  obtain ⟨x0, hx0⟩ : ∃ x, (Rv.runS p m).1 = x := ⟨_, rfl⟩
  obtain ⟨n3, hn3⟩ : ∃ n, (Rv.runS p m).2 = n := ⟨_, rfl⟩
  rw [hx0, hn3] at HP3
  rw [hx0] at r1 r2 r3 r4 r5 kx h4 n4le
  rw [hn3] at r5 n3le
  rw [hma] at r4
  rw [hna] at r5
  obtain ⟨x3, hx3⟩ : ∃ x, Rv.late x0 = x := ⟨_, rfl⟩
  rw [hx3] at HP3 h4 r1
  have HX1 : Hid (x3.regs.length = 32) := by rw [← hx3]; exact Lib.hid kx.late.wf.regs
  have HX4 := Lib.hid h4
  have HX0 := Lib.hid r1
  have HK := Lib.hid kx
  obtain ⟨n4, hn4⟩ : ∃ n, (Rv.runS (most - p).toNat x0).2 = n := ⟨_, rfl⟩
  rw [hn4] at r5 n4le
  have e00 : Rv.errM x0 0 = 0 := by
    have h1 := kx.len
    have h2 := kx.r0
    have he' := he
    unfold Rv.errM at he' ⊢
    split at he'
    · cases he'
    · rw [if_neg (by omega), if_neg (by omega)]
  have HP4 : Hid (∀ u w1, BytesAt w1 u x0.mem → Calls Tryd.prog 27 #[.agg (machL x0 u).toArray, .int .i64 (most - (p : Int))] w1 (RunRet w1 ma n4 0)) := fun u w1 h => by
    have := pRun_any h kx.wf (most - p)
    unfold Rv.runM Rv.runN at this
    rw [r3, e00, if_pos rfl, if_pos rfl, r4, hn4] at this
    exact this
  have n3I : (n3 : Int) ≤ 300 := by omega
  have n4I : (n4 : Int) ≤ 300 := by omega
  have c5 : ((n3 : Int) + (n4 : Int) == (na : Int)) = true := by rw [beq_iff_eq]; omega
  have HXB : Hid (Rv.isBytes x3.mem ∧ x3.mem.length ≤ 32768 ∧ x3.mem = x0.mem) := by
    have q1 := kx.late.wf.mem
    have q2 := kx.late.len
    rw [hx3] at q1 q2
    exact Lib.hid ⟨q1, by omega, by rw [← r1]⟩
  clear hma hna f1 f2 f3 he hmv hl hr hv hw ht hlong hl0 h9 h4 r1 r2 r3 r4 r5 hx0 hn3 hx3 hn4 e00 kx n3le n4le HQ
  have tok1 : True := trivial
  have tok2 : True := trivial
  have tok3 : True := trivial
  go_enter Tryd.func9, Tryd.ntmps9
  go_wp2_with (first
    | (refine wpList_loadM2 rfl (.tmp 3) rfl w.heap.size (by simp [Act.eval]) HR.out ?_)
    | (go_at_call 27; have _t := tok1; refine (HP1.out _ HG.out).mono ?_; rintro e w6 ⟨u1, rfl, ho6, g6⟩; clear _t tok1; have HO6 := Lib.hid ho6; have HG6 := Lib.hid g6; clear ho6 g6; obtain ⟨W7, W8, hW7, hW8, HZ7, HR8, HG8, HS8⟩ := newRow w6 HF1.out u1)
    | (refine wpList_store_row rfl 45 (.tmp 7) (.tmp 42) rfl w6.heap.size (machL ma u1).toArray (by simp [Act.eval, Act.put]) (by simp [Act.eval, Act.put]) 45 (machL Mach.zero (.slice none 0 0)).toArray HZ7.out (by rw [infoM]; simp [machL, HF1.out]) (by simp [machL, Mach.zero, HF1.out]) (machL_one ma HO6.out.slice1) ?_; rw [hW8])
    | (refine wpList_loadM2 rfl (.tmp 3) rfl w.heap.size (by simp [Act.eval]) (HR.out.gr (HG6.out.trans HG8.out)) ?_)
    | (go_at_call 28; refine (HP2.out _ (HG.out.trans (HG6.out.trans HG8.out))).mono ?_; rintro e w9 ⟨u2, rfl, ho9, g9⟩; have HO9 := Lib.hid ho9; have HG9 := Lib.hid g9; clear ho9 g9; obtain ⟨W10, W11, hW10, hW11, HZ10, HR11, HG11, HS11⟩ := newRow w9 HF1.out u2)
    | (refine wpList_store_row rfl 45 (.tmp 10) (.tmp 49) rfl w9.heap.size (machL ma u2).toArray (by simp [Act.eval, Act.put]) (by simp [Act.eval, Act.put]) 45 (machL Mach.zero (.slice none 0 0)).toArray HZ10.out (by rw [infoM]; simp [machL, HF1.out]) (by simp [machL, Mach.zero, HF1.out]) (machL_one ma HO9.out.slice1) ?_; rw [hW11])
    | (refine wpList_loadM2 rfl (.tmp 7) rfl w6.heap.size (by simp [Act.eval]) (HR8.out.gr (HG9.out.trans HG11.out)) ?_)
    | (refine wpList_loadM2 rfl (.tmp 10) rfl w9.heap.size (by simp [Act.eval, Act.put]) HR11.out ?_)
    | (go_at_call 26; have _t := tok2; refine (same_eq HF1.out (own_bytes (HO6.out.gr (HG8.out.trans (HG9.out.trans HG11.out))) HF2.out (by have := HF3.out; omega)) (own_bytes (HO9.out.gr HG11.out) HF2.out (by have := HF3.out; omega))).mono ?_; rintro e w12 ⟨rfl, g12⟩; have HG12 := Lib.hid g12; clear g12 _t tok2)
    | (refine wpList_loadM2 rfl (.tmp 3) rfl w.heap.size (by simp [Act.eval]) (HR.out.gr (HG6.out.trans (HG8.out.trans (HG9.out.trans (HG11.out.trans HG12.out))))) ?_)
    | (go_at_call 27; have _t := tok3; refine (HP3.out _ (HG.out.trans (HG6.out.trans (HG8.out.trans (HG9.out.trans (HG11.out.trans HG12.out)))))).mono ?_; rintro e w13 ⟨u3, rfl, ho13, g13⟩; clear _t tok3; have HO13 := Lib.hid ho13; have HG13 := Lib.hid g13; clear ho13 g13; obtain ⟨W14, W15, hW14, hW15, HZ14, HR15, HG15, HS15⟩ := newRow w13 HX1.out u3; have k15 := HR15.out.fin; have f15 := HR15.out.frozen 35; rw [HX4.out] at k15; obtain ⟨W16, hW16⟩ : ∃ W, W15.setCell ⟨w13.heap.size, 35, none⟩ (.int .i64 0) = W := ⟨_, rfl⟩; have HR16 : Hid (MRow W16 w13.heap.size 45 x0 u3 []) := Lib.hid (by { rw [← hW16, ← HX0.out]; exact HR15.out.setFin 0 }); have HG16 : Hid (Gr w13 W16) := Lib.hid (by { rw [← hW16]; exact HG15.out.setCell (p := ⟨w13.heap.size, 35, none⟩) (Nat.le_refl _) _ }); have HB16 : Hid (BytesAt W16 u3 x0.mem) := Lib.hid (by { rw [← HXB.out.2.2]; exact own_bytes (HO13.out.gr HG16.out) HXB.out.1 (by have := HXB.out.2.1; omega) }))
    | (refine wpList_store_row rfl 45 (.tmp 13) (.tmp 80) rfl w13.heap.size (machL x3 u3).toArray (by simp [Act.eval, Act.put]) (by simp [Act.eval, Act.put]) 45 (machL Mach.zero (.slice none 0 0)).toArray HZ14.out (by rw [infoM]; simp [machL, HX1.out]) (by simp [machL, Mach.zero, HX1.out]) (machL_one x3 HO13.out.slice1) ?_; rw [hW15])
    | (refine wpList_loadM2 rfl (.tmp 13) rfl w13.heap.size (by simp [Act.eval]) HR16.out ?_)
    | (go_at_call 27; refine (HP4.out _ _ HB16.out).mono ?_; rintro e w17 ⟨u4, rfl, ho17, g17⟩; have HO17 := Lib.hid ho17; have HG17 := Lib.hid g17; clear ho17 g17; obtain ⟨W18, W19, hW18, hW19, HZ18, HR19, HG19, HS19⟩ := newRow w17 HF1.out u4)
    | (refine wpList_store_row rfl 45 (.tmp 16) (.tmp 106) rfl w17.heap.size (machL ma u4).toArray (by simp [Act.eval, Act.put]) (by simp [Act.eval, Act.put]) 45 (machL Mach.zero (.slice none 0 0)).toArray HZ18.out (by rw [infoM]; simp [machL, HF1.out]) (by simp [machL, Mach.zero, HF1.out]) (machL_one ma HO17.out.slice1) ?_; rw [hW19])
    | (refine wpList_loadMg (by rfl) (.tmp 16) rfl w17.heap.size (by simp [Act.eval]) HR19.out ?_)
    | (refine wpList_loadMg (by rfl) (.tmp 7) rfl w6.heap.size (by simp [Act.eval, Act.put]) (HR8.out.gr (HG9.out.trans (HG11.out.trans (HG12.out.trans (HG13.out.trans (HG16.out.trans (HG17.out.trans HG19.out))))))) ?_)
    | (go_at_call 26; refine (same_eq HF1.out (own_bytes (HO17.out.gr HG19.out) HF2.out (by have := HF3.out; omega)) (own_bytes (HO6.out.gr (HG8.out.trans (HG9.out.trans (HG11.out.trans (HG12.out.trans (HG13.out.trans (HG16.out.trans (HG17.out.trans HG19.out)))))))) HF2.out (by have := HF3.out; omega))).mono ?_; rintro e w20 ⟨rfl, g20⟩; have HG20 := Lib.hid g20; clear g20)
    | (go_at_call 17; refine (HKN.out _ (HG.out.trans (HG6.out.trans (HG8.out.trans (HG9.out.trans (HG11.out.trans (HG12.out.trans (HG13.out.trans (HG16.out.trans (HG17.out.trans (HG19.out.trans HG20.out))))))))))).mono ?_; rintro e w21 ⟨rfl, g21⟩))
  go_ret
  exact ⟨rfl, (HG.out.trans (HG6.out.trans (HG8.out.trans (HG9.out.trans (HG11.out.trans (HG12.out.trans (HG13.out.trans (HG16.out.trans (HG17.out.trans (HG19.out.trans HG20.out)))))))))).trans g21⟩
theorem rvRuns_any (m : Mach) (mv : Value) (most : Int) (first : Int) (w : World) (hv : BytesAt w mv m.mem) (hw : Rv.WfM m) (ht : Tabs w) :
    Calls Tryd.prog 9 #[.agg (machL m mv).toArray, .int .i64 most, .int .i64 first] w fun e w' => e = .returned (.bool true) ∧ Gr w w' := by
  by_cases hlong : 4000 < m.mem.length ∧ m.mem.length ≤ 32768 ∨ 300 < most ∧ most ≤ 200000
  · exact rvRuns_long m mv most first w hv hw ht hlong
  · by_cases he : Rv.errM m most = 0
    · have hm : most ≤ 200000 := by
        unfold Rv.errM at he
        split at he
        · cases he
        · omega
      obtain ⟨p, hF⟩ := first_ex first most (errM_neg he) hm
      by_cases h4 : (Rv.late (Rv.runS p m).1).fin = 4
      · exact rvRuns_more m mv most first w hv hw ht hlong he p hF h4
      · exact rvRuns_end m mv most first w hv hw ht hlong he p hF h4
    · exact rvRuns_err m mv most first w hv hw ht hlong he
end Go.Proofs.YthiaaagoccpkcaaDoor

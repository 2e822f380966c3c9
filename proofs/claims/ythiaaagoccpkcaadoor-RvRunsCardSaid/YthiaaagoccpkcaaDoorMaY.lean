/- Same: equal machines are the same. -/
import Derived.Test.YthiaaagoccpkcaaDoorMaX
namespace Go.Proofs.YthiaaagoccpkcaaDoor
set_option linter.unusedSimpArgs false
set_option linter.unusedVariables false
open Go.RowKit

set_option maxRecDepth 100000 in
set_option maxHeartbeats 8000000 in
theorem same_eq {w : World} {m : Mach} {u v : Value} (hl : m.regs.length = 32) (hu : BytesAt w u m.mem) (hv : BytesAt w v m.mem) :
    Calls Tryd.prog 26 #[.agg (machL m u).toArray, .agg (machL m v).toArray] w fun e w' => e = .returned (.bool true) ∧ Gr w w' := by
  obtain ⟨W, hW⟩ : ∃ W, w.alloc (.cells (machL m u).toArray 45) = W := ⟨_, rfl⟩
  obtain ⟨W1, hW1⟩ : ∃ W1, W.alloc (.cells (machL m v).toArray 45) = W1 := ⟨_, rfl⟩
  have g0 : Gr w W := by rw [← hW]; exact (Gr.refl w).alloc _
  have g1 : Gr W W1 := by rw [← hW1]; exact (Gr.refl W).alloc _
  have hr : MRow W1 w.heap.size 45 m u [] := by
    have : MRow W w.heap.size 45 m u [] := by rw [← hW]; exact MRow.new0 hl w _ u
    exact this.gr g1
  have hs : MRow W1 W.heap.size 45 m v [] := by rw [← hW1]; exact MRow.new0 hl W _ v
  have HR := Lib.hid hr
  have HS := Lib.hid hs
  have HG := Lib.hid (g0.trans g1)
  obtain ⟨RG, hRG⟩ : ∃ RG, (m.regs.map (Value.int .u32)).toArray = RG := ⟨_, rfl⟩
  have HRG := Lib.hid hRG
  have cR : ∀ w : World, (binOp .eql 43 (.agg RG) (.agg RG)).run Tryd.prog w = .ok (.bool true) w := fun w => by
    rw [← hRG]; exact eqlR w m.regs hl
  have u1 := run_bytes (P := Tryd.prog) (hu.gr HG.out) Tryd.underlying35 Tryd.underlying5 Tryd.underlying9
  have u2 := run_bytes (P := Tryd.prog) (hv.gr HG.out) Tryd.underlying35 Tryd.underlying5 Tryd.underlying9
  obtain ⟨A, c, hA⟩ : ∃ A c, u = .slice A m.mem.length c := by
    obtain ⟨-, A, c, e, -⟩ := hu
    exact ⟨A, c, e⟩
  obtain ⟨A', c', hA'⟩ : ∃ A c, v = .slice A m.mem.length c := by
    obtain ⟨-, A, c, e, -⟩ := hv
    exact ⟨A, c, e⟩
  have k32 := hr.flags
  have k33 := hr.pc
  have k34 := hr.mem
  have k35 := hr.fin
  have j32 := hs.flags
  have j33 := hs.pc
  have j34 := hs.mem
  have j35 := hs.fin
  rw [hA] at k34 u1
  rw [hA'] at j34 u2
  generalize m.flags = fl at *
  generalize m.pc = pc at *
  generalize m.fin = fi at *
  generalize bytesB m.mem = s at *
  generalize m.mem.length = l at *
  clear hA hA' hu hv hl hr hs hRG g0 g1
  go_enter Tryd.func26, Tryd.ntmps26
  go_wp2_with (first
    | (refine wpList_loadRg (by rfl) (.tmp 5) rfl w.heap.size (by simp [Act.eval]) HR.out HRG.out ?_)
    | (refine wpList_loadRg (by rfl) (.tmp 7) rfl W.heap.size (by simp [Act.eval]) HS.out HRG.out ?_))
  go_ret
  exact ⟨rfl, HG.out⟩
end Go.Proofs.YthiaaagoccpkcaaDoor

/- RvParses. -/
import Derived.Test.YthiaaagoccpkcaaDoorPaL
import Derived.Test.YthiaaagoccpkcaaDoorRvU
namespace Go.Proofs.YthiaaagoccpkcaaDoor
set_option linter.unusedSimpArgs false
set_option linter.unusedVariables false
open Go.RowKit

set_option maxRecDepth 100000 in
set_option maxHeartbeats 8000000 in
theorem rvParses_any (s : ByteArray) (w : World) (ht : TabP w) : Calls Tryd.prog 10 #[.string s] w fun e w' => e = .returned (.bool true) ∧ Gr w w' := by
  have HKN : Hid (∀ w1, Gr w w1 → Calls Tryd.prog 17 #[] w1 fun e w' => e = .returned (.bool true) ∧ Gr w1 w') := fun w1 g => known_any w1 (ht.gr g).tabs
  by_cases hs : 300 < s.size
  · have c1 : decide ((300 : Int) < (s.size : Int)) = true := by rw [decide_eq_true_iff]; omega
    clear hs ht
    go_enter Tryd.func10, Tryd.ntmps10
    go_wp2_with (go_at_call 17; refine (HKN.out _ (Gr.refl w)).mono ?_; rintro e w5 ⟨rfl, g5⟩)
    go_ret
    exact ⟨rfl, g5⟩
  · have c1 : decide ((300 : Int) < (s.size : Int)) = false := by rw [decide_eq_false_iff_not]; omega
    have H1 : Hid (∀ w1, Gr w w1 → Calls Tryd.prog 29 #[.string s] w1 fun e w' => e = .returned (parseV (Pa.parse s)) ∧ Gr w1 w') := fun w1 g => pParse_any s (by omega) w1 (ht.gr g)
    have H2 : Hid (∀ w1, Gr w w1 → Calls Tryd.prog 30 #[.string s] w1 fun e w' => e = .returned (parseV (Pa.parse s)) ∧ Gr w1 w') := fun w1 g => rParse_any s (by omega) w1 (ht.gr g)
    unfold parseV at H1 H2
    generalize (if (Pa.parse s).isSome = true then (0 : Int) else 2) = er at *
    generalize (Pa.parse s).getD rv0 = x at *
    obtain ⟨op, d, a, b, imm⟩ := x
    unfold rvVal at H1 H2
    dsimp only at H1 H2
    have hs' : (s.size : Int) ≤ 300 := by omega
    clear ht hs
    go_enter Tryd.func10, Tryd.ntmps10
    go_wp2_with (first
      | (go_at_call 29; refine (H1.out _ (Gr.refl w)).mono ?_; rintro e w1 ⟨rfl, g1⟩; obtain ⟨W1, hW1, HGB, KP⟩ := box5 w1 op d a b imm; have G1 := Lib.hid (g1.trans HGB.out); clear g1)
      | (go_at_call 30; refine (H2.out _ G1.out).mono ?_; rintro e w2 ⟨rfl, g2⟩; have G2 := Lib.hid (G1.out.trans g2); obtain ⟨m0, m1, m2, m3, m4⟩ := KP.out (w2.alloc (.cells #[.int .i64 op, .int .i64 d, .int .i64 a, .int .i64 b, .int .i64 imm] 23)) (g2.alloc _); clear g2)
      | (go_at_call 17; refine (HKN.out _ (G2.out.alloc _)).mono ?_; rintro e w5 ⟨rfl, g5⟩))
    go_ret
    exact ⟨rfl, (G2.out.alloc _).trans g5⟩
end Go.Proofs.YthiaaagoccpkcaaDoor

/- The chapter's examples. -/
import Derived.Test.YthiaaagoccpkcaaDoorRvT
namespace Go.Proofs.YthiaaagoccpkcaaDoor
open Go.RowKit

theorem decDigits_one (u : Nat) (h : u < 10) : Lib.decDigits u = [UInt8.ofNat (48 + u)] := by
  unfold Lib.decDigits; rw [dif_pos h]
theorem itoaB_5 : itoaB 5 = ⟨#[53]⟩ := by
  unfold itoaB Lib.itoa
  rw [if_neg (by decide), show (5 : Int).toNat = 5 from rfl, decDigits_one 5 (by decide)]
  rfl
theorem itoaB_0 : itoaB 0 = ⟨#[48]⟩ := by
  unfold itoaB Lib.itoa
  rw [if_neg (by decide), show (0 : Int).toNat = 0 from rfl, decDigits_one 0 (by decide)]
  rfl
theorem itoaB_m1 : itoaB (-1) = ⟨#[45, 49]⟩ := by
  unfold itoaB Lib.itoa
  rw [if_pos (by decide), show (-1 : Int).natAbs = 1 from rfl, decDigits_one 1 (by decide)]
  rfl
theorem text_known : text4 ⟨15, 5, 0, 0, -1⟩ = ⟨#[97, 100, 100, 105, 32, 120, 53, 32, 120, 48, 32, 45, 49]⟩ := by
  unfold text4 text3 text2 text1 regB immB
  dsimp only
  rw [itoaB_5, itoaB_0, itoaB_m1]
  kernel_rfl
theorem decode_known : Rv.decode 4261584611 = some ⟨32, 0, 5, 0, -4⟩ := by kernel_rfl
set_option maxRecDepth 100000 in
set_option maxHeartbeats 4000000 in
theorem known_any (w : World) (ht : Tabs w) : Calls Tryd.prog 17 #[] w fun e w' => e = .returned (.bool true) ∧ Gr w w' := by
  have HE : Hid (∀ w1, Calls Tryd.prog 12 #[.agg #[.int .i64 15, .int .i64 5, .int .i64 0, .int .i64 0, .int .i64 (-1)]] w1 fun e w' => e = .returned (.tuple #[.int .u32 4293919379, .int .i64 0]) ∧ Gr w1 w') := fun w1 => pEncode_any ⟨15, 5, 0, 0, -1⟩ w1
  have HTX : Hid (∀ w1, Tabs w1 → Calls Tryd.prog 31 #[.agg #[.int .i64 15, .int .i64 5, .int .i64 0, .int .i64 0, .int .i64 (-1)]] w1 fun e w' => e = .returned (.tuple #[.string ⟨#[97, 100, 100, 105, 32, 120, 53, 32, 120, 48, 32, 45, 49]⟩, .int .i64 0]) ∧ Gr w1 w') := fun w1 h => by
    have q := pText_valid 15 5 0 0 (-1) (by decide) w1 h
    have e : text4 ⟨((15 : Nat) : Int), 5, 0, 0, -1⟩ = ⟨#[97, 100, 100, 105, 32, 120, 53, 32, 120, 48, 32, 45, 49]⟩ := text_known
    rw [e] at q
    exact q
  have HDE : Hid (∀ w1, Calls Tryd.prog 16 #[.int .u32 4261584611] w1 fun e w' => e = .returned (.tuple #[.agg #[.int .i64 32, .int .i64 0, .int .i64 5, .int .i64 0, .int .i64 (-4)], .bool true]) ∧ Gr w1 w') := fun w1 => by
    have q := pDecode_any 4261584611 (by decide) (by decide) w1
    rw [decode_known] at q
    exact q
  have HT := Lib.hid ht
  clear ht
  go_enter Tryd.func17, Tryd.ntmps17
  go_wp2_with (first
    | (go_at_call 12; refine (HE.out _).mono ?_; rintro e w1 ⟨rfl, g1⟩)
    | (go_at_call 31; refine (HTX.out _ (HT.out.gr g1)).mono ?_; rintro e w2 ⟨rfl, g2⟩)
    | (go_at_call 16; refine (HDE.out _).mono ?_; rintro e w3 ⟨rfl, g3⟩))
  go_ret
  exact ⟨rfl, (g1.trans (g2.trans g3)).alloc _⟩
end Go.Proofs.YthiaaagoccpkcaaDoor

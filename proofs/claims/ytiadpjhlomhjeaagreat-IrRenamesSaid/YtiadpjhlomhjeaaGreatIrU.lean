/- isShaped: the program's answer is the document's. Plain. -/
import Derived.Test.YtiadpjhlomhjeaaGreatIrT
namespace Go.Proofs.YtiadpjhlomhjeaaGreat
open Go.RowKit

theorem wrap_zero (n : Nat) (h : n < 18446744073709551616) : (IntKind.i64.wrap (n : Int) == 0) = (n == 0) := by
  have e : IntKind.i64.wrap (n : Int) = 0 ↔ n = 0 := by
    unfold IntKind.wrap
    simp only [IntKind.signed, IntKind.bits]
    constructor
    · intro q
      split at q <;> omega
    · rintro rfl; decide
  by_cases q : n = 0
  · rw [beq_iff_eq.2 q, beq_iff_eq.2 (e.2 q)]
  · rw [beq_eq_false_iff_ne.2 q, beq_eq_false_iff_ne.2 (fun c => q (e.1 c))]
theorem ofNat_bit (m i : Nat) (hi : i < 64) : (BitVec.ofNat 64 m)[i] = m.testBit i := by
  rw [← BitVec.getLsbD_eq_getElem, BitVec.getLsbD_ofNat]; simp [hi]
/-- The bits of a number that are not in a mask. -/
theorem andn_zero (z : Int) (m : Nat) : (bits .andNot .i64 z m == 0) = true ↔ ∀ i, i < 64 → (BitVec.ofInt 64 z).getLsbD i = true → m.testBit i = true := by
  unfold bits
  rw [wrap_zero _ (BitVec.isLt _), beq_iff_eq]
  constructor
  · intro h i hi hz
    have h0 : (BitVec.ofInt 64 z &&& ~~~BitVec.ofInt 64 (m : Int)) = 0#64 := BitVec.eq_of_toNat_eq h
    have := congrArg (fun b => b.getLsbD i) h0
    simp [hz, hi] at this
    rwa [ofNat_bit m i hi] at this
  · intro h
    have h0 : (BitVec.ofInt 64 z &&& ~~~BitVec.ofInt 64 (m : Int)) = 0#64 := by
      apply BitVec.eq_of_getLsbD_eq
      intro i hi
      simp [hi]
      intro hz
      rw [ofNat_bit m i hi]
      exact h i hi (by simpa [hi] using hz)
    exact congrArg BitVec.toNat h0
theorem flags_big (z : Int) (n : Nat) (h0 : -9223372036854775808 ≤ z) (h1 : z ≤ 9223372036854775807) (hz : ∀ i, i < 64 → (BitVec.ofInt 64 z).getLsbD i = true → i < n) (hn : n ≤ 62) : 0 ≤ z ∧ z < 2 ^ n := by
  have hlt : (BitVec.ofInt 64 z).toNat < 2 ^ n := by
    apply Nat.lt_pow_two_of_testBit
    intro i hi
    by_cases h64 : i < 64
    · cases hb : (BitVec.ofInt 64 z).toNat.testBit i with
      | false => rfl
      | true => have := hz i h64 hb; omega
    · exact Nat.testBit_lt_two_pow (Nat.lt_of_lt_of_le (BitVec.isLt _) (Nat.pow_le_pow_right (by omega) (by omega)))
  have hp : (2 : Nat) ^ n ≤ 2 ^ 62 := Nat.pow_le_pow_right (by omega) hn
  rw [BitVec.toNat_ofInt] at hlt
  have e62 : (2 : Nat) ^ 62 = 4611686018427387904 := by decide
  have e64 : ((2 ^ 64 : Nat) : Int) = 18446744073709551616 := by decide
  rw [e64] at hlt
  rw [e62] at hp
  have hc : ((2 : Int) ^ n) = ((2 ^ n : Nat) : Int) := by simp
  rw [hc]
  omega

theorem flags_3 (z : Int) (h0 : -9223372036854775808 ≤ z) (h1 : z ≤ 9223372036854775807) : (bits .andNot .i64 z (3 : Nat) == 0) = (decide (0 ≤ z) && decide (z ≤ 3)) := by
  rw [Bool.eq_iff_iff, andn_zero]
  simp only [Bool.and_eq_true, decide_eq_true_eq]
  constructor
  · intro h
    have := flags_big z 2 h0 h1 (fun i hi hb => by
      have := h i hi hb
      rcases (by omega : i = 0 ∨ i = 1 ∨ 2 ≤ i) with rfl | rfl | q
      · omega
      · omega
      · rw [Nat.testBit_lt_two_pow (Nat.lt_of_lt_of_le (by decide : 3 < 2 ^ 2) (Nat.pow_le_pow_right (by omega) q))] at this; cases this) (by omega)
    omega
  · rintro ⟨q0, q3⟩ i hi hb
    rcases (by omega : z = 0 ∨ z = 1 ∨ z = 2 ∨ z = 3) with rfl | rfl | rfl | rfl
    all_goals
      rcases (by omega : i = 0 ∨ i = 1 ∨ 2 ≤ i) with rfl | rfl | q
      · first | decide | (simp at hb)
      · first | decide | (simp at hb)
      · exfalso
        simp only [BitVec.ofInt_ofNat] at hb
        rw [BitVec.getLsbD_ofNat, Nat.testBit_lt_two_pow (Nat.lt_of_lt_of_le (by decide : _ < 2 ^ 2) (Nat.pow_le_pow_right (by omega) q))] at hb
        simp at hb
theorem flags_1 (z : Int) (k : Nat) (hk : k < 62) (h0 : -9223372036854775808 ≤ z) (h1 : z ≤ 9223372036854775807) : (bits .andNot .i64 z ((2 ^ k : Nat) : Int) == 0) = (decide (z = 0) || decide (z = 2 ^ k)) := by
  rw [Bool.eq_iff_iff, andn_zero]
  simp only [Bool.or_eq_true, decide_eq_true_eq, Nat.testBit_two_pow]
  constructor
  · intro h
    have hb := flags_big z (k + 1) h0 h1 (fun i hi hb => by have := h i hi hb; omega) (by omega)
    obtain ⟨n, rfl⟩ := Int.eq_ofNat_of_zero_le hb.1
    have e : (BitVec.ofInt 64 (n : Int)) = BitVec.ofNat 64 n := BitVec.ofInt_natCast 64 n
    simp only [e, BitVec.getLsbD_ofNat, Bool.and_eq_true, decide_eq_true_eq] at h
    have hn : n = 0 ∨ n = 2 ^ k := by
      cases hq : n.testBit k with
      | true =>
        right
        apply Nat.eq_of_testBit_eq
        intro i
        rw [Nat.testBit_two_pow]
        by_cases hi : k = i
        · subst hi; simp [hq]
        · simp only [hi, decide_false]
          cases hz : n.testBit i with
          | false => rfl
          | true =>
            by_cases h64 : i < 64
            · exact absurd (h i h64 ⟨h64, hz⟩) hi
            · rw [Nat.testBit_lt_two_pow (Nat.lt_of_lt_of_le (by omega : n < 2 ^ 63) (Nat.pow_le_pow_right (by omega) (by omega)))] at hz; cases hz
      | false =>
        left
        apply Nat.eq_of_testBit_eq
        intro i
        rw [Nat.zero_testBit]
        cases hz : n.testBit i with
        | false => rfl
        | true =>
          by_cases h64 : i < 64
          · have := h i h64 ⟨h64, hz⟩
            subst this
            rw [hz] at hq; cases hq
          · rw [Nat.testBit_lt_two_pow (Nat.lt_of_lt_of_le (by omega : n < 2 ^ 63) (Nat.pow_le_pow_right (by omega) (by omega)))] at hz; cases hz
    rcases hn with rfl | rfl
    · left; rfl
    · right; simp
  · rintro (rfl | rfl) i hi hb
    · simp at hb
    · have e : (BitVec.ofInt 64 ((2 : Int) ^ k)) = BitVec.ofNat 64 (2 ^ k) := by
        rw [← BitVec.ofInt_natCast 64 (2 ^ k)]; simp
      rw [e, BitVec.getLsbD_ofNat, Nat.testBit_two_pow] at hb
      simp at hb
      exact hb.2
theorem flags_0 (z : Int) (h0 : -9223372036854775808 ≤ z) (h1 : z ≤ 9223372036854775807) : (bits .andNot .i64 z 0 == 0) = decide (z = 0) := by
  rw [Bool.eq_iff_iff]
  have h := andn_zero z 0
  rw [show ((0 : Nat) : Int) = 0 from rfl] at h
  rw [h]
  simp only [Nat.zero_testBit, decide_eq_true_eq]
  constructor
  · intro q
    have := flags_big z 0 h0 h1 (fun i hi hb => by cases q i hi hb) (by omega)
    simp at this
    omega
  · rintro rfl i hi hb
    simp at hb
end Go.Proofs.YtiadpjhlomhjeaaGreat

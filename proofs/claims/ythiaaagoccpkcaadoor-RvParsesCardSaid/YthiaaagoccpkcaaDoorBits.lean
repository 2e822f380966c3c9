/- Words of 32 bits as numbers: fields side by side are sums. No program in sight. -/
import Derived.WalkKit
namespace Go.Proofs.YthiaaagoccpkcaaDoor
open Go.RowKit

theorem wrap_u32 (z : Int) : IntKind.u32.wrap z = z % 4294967296 := by
  unfold IntKind.wrap
  simp [IntKind.signed, IntKind.bits]
theorem wrap_u32_in (z : Int) (h0 : 0 ≤ z) (h1 : z < 4294967296) : IntKind.u32.wrap z = z := by
  rw [wrap_u32]; omega
theorem ofInt_nat (n : Nat) : (BitVec.ofInt 32 (n : Int)).toNat = n % 4294967296 := by
  rw [BitVec.ofInt_natCast, BitVec.toNat_ofNat]
/-- A number below 2^k beside a multiple of 2^k. -/
theorem or_nat (k c m : Nat) (hm : m < 2 ^ k) (hw : 2 ^ k * c + m < 4294967296) : bits .or .u32 (m : Int) ((2 ^ k * c : Nat) : Int) = ((2 ^ k * c + m : Nat) : Int) ∧ bits .or .u32 ((2 ^ k * c : Nat) : Int) (m : Int) = ((2 ^ k * c + m : Nat) : Int) := by
  have e := Nat.two_pow_add_eq_or_of_lt hm c
  have h1 : m % 4294967296 = m := Nat.mod_eq_of_lt (by omega)
  have h2 : 2 ^ k * c % 4294967296 = 2 ^ k * c := Nat.mod_eq_of_lt (by omega)
  constructor
  · unfold bits
    show IntKind.u32.wrap (((BitVec.ofInt 32 (m : Int) ||| BitVec.ofInt 32 ((2 ^ k * c : Nat) : Int)).toNat : Nat) : Int) = _
    rw [BitVec.toNat_or, ofInt_nat, ofInt_nat, h1, h2, Nat.or_comm, ← e, wrap_u32_in _ (by omega) (by omega)]
  · unfold bits
    show IntKind.u32.wrap (((BitVec.ofInt 32 ((2 ^ k * c : Nat) : Int) ||| BitVec.ofInt 32 (m : Int)).toNat : Nat) : Int) = _
    rw [BitVec.toNat_or, ofInt_nat, ofInt_nat, h1, h2, ← e, wrap_u32_in _ (by omega) (by omega)]
theorem or_u32 (k : Nat) (a b : Int) (ha0 : 0 ≤ a) (ha : a < 2 ^ k) (hb0 : 0 ≤ b) (hb : b % 2 ^ k = 0) (hw : a + b < 4294967296) : bits .or .u32 a b = a + b ∧ bits .or .u32 b a = a + b := by
  obtain ⟨m, rfl⟩ := Int.eq_ofNat_of_zero_le ha0
  obtain ⟨n, rfl⟩ := Int.eq_ofNat_of_zero_le hb0
  have hp : ((2 : Int) ^ k) = ((2 ^ k : Nat) : Int) := by simp
  rw [hp] at ha hb
  have hm : m < 2 ^ k := by exact_mod_cast ha
  have hd : n % 2 ^ k = 0 := by exact_mod_cast hb
  obtain ⟨c, rfl⟩ : ∃ c, n = 2 ^ k * c := ⟨n / 2 ^ k, by have := Nat.div_add_mod n (2 ^ k); omega⟩
  obtain ⟨q1, q2⟩ := or_nat k c m hm (by omega)
  rw [q1, q2]
  constructor <;> omega
theorem and_u32 (k : Nat) (a : Int) (h0 : 0 ≤ a) (h1 : a < 4294967296) (hk : k ≤ 32) : bits .and .u32 a (2 ^ k - 1) = a % 2 ^ k := by
  obtain ⟨m, rfl⟩ := Int.eq_ofNat_of_zero_le h0
  have hp : ((2 : Int) ^ k - 1) = ((2 ^ k - 1 : Nat) : Int) := by
    have : 0 < 2 ^ k := Nat.two_pow_pos k
    have e : ((2 : Int) ^ k) = ((2 ^ k : Nat) : Int) := by simp
    rw [e]; omega
  have hle : 2 ^ k ≤ 2 ^ 32 := Nat.pow_le_pow_right (by omega) hk
  have h32 : (2 : Nat) ^ 32 = 4294967296 := by decide
  have hpos : 0 < 2 ^ k := Nat.two_pow_pos k
  rw [hp]
  unfold bits
  show IntKind.u32.wrap (((BitVec.ofInt 32 (m : Int) &&& BitVec.ofInt 32 ((2 ^ k - 1 : Nat) : Int)).toNat : Nat) : Int) = _
  rw [BitVec.toNat_and, ofInt_nat, ofInt_nat, Nat.mod_eq_of_lt (a := m) (by omega), Nat.mod_eq_of_lt (a := 2 ^ k - 1) (by omega), Nat.and_two_pow_sub_one_eq_mod]
  have hlt : m % 2 ^ k < 2 ^ k := Nat.mod_lt _ hpos
  rw [wrap_u32_in _ (by omega) (by omega)]
  have e : ((2 : Int) ^ k) = ((2 ^ k : Nat) : Int) := by simp
  rw [e]; simp
end Go.Proofs.YthiaaagoccpkcaaDoor

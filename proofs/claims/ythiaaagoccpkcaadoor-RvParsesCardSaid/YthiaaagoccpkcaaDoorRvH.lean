/- The fields of a word, side by side: each 'or' is a sum. Plain. -/
import Derived.Test.YthiaaagoccpkcaaDoorRvE
namespace Go.Proofs.YthiaaagoccpkcaaDoor

theorem orL (k : Nat) (m : Int) (a b : Int) (hm : (2 : Int) ^ k = m) (ha0 : 0 ≤ a) (ha : a < m) (hb0 : 0 ≤ b) (hb : b % m = 0) (hw : a + b < 4294967296) : bits .or .u32 a b = a + b := by
  subst hm
  exact (or_u32 k a b ha0 ha hb0 hb hw).1
theorem orR (k : Nat) (m : Int) (a b : Int) (hm : (2 : Int) ^ k = m) (ha0 : 0 ≤ a) (ha : a < m) (hb0 : 0 ≤ b) (hb : b % m = 0) (hw : a + b < 4294967296) : bits .or .u32 b a = a + b := by
  subst hm
  exact (or_u32 k a b ha0 ha hb0 hb hw).2
/-- The fields that every word has: code, D, the third field, A, B. -/
theorem head_sum (c d t a b : Int) (hc : 0 ≤ c ∧ c < 128) (hd : 0 ≤ d ∧ d ≤ 31) (ht : 0 ≤ t ∧ t ≤ 7) (ha : 0 ≤ a ∧ a ≤ 31) (hb : 0 ≤ b ∧ b ≤ 31) :
    bits .or .u32 (bits .or .u32 (bits .or .u32 (bits .or .u32 c (d * 128)) (t * 4096)) (a * 32768)) (b * 1048576) = c + d * 128 + t * 4096 + a * 32768 + b * 1048576 := by
  rw [orL 7 128 c (d * 128) (by decide) (by omega) (by omega) (by omega) (by omega) (by omega),
    orL 12 4096 (c + d * 128) (t * 4096) (by decide) (by omega) (by omega) (by omega) (by omega) (by omega),
    orL 15 32768 (c + d * 128 + t * 4096) (a * 32768) (by decide) (by omega) (by omega) (by omega) (by omega) (by omega),
    orL 20 1048576 (c + d * 128 + t * 4096 + a * 32768) (b * 1048576) (by decide) (by omega) (by omega) (by omega) (by omega) (by omega)]
theorem or3_nat (a b c : Nat) : (a ||| c) ||| b = (a ||| b) ||| c := by rw [Nat.or_assoc, Nat.or_comm c b, ← Nat.or_assoc]
theorem bits_or_nat (m n : Nat) (hm : m < 4294967296) (hn : n < 4294967296) : bits .or .u32 (m : Int) (n : Int) = ((m ||| n : Nat) : Int) := by
  have h : m ||| n < 2 ^ 32 := Nat.or_lt_two_pow (by omega) (by omega)
  unfold bits
  show IntKind.u32.wrap (((BitVec.ofInt 32 (m : Int) ||| BitVec.ofInt 32 (n : Int)).toNat : Nat) : Int) = _
  rw [BitVec.toNat_or, ofInt_nat, ofInt_nat, Nat.mod_eq_of_lt hm, Nat.mod_eq_of_lt hn, wrap_u32_in _ (by omega) (by omega)]
/-- A field laid between a lower and a higher part. -/
theorem orMid (j k : Nat) (mj mk : Int) (x a b c : Int) (hx : x = a + c) (hj : (2 : Int) ^ j = mj) (hk : (2 : Int) ^ k = mk) (ha0 : 0 ≤ a) (ha : a < mj) (hb0 : 0 ≤ b) (hb : b % mj = 0) (hab : a + b < mk) (hc0 : 0 ≤ c) (hc : c % mk = 0) (hw : a + b + c < 4294967296) : bits .or .u32 x b = a + b + c := by
  subst hx
  have hac : bits .or .u32 a c = a + c := orL k mk a c hk ha0 (by omega) hc0 hc (by omega)
  have e1 : bits .or .u32 a b = a + b := orL j mj a b hj ha0 ha hb0 hb (by omega)
  have e2 : bits .or .u32 (a + b) c = a + b + c := orL k mk (a + b) c hk (by omega) hab hc0 hc hw
  rw [← hac, ← e2, ← e1]
  obtain ⟨a', rfl⟩ := Int.eq_ofNat_of_zero_le ha0
  obtain ⟨b', rfl⟩ := Int.eq_ofNat_of_zero_le hb0
  obtain ⟨c', rfl⟩ := Int.eq_ofNat_of_zero_le hc0
  have q1 : a' ||| c' < 2 ^ 32 := Nat.or_lt_two_pow (by omega) (by omega)
  have q2 : a' ||| b' < 2 ^ 32 := Nat.or_lt_two_pow (by omega) (by omega)
  rw [bits_or_nat a' c' (by omega) (by omega), bits_or_nat a' b' (by omega) (by omega), bits_or_nat _ b' (by omega) (by omega), bits_or_nat _ c' (by omega) (by omega), or3_nat]
theorem part_num (n : Int) (fr ct at_ : Nat) (a b c : Int) (ha : (2 : Int) ^ fr = a) (hb : (2 : Int) ^ ct = b) (hc : (2 : Int) ^ at_ = c) : Rv.part n fr ct at_ = n / a % b * c := by
  unfold Rv.part; rw [ha, hb, hc]
end Go.Proofs.YthiaaagoccpkcaaDoor

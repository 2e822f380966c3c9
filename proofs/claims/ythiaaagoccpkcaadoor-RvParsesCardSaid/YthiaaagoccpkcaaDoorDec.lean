/- The instruction of a word, as data: the document's way (the first operation whose fields are the word's) and the program's (a table of fields). No program in sight. -/
import Derived.Test.YthiaaagoccpkcaaDoorSpec
namespace Go.Proofs.YthiaaagoccpkcaaDoor
set_option linter.unusedSimpArgs false
set_option linter.unusedVariables false
namespace Rv

/-- The number below m that some bits are, with a sign. -/
def sgn (m n : Int) : Int := if m ≤ 2 * n then n - m else n
/-- The Imm of a word by its shape. -/
def immN (s w : Int) : Int :=
  if s = 2 then w / 1048576 % 32
  else if s = 3 then w / 4096 % 1048576
  else if s = 5 then sgn 4096 (w / 128 % 32 + w / 33554432 % 128 * 32)
  else if s = 6 then sgn 8192 (w / 128 % 2 * 2048 + w / 256 % 16 * 2 + w / 33554432 % 64 * 32 + w / 2147483648 % 2 * 4096)
  else if s = 7 then sgn 2097152 (w / 4096 % 256 * 4096 + w / 1048576 % 2 * 2048 + w / 2097152 % 1024 * 2 + w / 2147483648 % 2 * 1048576)
  else if s = 0 ∨ s = 9 then 0
  else sgn 4096 (w / 1048576 % 4096)
def dOf (s w : Int) : Int := if hasD s then w / 128 % 32 else 0
def aOf (s w : Int) : Int := if hasA s then w / 32768 % 32 else 0
def bOf (s w : Int) : Int := if hasB s then w / 1048576 % 32 else 0
/-- The instruction that an operation and the fields of a word make. -/
def fieldsOf (op : Nat) (w : Int) : RvI := ⟨op, dOf (shapeN op) w, aOf (shapeN op) w, bOf (shapeN op) w, immN (shapeN op) w⟩
/-- Whether a word is one of an operation. -/
def fitsOp (op : Nat) (w : Int) : Bool :=
  let s := shapeN op
  if s = 9 then w == 0x73 + ((op : Int) - 39) * 1048576
  else if s = 3 ∨ s = 7 then w % 128 == codeN op
  else if s = 0 ∨ s = 2 then w % 128 == codeN op && w / 4096 % 8 == thirdN op && w / 33554432 == seventhN op
  else w % 128 == codeN op && w / 4096 % 8 == thirdN op
/-- The first operation of those from k on. -/
def findFrom (w : Int) : Nat → Nat → Option Nat
  | 0, _ => none
  | n + 1, k => if fitsOp k w then some k else findFrom w n (k + 1)
/-- The instruction of a word. -/
def decode (w : Int) : Option RvI := (findFrom w 41 0).map fun op => fieldsOf op w

/-- The fields by which the program finds an operation. -/
def keyN (op : Nat) : Int × Int × Int := (codeN op, if shapeN op = 3 ∨ shapeN op = 7 then 0 else thirdN op, if shapeN op = 0 ∨ shapeN op = 2 then seventhN op else 0)
/-- What the table holds behind so many rounds. -/
def lastOp : Nat → Int × Int × Int → Option Nat
  | 0, _ => none
  | n + 1, k => if k = keyN n then some n else lastOp n k
def findP (w : Int) : Option Nat :=
  match lastOp 39 (w % 128, 0, 0) with
  | some op => if shapeN op = 3 ∨ shapeN op = 7 then some op else
      match lastOp 39 (w % 128, w / 4096 % 8, 0) with
      | some op => if shapeN op ≠ 0 ∧ shapeN op ≠ 2 then some op else lastOp 39 (w % 128, w / 4096 % 8, w / 33554432)
      | none => lastOp 39 (w % 128, w / 4096 % 8, w / 33554432)
  | none =>
      match lastOp 39 (w % 128, w / 4096 % 8, 0) with
      | some op => if shapeN op ≠ 0 ∧ shapeN op ≠ 2 then some op else lastOp 39 (w % 128, w / 4096 % 8, w / 33554432)
      | none => lastOp 39 (w % 128, w / 4096 % 8, w / 33554432)
def decodeP (w : Int) : Option RvI :=
  if w = 0x73 then some ⟨39, 0, 0, 0, 0⟩ else if w = 0x100073 then some ⟨40, 0, 0, 0, 0⟩
  else match findP w with
    | none => none
    | some op => if word (fieldsOf op w) = w then some (fieldsOf op w) else none

theorem sgn_bounds (m n : Int) (h0 : 0 ≤ n) (h1 : n < 2 * m) : -m ≤ sgn (2 * m) n ∧ sgn (2 * m) n < m := by
  unfold sgn; split <;> omega
theorem shape_cases (op : Nat) : shapeN op = 0 ∨ shapeN op = 1 ∨ shapeN op = 2 ∨ shapeN op = 3 ∨ shapeN op = 4 ∨ shapeN op = 5 ∨ shapeN op = 6 ∨ shapeN op = 7 ∨ shapeN op = 8 ∨ shapeN op = 9 := by unfold shapeN; grind
theorem tabs (n : Nat) (h : n ≤ 40) : (0 ≤ codeN n ∧ codeN n < 128) ∧ (0 ≤ thirdN n ∧ thirdN n ≤ 7) ∧ (0 ≤ seventhN n ∧ seventhN n ≤ 32) := by
  have : ∀ k, k < 41 → ((0 ≤ codeN k ∧ codeN k < 128) ∧ (0 ≤ thirdN k ∧ thirdN k ≤ 7) ∧ (0 ≤ seventhN k ∧ seventhN k ≤ 32)) := by decide
  exact this n (by omega)
theorem third_zero (n : Nat) (h : n ≤ 40) (hs : shapeN n = 3 ∨ shapeN n = 7) : thirdN n = 0 := by
  have : ∀ k, k < 41 → (shapeN k = 3 ∨ shapeN k = 7) → thirdN k = 0 := by decide
  exact this n (by omega) hs

theorem even_tmod (n : Int) : (n.tmod 2 == 0) = (n % 2 == 0) := by
  have h : n.tmod 2 = 0 ↔ n % 2 = 0 := by rw [← Int.dvd_iff_tmod_eq_zero, ← Int.dvd_iff_emod_eq_zero]
  rw [Bool.eq_iff_iff, beq_iff_eq, beq_iff_eq]; exact h
theorem fields_valid (op : Nat) (w : Int) (ho : op ≤ 40) (h0 : 0 ≤ w) (h1 : w < 4294967296) : valid (fieldsOf op w) = true := by
  unfold valid fieldsOf
  have e0 : decide ((0 : Int) ≤ (op : Int)) = true := by simp
  have e1 : decide ((op : Int) ≤ 40) = true := by simp; omega
  simp only [e0, e1, Int.toNat_natCast, Bool.true_and]
  have r : ∀ t n, 0 ≤ n ∧ n ≤ 31 → isReg t (if t then n else 0) = true := by
    intro t n hn
    cases t
    · rfl
    · unfold isReg; simp; omega
  have hd : isReg (hasD (shapeN op)) (dOf (shapeN op) w) = true := r _ _ (by omega)
  have ha : isReg (hasA (shapeN op)) (aOf (shapeN op) w) = true := r _ _ (by omega)
  have hb : isReg (hasB (shapeN op)) (bOf (shapeN op) w) = true := r _ _ (by omega)
  rw [hd, ha, hb]
  simp only [Bool.true_and]
  rcases shape_cases op with e | e | e | e | e | e | e | e | e | e <;> rw [e]
  all_goals simp only [hasI, immN, reaches, sgn, even_tmod]
  all_goals try simp
  all_goals first | done | omega | (split <;> omega)
theorem sgn_in (m n : Int) (h0 : -m ≤ n) (h1 : n < m) (M : Int) (hM : M = 2 * m) : sgn M (n % M) = n := by
  subst hM
  unfold sgn
  by_cases h : 0 ≤ n
  · rw [Int.emod_eq_of_lt h (by omega), if_neg (by omega)]
  · have e : n % (2 * m) = n + 2 * m := by
      rw [← Int.add_emod_right, Int.emod_eq_of_lt (by omega) (by omega)]
    rw [e, if_pos (by omega)]; omega
theorem sgn_mod (m n : Int) : ∃ c : Int, sgn m n = n - c * m ∧ (c = 0 ∨ c = 1) := by
  unfold sgn
  split
  · exact ⟨1, by omega, Or.inr rfl⟩
  · exact ⟨0, by omega, Or.inl rfl⟩
theorem fields_word (op : Nat) (w : Int) (ho : op ≤ 40) (h0 : 0 ≤ w) (h1 : w < 4294967296) : word (fieldsOf op w) = w ↔ fitsOp op w = true := by
  obtain ⟨hc, ht, hv⟩ := tabs op ho
  have hz := third_zero op ho
  unfold word fieldsOf fitsOp
  simp only [Int.toNat_natCast]
  obtain ⟨c, ec⟩ : ∃ c, codeN op = c := ⟨_, rfl⟩
  obtain ⟨t, et⟩ : ∃ c, thirdN op = c := ⟨_, rfl⟩
  obtain ⟨sv, ev⟩ : ∃ c, seventhN op = c := ⟨_, rfl⟩
  rw [ec, et, ev]
  rw [ec] at hc
  rw [et] at ht hz
  rw [ev] at hv
  rcases shape_cases op with e | e | e | e | e | e | e | e | e | e <;> rw [e]
  · simp [dOf, aOf, bOf, hasD, hasA, hasB, immN]; omega
  · simp [dOf, aOf, bOf, hasD, hasA, hasB, immN]
    obtain ⟨q, eq, hq⟩ := sgn_mod 4096 (w / 1048576 % 4096)
    rw [eq]; omega
  · simp [dOf, aOf, bOf, hasD, hasA, hasB, immN]; omega
  · simp [dOf, aOf, bOf, hasD, hasA, hasB, immN]; omega
  · simp [dOf, aOf, bOf, hasD, hasA, hasB, immN]
    obtain ⟨q, eq, hq⟩ := sgn_mod 4096 (w / 1048576 % 4096)
    rw [eq]; omega
  · simp [dOf, aOf, bOf, hasD, hasA, hasB, immN]
    obtain ⟨q, eq, hq⟩ := sgn_mod 4096 (w / 128 % 32 + w / 33554432 % 128 * 32)
    rw [eq]
    have f1 : (w / 128 % 32 + w / 33554432 % 128 * 32 - q * 4096) % 32 = w / 128 % 32 := by omega
    have f2 : (w / 128 % 32 + w / 33554432 % 128 * 32 - q * 4096) / 32 % 128 = w / 33554432 % 128 := by omega
    rw [f1, f2]; omega
  · simp [dOf, aOf, bOf, hasD, hasA, hasB, immN]
    obtain ⟨p1, e1⟩ : ∃ p, w / 128 % 2 = p := ⟨_, rfl⟩
    obtain ⟨p2, e2⟩ : ∃ p, w / 256 % 16 = p := ⟨_, rfl⟩
    obtain ⟨p3, e3⟩ : ∃ p, w / 33554432 % 64 = p := ⟨_, rfl⟩
    obtain ⟨p4, e4⟩ : ∃ p, w / 2147483648 % 2 = p := ⟨_, rfl⟩
    rw [e1, e2, e3, e4]
    obtain ⟨q, eq, hq⟩ := sgn_mod 8192 (p1 * 2048 + p2 * 2 + p3 * 32 + p4 * 4096)
    rw [eq]
    have b1 : 0 ≤ p1 ∧ p1 < 2 := by omega
    have b2 : 0 ≤ p2 ∧ p2 < 16 := by omega
    have b3 : 0 ≤ p3 ∧ p3 < 64 := by omega
    have b4 : 0 ≤ p4 ∧ p4 < 2 := by omega
    have f1 : (p1 * 2048 + p2 * 2 + p3 * 32 + p4 * 4096 - q * 8192) / 2048 % 2 = p1 := by clear e1 e2 e3 e4 eq; omega
    have f2 : (p1 * 2048 + p2 * 2 + p3 * 32 + p4 * 4096 - q * 8192) / 2 % 16 = p2 := by clear e1 e2 e3 e4 eq; omega
    have f3 : (p1 * 2048 + p2 * 2 + p3 * 32 + p4 * 4096 - q * 8192) / 32 % 64 = p3 := by clear e1 e2 e3 e4 eq; omega
    have f4 : (p1 * 2048 + p2 * 2 + p3 * 32 + p4 * 4096 - q * 8192) / 4096 % 2 = p4 := by clear e1 e2 e3 e4 eq; omega
    rw [f1, f2, f3, f4]
    clear f1 f2 f3 f4 eq hq
    omega
  · have z := hz (Or.inr e)
    simp [dOf, aOf, bOf, hasD, hasA, hasB, immN]
    obtain ⟨p1, e1⟩ : ∃ p, w / 4096 % 256 = p := ⟨_, rfl⟩
    obtain ⟨p2, e2⟩ : ∃ p, w / 1048576 % 2 = p := ⟨_, rfl⟩
    obtain ⟨p3, e3⟩ : ∃ p, w / 2097152 % 1024 = p := ⟨_, rfl⟩
    obtain ⟨p4, e4⟩ : ∃ p, w / 2147483648 % 2 = p := ⟨_, rfl⟩
    rw [e1, e2, e3, e4]
    obtain ⟨q, eq, hq⟩ := sgn_mod 2097152 (p1 * 4096 + p2 * 2048 + p3 * 2 + p4 * 1048576)
    rw [eq]
    have b1 : 0 ≤ p1 ∧ p1 < 256 := by omega
    have b2 : 0 ≤ p2 ∧ p2 < 2 := by omega
    have b3 : 0 ≤ p3 ∧ p3 < 1024 := by omega
    have b4 : 0 ≤ p4 ∧ p4 < 2 := by omega
    have f1 : (p1 * 4096 + p2 * 2048 + p3 * 2 + p4 * 1048576 - q * 2097152) / 4096 % 256 = p1 := by clear e1 e2 e3 e4 eq; omega
    have f2 : (p1 * 4096 + p2 * 2048 + p3 * 2 + p4 * 1048576 - q * 2097152) / 2048 % 2 = p2 := by clear e1 e2 e3 e4 eq; omega
    have f3 : (p1 * 4096 + p2 * 2048 + p3 * 2 + p4 * 1048576 - q * 2097152) / 2 % 1024 = p3 := by clear e1 e2 e3 e4 eq; omega
    have f4 : (p1 * 4096 + p2 * 2048 + p3 * 2 + p4 * 1048576 - q * 2097152) / 1048576 % 2 = p4 := by clear e1 e2 e3 e4 eq; omega
    rw [f1, f2, f3, f4]
    clear f1 f2 f3 f4 eq hq
    omega
  · simp [dOf, aOf, bOf, hasD, hasA, hasB, immN]
    obtain ⟨q, eq, hq⟩ := sgn_mod 4096 (w / 1048576 % 4096)
    rw [eq]; omega
  · simp [dOf, aOf, bOf, hasD, hasA, hasB, immN]; omega

/-- The word of a valid instruction is one of its operation, and its fields are those of the instruction. -/
theorem word_fields (x : RvI) (h : valid x = true) : 0 ≤ word x ∧ word x < 4294967296 ∧ fieldsOf x.op.toNat (word x) = x := by
  obtain ⟨op, d, a, b, imm⟩ := x
  unfold valid at h
  simp only [Bool.and_eq_true, decide_eq_true_eq] at h
  obtain ⟨⟨⟨⟨⟨h0, h1⟩, hd⟩, ha⟩, hb⟩, hi⟩ := h
  obtain ⟨n, rfl⟩ := Int.eq_ofNat_of_zero_le h0
  simp only [Int.toNat_natCast] at hd ha hb hi
  obtain ⟨hc, ht, hv⟩ := tabs n (by omega)
  have hz := third_zero n (by omega)
  unfold word fieldsOf
  simp only [Int.toNat_natCast]
  obtain ⟨c, ec⟩ : ∃ c, codeN n = c := ⟨_, rfl⟩
  obtain ⟨t, et⟩ : ∃ c, thirdN n = c := ⟨_, rfl⟩
  obtain ⟨sv, ev⟩ : ∃ c, seventhN n = c := ⟨_, rfl⟩
  rw [ec, et, ev]
  rw [ec] at hc
  rw [et] at ht hz
  rw [ev] at hv
  have h9 : shapeN n = 9 → n = 39 ∨ n = 40 := by
    intro h; unfold shapeN at h; grind
  rcases shape_cases n with e | e | e | e | e | e | e | e | e | e <;> rw [e] at hd ha hb hi ⊢
  all_goals simp only [reaches, even_tmod] at hi
  all_goals simp [isReg, hasD, hasA, hasB, hasI] at hd ha hb hi
  all_goals simp [dOf, aOf, bOf, hasD, hasA, hasB, immN]
  · refine ⟨by omega, by omega, by omega, by omega, by omega, by omega⟩
  · rw [show (c + t * 4096 + d * 128 + a * 32768 + imm % 4096 * 1048576) / 1048576 % 4096 = imm % 4096 by omega, sgn_in 2048 imm (by omega) (by omega) 4096 rfl]
    refine ⟨by omega, by omega, by omega, by omega, by omega, rfl⟩
  · refine ⟨by omega, by omega, by omega, by omega, by omega, by omega⟩
  · refine ⟨by omega, by omega, by omega, by omega, by omega, by omega⟩
  · rw [show (c + t * 4096 + d * 128 + a * 32768 + imm % 4096 * 1048576) / 1048576 % 4096 = imm % 4096 by omega, sgn_in 2048 imm (by omega) (by omega) 4096 rfl]
    refine ⟨by omega, by omega, by omega, by omega, by omega, rfl⟩
  · obtain ⟨p1, e1⟩ : ∃ p, imm % 32 = p := ⟨_, rfl⟩
    obtain ⟨p2, e2⟩ : ∃ p, imm / 32 % 128 = p := ⟨_, rfl⟩
    rw [e1, e2]
    have b1 : 0 ≤ p1 ∧ p1 < 32 := by omega
    have b2 : 0 ≤ p2 ∧ p2 < 128 := by omega
    have f1 : (c + t * 4096 + a * 32768 + b * 1048576 + p1 * 128 + p2 * 33554432) / 128 % 32 = p1 := by clear e1 e2; omega
    have f2 : (c + t * 4096 + a * 32768 + b * 1048576 + p1 * 128 + p2 * 33554432) / 33554432 % 128 = p2 := by clear e1 e2; omega
    rw [f1, f2, show p1 + p2 * 32 = imm % 4096 by omega, sgn_in 2048 imm (by omega) (by omega) 4096 rfl]
    clear e1 e2 f1 f2
    refine ⟨by omega, by omega, by omega, by omega, by omega, rfl⟩
  · obtain ⟨p1, e1⟩ : ∃ p, imm / 2048 % 2 = p := ⟨_, rfl⟩
    obtain ⟨p2, e2⟩ : ∃ p, imm / 2 % 16 = p := ⟨_, rfl⟩
    obtain ⟨p3, e3⟩ : ∃ p, imm / 32 % 64 = p := ⟨_, rfl⟩
    obtain ⟨p4, e4⟩ : ∃ p, imm / 4096 % 2 = p := ⟨_, rfl⟩
    have hs : p1 * 2048 + p2 * 2 + p3 * 32 + p4 * 4096 = imm % 8192 := by omega
    rw [e1, e2, e3, e4]
    have b1 : 0 ≤ p1 ∧ p1 < 2 := by omega
    have b2 : 0 ≤ p2 ∧ p2 < 16 := by omega
    have b3 : 0 ≤ p3 ∧ p3 < 64 := by omega
    have b4 : 0 ≤ p4 ∧ p4 < 2 := by omega
    clear e1 e2 e3 e4
    have f1 : (c + t * 4096 + a * 32768 + b * 1048576 + p1 * 128 + p2 * 256 + p3 * 33554432 + p4 * 2147483648) / 128 % 2 = p1 := by clear hs; omega
    have f2 : (c + t * 4096 + a * 32768 + b * 1048576 + p1 * 128 + p2 * 256 + p3 * 33554432 + p4 * 2147483648) / 256 % 16 = p2 := by clear hs f1; omega
    have f3 : (c + t * 4096 + a * 32768 + b * 1048576 + p1 * 128 + p2 * 256 + p3 * 33554432 + p4 * 2147483648) / 33554432 % 64 = p3 := by clear hs f1 f2; omega
    have f4 : (c + t * 4096 + a * 32768 + b * 1048576 + p1 * 128 + p2 * 256 + p3 * 33554432 + p4 * 2147483648) / 2147483648 % 2 = p4 := by clear hs f1 f2 f3; omega
    rw [f1, f2, f3, f4, hs, sgn_in 4096 imm (by omega) (by omega) 8192 rfl]
    clear f1 f2 f3 f4 hs
    refine ⟨by omega, by omega, by omega, by omega, by omega, rfl⟩
  · obtain ⟨p1, e1⟩ : ∃ p, imm / 4096 % 256 = p := ⟨_, rfl⟩
    obtain ⟨p2, e2⟩ : ∃ p, imm / 2048 % 2 = p := ⟨_, rfl⟩
    obtain ⟨p3, e3⟩ : ∃ p, imm / 2 % 1024 = p := ⟨_, rfl⟩
    obtain ⟨p4, e4⟩ : ∃ p, imm / 1048576 % 2 = p := ⟨_, rfl⟩
    have hs : p1 * 4096 + p2 * 2048 + p3 * 2 + p4 * 1048576 = imm % 2097152 := by omega
    rw [e1, e2, e3, e4]
    have b1 : 0 ≤ p1 ∧ p1 < 256 := by omega
    have b2 : 0 ≤ p2 ∧ p2 < 2 := by omega
    have b3 : 0 ≤ p3 ∧ p3 < 1024 := by omega
    have b4 : 0 ≤ p4 ∧ p4 < 2 := by omega
    clear e1 e2 e3 e4
    have f1 : (c + d * 128 + p1 * 4096 + p2 * 1048576 + p3 * 2097152 + p4 * 2147483648) / 4096 % 256 = p1 := by clear hs; omega
    have f2 : (c + d * 128 + p1 * 4096 + p2 * 1048576 + p3 * 2097152 + p4 * 2147483648) / 1048576 % 2 = p2 := by clear hs f1; omega
    have f3 : (c + d * 128 + p1 * 4096 + p2 * 1048576 + p3 * 2097152 + p4 * 2147483648) / 2097152 % 1024 = p3 := by clear hs f1 f2; omega
    have f4 : (c + d * 128 + p1 * 4096 + p2 * 1048576 + p3 * 2097152 + p4 * 2147483648) / 2147483648 % 2 = p4 := by clear hs f1 f2 f3; omega
    rw [f1, f2, f3, f4, hs, sgn_in 1048576 imm (by omega) (by omega) 2097152 rfl]
    clear f1 f2 f3 f4 hs
    refine ⟨by omega, by omega, by omega, by omega, by omega, rfl⟩
  · rw [show (c + t * 4096 + d * 128 + a * 32768 + imm % 4096 * 1048576) / 1048576 % 4096 = imm % 4096 by omega, sgn_in 2048 imm (by omega) (by omega) 4096 rfl]
    refine ⟨by omega, by omega, by omega, by omega, by omega, rfl⟩
  · refine ⟨by omega, by omega, by omega, by omega, by omega, by omega⟩

/-! ### which operation a word is of -/
theorem fits_find : ∀ op, op < 39 → ∀ w, fitsOp op w = true → findP w = some op := by
  intro op ho w h
  unfold fitsOp at h
  obtain ⟨a, ea⟩ : ∃ a, w % 128 = a := ⟨_, rfl⟩
  obtain ⟨b, eb⟩ : ∃ a, w / 4096 % 8 = a := ⟨_, rfl⟩
  obtain ⟨c, ec⟩ : ∃ a, w / 33554432 = a := ⟨_, rfl⟩
  unfold findP
  dsimp only at h
  rw [ea, eb, ec]
  rw [ea, eb, ec] at h
  clear ea eb ec
  rcases (by omega : op = 0 ∨ op = 1 ∨ op = 2 ∨ op = 3 ∨ op = 4 ∨ op = 5 ∨ op = 6 ∨ op = 7 ∨ op = 8 ∨ op = 9 ∨ op = 10 ∨ op = 11 ∨ op = 12 ∨ op = 13 ∨ op = 14 ∨ op = 15 ∨ op = 16 ∨ op = 17 ∨ op = 18 ∨ op = 19 ∨ op = 20 ∨ op = 21 ∨ op = 22 ∨ op = 23 ∨ op = 24 ∨ op = 25 ∨ op = 26 ∨ op = 27 ∨ op = 28 ∨ op = 29 ∨ op = 30 ∨ op = 31 ∨ op = 32 ∨ op = 33 ∨ op = 34 ∨ op = 35 ∨ op = 36 ∨ op = 37 ∨ op = 38) with rfl | rfl | rfl | rfl | rfl | rfl | rfl | rfl | rfl | rfl | rfl | rfl | rfl | rfl | rfl | rfl | rfl | rfl | rfl | rfl | rfl | rfl | rfl | rfl | rfl | rfl | rfl | rfl | rfl | rfl | rfl | rfl | rfl | rfl | rfl | rfl | rfl | rfl | rfl
  all_goals
    simp [shapeN, codeN, thirdN, seventhN] at h
    first
      | (obtain ⟨⟨rfl, rfl⟩, rfl⟩ := h; rfl)
      | (obtain ⟨rfl, rfl⟩ := h; rfl)
      | (subst h; rfl)
theorem fits_alone (op : Nat) (h : op = 39 ∨ op = 40) (w : Int) : fitsOp op w = true ↔ w = 0x73 + ((op : Int) - 39) * 1048576 := by
  rcases h with rfl | rfl <;> simp [fitsOp, shapeN]
theorem not_fits (op : Nat) (ho : op < 39) (w : Int) (hw : w = 0x73 ∨ w = 0x100073) : fitsOp op w = false := by
  have : ∀ k, k < 39 → fitsOp k 0x73 = false ∧ fitsOp k 0x100073 = false := by decide
  rcases hw with rfl | rfl
  · exact (this op ho).1
  · exact (this op ho).2
/-- No word is one of two operations. -/
theorem fits_one (a b : Nat) (ha : a ≤ 40) (hb : b ≤ 40) (w : Int) (fa : fitsOp a w = true) (fb : fitsOp b w = true) : a = b := by
  by_cases h1 : a < 39
  · by_cases h2 : b < 39
    · have := (fits_find a h1 w fa).symm.trans (fits_find b h2 w fb)
      exact Option.some.inj this
    · have h3 : b = 39 ∨ b = 40 := by omega
      have e := (fits_alone b h3 w).1 fb
      have := not_fits a h1 w (by rcases h3 with rfl | rfl <;> omega)
      rw [this] at fa; cases fa
  · have h3 : a = 39 ∨ a = 40 := by omega
    have e := (fits_alone a h3 w).1 fa
    by_cases h2 : b < 39
    · have := not_fits b h2 w (by rcases h3 with rfl | rfl <;> omega)
      rw [this] at fb; cases fb
    · have h4 : b = 39 ∨ b = 40 := by omega
      have e' := (fits_alone b h4 w).1 fb
      rcases h3 with rfl | rfl <;> rcases h4 with rfl | rfl <;> omega
theorem findFrom_some (w : Int) (op : Nat) : ∀ n k, k ≤ op → op < k + n → k + n = 41 → fitsOp op w = true → findFrom w n k = some op
  | 0, k, h1, h2, _, _ => by omega
  | n + 1, k, h1, h2, h3, hf => by
    unfold findFrom
    by_cases h : fitsOp k w = true
    · rw [if_pos h, fits_one k op (by omega) (by omega) w h hf]
    · rw [if_neg h]
      have hne : k ≠ op := fun e => h (e ▸ hf)
      exact findFrom_some w op n (k + 1) (by omega) (by omega) (by omega) hf
theorem findFrom_fits (w : Int) (op : Nat) : ∀ n k, findFrom w n k = some op → fitsOp op w = true ∧ k ≤ op ∧ op < k + n
  | 0, k, h => by simp [findFrom] at h
  | n + 1, k, h => by
    unfold findFrom at h
    by_cases hf : fitsOp k w = true
    · rw [if_pos hf] at h
      cases h
      exact ⟨hf, by omega, by omega⟩
    · rw [if_neg hf] at h
      have := findFrom_fits w op n (k + 1) h
      exact ⟨this.1, by omega, by omega⟩
theorem lastOp_lt : ∀ n k op, lastOp n k = some op → op < n
  | 0, k, op, h => by simp [lastOp] at h
  | n + 1, k, op, h => by
    unfold lastOp at h
    split at h
    · cases h; omega
    · have := lastOp_lt n k op h; omega
theorem findP_lt (w : Int) (op : Nat) (h : findP w = some op) : op < 39 := by
  unfold findP at h
  split at h
  · rename_i o h1
    split at h
    · cases h; exact lastOp_lt _ _ _ h1
    · split at h
      · rename_i o2 h2
        split at h
        · cases h; exact lastOp_lt _ _ _ h2
        · exact lastOp_lt _ _ _ h
      · exact lastOp_lt _ _ _ h
  · split at h
    · rename_i o2 h2
      split at h
      · cases h; exact lastOp_lt _ _ _ h2
      · exact lastOp_lt _ _ _ h
    · exact lastOp_lt _ _ _ h

/-- The document's way and the program's are one. -/
theorem decode_eq (w : Int) (h0 : 0 ≤ w) (h1 : w < 4294967296) : decodeP w = decode w := by
  unfold decodeP decode
  by_cases a : w = 0x73
  · subst a; rfl
  rw [if_neg a]
  by_cases b : w = 0x100073
  · subst b; rfl
  rw [if_neg b]
  cases hd : findFrom w 41 0 with
  | some op =>
    obtain ⟨hf, -, hl⟩ := findFrom_fits w op 41 0 hd
    have hl2 : op < 39 := by
      by_cases hh : op < 39
      · exact hh
      · have h3 : op = 39 ∨ op = 40 := by omega
        have e := (fits_alone op h3 w).1 hf
        rcases h3 with rfl | rfl <;> omega
    rw [fits_find op hl2 w hf]
    simp only [Option.map_some]
    rw [if_pos ((fields_word op w (by omega) h0 h1).2 hf)]
  | none =>
    cases hp : findP w with
    | none => rfl
    | some op =>
      have hlt := findP_lt w op hp
      simp only [Option.map_none]
      rw [if_neg (fun e => by
        have hf := (fields_word op w (by omega) h0 h1).1 e
        rw [findFrom_some w op 41 0 (by omega) (by omega) rfl hf] at hd
        cases hd)]
/-- What is read has the word. -/
theorem decode_word (w : Int) (h0 : 0 ≤ w) (h1 : w < 4294967296) (x : RvI) (h : decode w = some x) : valid x = true ∧ word x = w := by
  unfold decode at h
  cases hd : findFrom w 41 0 with
  | none => rw [hd] at h; cases h
  | some op =>
    rw [hd] at h
    cases h
    obtain ⟨hf, -, hl⟩ := findFrom_fits w op 41 0 hd
    exact ⟨fields_valid op w (by omega) h0 h1, (fields_word op w (by omega) h0 h1).2 hf⟩
/-- A valid instruction is read from its word. -/
theorem word_decode (x : RvI) (h : valid x = true) : decode (word x) = some x := by
  obtain ⟨h0, h1, hf⟩ := word_fields x h
  have hop : 0 ≤ x.op ∧ x.op ≤ 40 := by
    unfold valid at h
    simp only [Bool.and_eq_true, decide_eq_true_eq] at h
    exact ⟨h.1.1.1.1.1, h.1.1.1.1.2⟩
  have hfit : fitsOp x.op.toNat (word x) = true := (fields_word x.op.toNat (word x) (by omega) h0 h1).1 (by rw [hf])
  unfold decode
  rw [findFrom_some (word x) x.op.toNat 41 0 (by omega) (by omega) rfl hfit]
  simp [hf]
end Rv
end Go.Proofs.YthiaaagoccpkcaaDoor

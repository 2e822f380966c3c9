/- The number that the document reads in a word. No program in sight. -/
import Derived.Test.YthiaaagoccpkcaaDoorPaE
namespace Go.Proofs.YthiaaagoccpkcaaDoor
set_option linter.unusedSimpArgs false
set_option linter.unusedVariables false

namespace Pa
/-- One digit more; none: no digit, or the number before it is too great. -/
def digit (n : Nat) (c : UInt8) : Option Nat := if c.toNat < 48 ∨ 57 < c.toNat ∨ 4294967296 < n then none else some (10 * n + (c.toNat - 48))
def digs : Nat → List UInt8 → Option Nat
  | n, [] => some n
  | n, c :: r => (digit n c).bind fun m => digs m r
def noX (l : List UInt8) : List UInt8 := match l with
  | c :: r => if c = 120 then r else l
  | [] => []
def signOf (l : List UInt8) : Int := match l with
  | c :: _ => if c = 45 then -1 else 1
  | [] => 1
def noMinus (l : List UInt8) : List UInt8 := match l with
  | c :: r => if c = 45 then r else l
  | [] => []
/-- The number that a word is; 0 if it is none. -/
def value (l : List UInt8) : Int := match digs 0 (noMinus (noX l)) with
  | some n => signOf (noX l) * n
  | none => 0
theorem digs_snoc (c : UInt8) : ∀ (l : List UInt8) (n : Nat), digs n (l ++ [c]) = (digs n l).bind fun m => digit m c
  | [], n => by simp [digs]
  | b :: r, n => by
    simp only [List.cons_append, digs]
    cases digit n b with
    | none => rfl
    | some m => exact digs_snoc c r m
theorem digs_dec (u : Nat) (hu : u ≤ 42949672960) : digs 0 (Lib.decDigits u) = some u := by
  induction u using Nat.strongRecOn with
  | ind u ih =>
    have hdig : ∀ (n d : Nat), d < 10 → n ≤ 4294967296 → digit n (UInt8.ofNat (48 + d)) = some (10 * n + d) := by
      intro n d hd hn
      unfold digit
      rw [digit_of d hd, if_neg (by omega)]
      congr 1; omega
    by_cases h : u < 10
    · rw [Lib.decDigits_one h]
      simp only [digs, hdig 0 u h (by omega), Option.bind_some, Nat.mul_zero, Nat.zero_add]
    · rw [Lib.decDigits, dif_neg h, digs_snoc, ih (u / 10) (by omega) (by omega), Option.bind_some, hdig (u / 10) (u % 10) (by omega) (by omega)]
      congr 1; omega
theorem itoa_noX (n : Int) : noX (Lib.itoa n) = Lib.itoa n := by
  cases h : Lib.itoa n with
  | nil => rfl
  | cons b r =>
    have hb := itoa_chars n b (by rw [h]; simp)
    have hne : b ≠ 120 := by
      intro e
      subst e
      rcases hb with h | h <;> exact absurd h (by decide)
    show (if b = 120 then r else b :: r) = b :: r
    rw [if_neg hne]
theorem value_itoa (n : Int) (h0 : -1048576 ≤ n) (h1 : n ≤ 1048575) : value (Lib.itoa n) = n := by
  unfold value
  rw [itoa_noX]
  by_cases h : n < 0
  · have e : Lib.itoa n = 45 :: Lib.decDigits n.natAbs := by unfold Lib.itoa; rw [if_pos h]
    have e1 : noMinus (45 :: Lib.decDigits n.natAbs) = Lib.decDigits n.natAbs := by simp [noMinus]
    have e2 : signOf (45 :: Lib.decDigits n.natAbs) = -1 := by simp [signOf]
    rw [e, e1, e2, digs_dec n.natAbs (by omega)]
    dsimp only
    omega
  · have e : Lib.itoa n = Lib.decDigits n.toNat := by unfold Lib.itoa; rw [if_neg h]
    have hd := dec_digit n.toNat
    have hn := digs_dec n.toNat (by omega)
    rw [e]
    cases hl : Lib.decDigits n.toNat with
    | nil => exact absurd hl (dec_ne _)
    | cons b r =>
      rw [hl] at hn hd
      have hb := hd b (by simp)
      have h45 : b ≠ 45 := by intro e; subst e; simp at hb
      have e1 : noMinus (b :: r) = b :: r := by simp [noMinus, h45]
      have e2 : signOf (b :: r) = 1 := by simp [signOf, h45]
      rw [e1, e2, hn]
      dsimp only
      omega
theorem value_reg (n : Int) (h0 : -1048576 ≤ n) (h1 : n ≤ 1048575) : value (120 :: Lib.itoa n) = n := by
  have e : value (120 :: Lib.itoa n) = value (Lib.itoa n) := by
    unfold value
    rw [itoa_noX, show noX (120 :: Lib.itoa n) = Lib.itoa n from rfl]
  rw [e, value_itoa n h0 h1]
/-- What the document's reading makes of the words behind the name: the field, and the words behind it. -/
def tkR (p : Bool) (ws : List (List UInt8)) : Int × List (List UInt8) :=
  if p then match ws with
    | [] => (0, [])
    | w :: r => (value w, r)
  else (0, ws)
/-- The instruction that words seem to be to the document. -/
def candR (op : Nat) (ws : List (List UInt8)) : RvI :=
  let d := tkR (Rv.hasD (Rv.shapeN op)) ws
  let a := tkR (Rv.hasA (Rv.shapeN op)) d.2
  let b := tkR (Rv.hasB (Rv.shapeN op)) a.2
  let n := tkR (Rv.hasI (Rv.shapeN op)) b.2
  ⟨op, d.1, a.1, b.1, n.1⟩
theorem tkR_reg (p : Bool) (n : Int) (h0 : -1048576 ≤ n) (h1 : n ≤ 1048575) (hp : p = false → n = 0) (r : List (List UInt8)) : tkR p (tokR p n ++ r) = (n, r) := by
  cases p with
  | false => rw [hp rfl]; rfl
  | true => simp [tkR, tokR, value_reg n h0 h1]
theorem tkR_imm (p : Bool) (n : Int) (h0 : -1048576 ≤ n) (h1 : n ≤ 1048575) (hp : p = false → n = 0) : tkR p (tokI p n) = (n, []) := by
  cases p with
  | false => rw [hp rfl]; rfl
  | true => simp [tkR, tokI, value_itoa n h0 h1]
theorem candR_text (x : RvI) (hv : Rv.valid x = true) : candR x.op.toNat (toks x) = x := by
  obtain ⟨n, e, hn, hd, ha, hb, hd0, ha0, hb0, -, -⟩ := valid_parts x hv
  obtain ⟨-, -, -, -, hm0, hm1⟩ := valid_in x hv
  have hi0 := valid_imm0 hv
  obtain ⟨op, d, a, b, imm⟩ := x
  dsimp only at e hd ha hb hd0 ha0 hb0 hi0 hm0 hm1
  subst e
  rw [Int.toNat_natCast] at hi0
  unfold candR toks
  simp only [Int.toNat_natCast]
  rw [tkR_reg _ d (by omega) (by omega) hd0]
  dsimp only
  rw [tkR_reg _ a (by omega) (by omega) ha0]
  dsimp only
  rw [tkR_reg _ b (by omega) (by omega) hb0]
  dsimp only
  rw [tkR_imm _ imm hm0 hm1 hi0]
/-- The document's reading of a text: the same instruction. -/
theorem parse_candR (s : ByteArray) (nm : List UInt8) (ws : List (List UInt8)) (op : Nat) (hop : op ≤ 40) (hw : splitW s.data.toList = nm :: ws) (hn : nm = (opName op).data.toList) :
    parse s = if Rv.valid (candR op ws) = true ∧ text4 (candR op ws) = s then some (candR op ws) else none := by
  cases hp : parse s with
  | none =>
    rw [if_neg]
    rintro ⟨hv, ht⟩
    have := parse_text _ hv
    rw [ht, hp] at this
    cases this
  | some x =>
    obtain ⟨hv, ht⟩ := parse_some hp
    have hx := text_words x
    rw [ht, hw] at hx
    injection hx with h1 h2
    obtain ⟨n, e, hn40, -⟩ := valid_parts x hv
    have hon : opName op = opName x.op.toNat := by
      apply ByteArray.ext
      apply Array.ext'
      rw [← hn, h1]
    have e1 := names_index ⟨op, by omega⟩
    have e2 := names_index ⟨x.op.toNat, by omega⟩
    rw [hon] at e1
    have hop' : op = x.op.toNat := by
      have := e1.symm.trans e2
      dsimp only at this
      omega
    have hc : candR op ws = x := by rw [h2, hop']; exact candR_text x hv
    rw [hc, if_pos ⟨hv, ht⟩]
end Pa
end Go.Proofs.YthiaaagoccpkcaaDoor

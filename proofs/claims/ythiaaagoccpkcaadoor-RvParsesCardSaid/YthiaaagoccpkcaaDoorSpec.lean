/- The instructions of the first set, as data: which are valid, and their words. No program in sight. -/
import Derived.Test.YthiaaagoccpkcaaDoorBits
namespace Go.Proofs.YthiaaagoccpkcaaDoor

/-- An instruction as data. -/
structure RvI where
  op : Int
  d : Int
  a : Int
  b : Int
  imm : Int
  deriving Inhabited, DecidableEq

namespace Rv
/-- The shapes of the operations: 0 three, 1 number, 2 shift, 3 upper, 4 load, 5 store, 6 branch, 7 jump, 8 jumpReg, 9 alone. -/
def shapeN (op : Nat) : Int :=
  if op ≤ 14 then 0 else if op ≤ 20 then 1 else if op ≤ 23 then 2 else if op = 24 then 3 else if op ≤ 27 then 4 else if op ≤ 30 then 5 else if op ≤ 36 then 6 else if op = 37 then 7 else if op = 38 then 8 else 9
def codeN (op : Nat) : Int :=
  if op ≤ 14 then 0x33 else if op ≤ 23 then 0x13 else if op = 24 then 0x37 else if op ≤ 27 then 0x03 else if op ≤ 30 then 0x23 else if op ≤ 36 then 0x63 else if op = 37 then 0x6f else if op = 38 then 0x67 else 0x73
def thirdN (op : Nat) : Int := ([0, 0, 1, 2, 3, 4, 5, 5, 6, 7, 0, 4, 5, 6, 7, 0, 2, 3, 4, 6, 7, 1, 5, 5, 0, 4, 5, 2, 0, 1, 2, 0, 1, 4, 5, 6, 7, 0, 0, 0, 0] : List Int).getD op 0
def seventhN (op : Nat) : Int := if op = 1 ∨ op = 7 ∨ op = 23 then 0x20 else if 10 ≤ op ∧ op ≤ 14 then 1 else 0
def hasD (s : Int) : Bool := !(s == 5 || s == 6 || s == 9)
def hasA (s : Int) : Bool := !(s == 3 || s == 7 || s == 9)
def hasB (s : Int) : Bool := s == 0 || s == 5 || s == 6
def hasI (s : Int) : Bool := !(s == 0 || s == 9)
def reaches (s n : Int) : Bool :=
  if s = 2 then decide (0 ≤ n) && decide (n ≤ 31)
  else if s = 3 then decide (0 ≤ n) && decide (n ≤ 1048575)
  else if s = 6 then (n.tmod 2 == 0) && (decide (-4096 ≤ n) && decide (n ≤ 4094))
  else if s = 7 then (n.tmod 2 == 0) && (decide (-1048576 ≤ n) && decide (n ≤ 1048574))
  else decide (-2048 ≤ n) && decide (n ≤ 2047)
def isReg (there : Bool) (n : Int) : Bool := there && (decide (0 ≤ n) && decide (n ≤ 31)) || (n == 0)
/-- P18.1's error: 0 or ErrArg (1). -/
def valid (x : RvI) : Bool :=
  decide (0 ≤ x.op) && decide (x.op ≤ 40) && isReg (hasD (shapeN x.op.toNat)) x.d && isReg (hasA (shapeN x.op.toNat)) x.a && isReg (hasB (shapeN x.op.toNat)) x.b &&
    (if hasI (shapeN x.op.toNat) then reaches (shapeN x.op.toNat) x.imm else x.imm == 0)
/-- The word of a valid instruction. -/
def word (x : RvI) : Int :=
  let o := x.op.toNat
  let s := shapeN o
  let w := codeN o + thirdN o * 4096
  if s = 0 then w + x.d * 128 + x.a * 32768 + x.b * 1048576 + seventhN o * 33554432
  else if s = 2 then w + x.d * 128 + x.a * 32768 + x.imm * 1048576 + seventhN o * 33554432
  else if s = 3 then codeN o + x.d * 128 + x.imm * 4096
  else if s = 5 then w + x.a * 32768 + x.b * 1048576 + x.imm % 32 * 128 + x.imm / 32 % 128 * 33554432
  else if s = 6 then w + x.a * 32768 + x.b * 1048576 + x.imm / 2048 % 2 * 128 + x.imm / 2 % 16 * 256 + x.imm / 32 % 64 * 33554432 + x.imm / 4096 % 2 * 2147483648
  else if s = 7 then codeN o + x.d * 128 + x.imm / 4096 % 256 * 4096 + x.imm / 2048 % 2 * 1048576 + x.imm / 2 % 1024 * 2097152 + x.imm / 1048576 % 2 * 2147483648
  else if s = 9 then 0x73 + (x.op - 39) * 1048576
  else w + x.d * 128 + x.a * 32768 + x.imm % 4096 * 1048576
def wordR (x : RvI) : Int := if valid x then word x else 0
def validE (x : RvI) : Int := if valid x then 0 else 1
end Rv
end Go.Proofs.YthiaaagoccpkcaaDoor

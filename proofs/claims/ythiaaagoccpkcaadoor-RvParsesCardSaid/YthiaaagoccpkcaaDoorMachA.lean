/- The machine as data and in memory; its loads, stores and numbers. -/
import Derived.Test.YthiaaagoccpkcaaDoorLst
import Derived.Test.YthiaaagoccpkcaaDoorRvX
import Derived.IntWalk
import Derived.Deep.QuietTactic
import Derived.BigQuiet
import Derived.Test.YthiaaagoccpkcaaDoorSl
import Derived.Laws.Rows
import Derived.OneCell
import Derived.Test.YthiaaagoccpkcaaDoorRvZ
import Derived.Deep.RegionWith
import Derived.StillTailTactics

namespace Go.Proofs.YthiaaagoccpkcaaDoor

/-- A machine as data. -/
structure Mach where
  regs : List Int
  flags : Int
  pc : Int
  mem : List Int
  fin : Int
  deriving Inhabited, DecidableEq
namespace Rv
def i32 (a : Int) : Int := if a < 2147483648 then a else a - 4294967296
/-- What an operation makes of two numbers. -/
def calcM (op : Nat) (a b : Int) : Int :=
  if op = 0 ∨ op = 15 then (a + b) % 4294967296
  else if op = 1 then (a - b) % 4294967296
  else if op = 2 ∨ op = 21 then a * 2 ^ (b % 32).toNat % 4294967296
  else if op = 3 ∨ op = 16 then (if i32 a < i32 b then 1 else 0)
  else if op = 4 ∨ op = 17 then (if a < b then 1 else 0)
  else if op = 5 ∨ op = 18 then bits .xor .u32 a b
  else if op = 6 ∨ op = 22 then a / 2 ^ (b % 32).toNat
  else if op = 7 ∨ op = 23 then (i32 a / 2 ^ (b % 32).toNat) % 4294967296
  else if op = 8 ∨ op = 19 then bits .or .u32 a b
  else if op = 9 ∨ op = 20 then bits .and .u32 a b
  else if op = 10 then a * b % 4294967296
  else if op = 11 then (if b = 0 then 4294967295 else ((i32 a).tdiv (i32 b)) % 4294967296)
  else if op = 12 then (if b = 0 then 4294967295 else a / b)
  else if op = 13 then (if b = 0 then a else ((i32 a).tmod (i32 b)) % 4294967296)
  else (if b = 0 then a else a % b)
/-- Whether a branch is taken. -/
def takenM (op : Nat) (a b : Int) : Bool :=
  if op = 31 then a == b else if op = 32 then a != b else if op = 33 then decide (i32 a < i32 b) else if op = 34 then decide (i32 b ≤ i32 a) else if op = 35 then decide (a < b) else decide (b ≤ a)
def sizeM (op : Nat) : Nat := if op = 25 ∨ op = 28 then 1 else if op = 26 ∨ op = 29 then 2 else 4
def reg (m : Mach) (i : Int) : Int := m.regs.getD i.toNat 0
/-- A register is written, and the machine goes on. -/
def setR (m : Mach) (r n : Int) : Mach := { m with regs := if 0 < r then m.regs.set r.toNat n else m.regs, pc := (m.pc + 4) % 4294967296 }
/-- Bytes from a place on. -/
def wr (bs : List Int) (i : Nat) : Nat → Int → List Int
  | 0, _ => bs
  | k + 1, n => wr (bs.set i (n % 256)) (i + 1) k (n / 256)
/-- What an operation of a shape makes of a machine, of the numbers in its registers and of its Imm; none: a fault. -/
def execS (m : Mach) (s : Int) (o : Nat) (d a b n : Int) : Option Mach :=
  if s = 0 then some (setR m d (calcM o a b))
  else if s = 1 ∨ s = 2 then some (setR m d (calcM o a n))
  else if s = 3 then some (setR m d (n * 4096 % 4294967296))
  else if s = 4 then
    if m.mem.length < ((a + n) % 4294967296).toNat + sizeM o then none else some (setR m d (rd m.mem ((a + n) % 4294967296).toNat (sizeM o)))
  else if s = 5 then
    if m.mem.length < ((a + n) % 4294967296).toNat + sizeM o then none else some { m with mem := wr m.mem ((a + n) % 4294967296).toNat (sizeM o) b, pc := (m.pc + 4) % 4294967296 }
  else if s = 6 then some { m with pc := if takenM o a b = true then (m.pc + n) % 4294967296 else (m.pc + 4) % 4294967296 }
  else if s = 7 then some { setR m d ((m.pc + 4) % 4294967296) with pc := (m.pc + n) % 4294967296 }
  else if s = 8 then some { setR m d ((m.pc + 4) % 4294967296) with pc := (a + n) % 4294967296 / 2 * 2 }
  else some { m with fin := if o = 40 then 1 else 2 }
/-- What an instruction makes of a machine; none: a fault. -/
def execO (m : Mach) (x : RvI) : Option Mach := execS m (shapeN x.op.toNat) x.op.toNat x.d (reg m x.a) (reg m x.b) (x.imm % 4294967296)
/-- One instruction; none: a fault. -/
def stepO (m : Mach) : Option Mach :=
  if m.mem.length < m.pc.toNat + 4 ∨ m.pc % 4 ≠ 0 then none
  else match decode (rd m.mem m.pc.toNat 4) with
    | none => none
    | some x => execO m x
/-- A machine after one instruction. -/
def stepM (m : Mach) : Mach := match stepO m with
  | some m' => m'
  | none => { m with fin := 3 }
structure WfM (m : Mach) : Prop where
  regs : m.regs.length = 32
  rin : ∀ z ∈ m.regs, 0 ≤ z ∧ z < 4294967296
  pc : 0 ≤ m.pc ∧ m.pc < 4294967296
  mem : isBytes m.mem
theorem i32_in (a : Int) (h0 : 0 ≤ a) (h1 : a < 4294967296) : -2147483648 ≤ i32 a ∧ i32 a < 2147483648 := by
  unfold i32; split <;> omega
theorem i32_zero (a : Int) (h0 : 0 ≤ a) (h1 : a < 4294967296) : i32 a = 0 ↔ a = 0 := by
  unfold i32; split <;> omega
theorem i32_mod (a : Int) (h0 : 0 ≤ a) (h1 : a < 4294967296) : i32 a % 4294967296 = a := by
  unfold i32; split <;> omega
end Rv
end Go.Proofs.YthiaaagoccpkcaaDoor

namespace Go.Proofs.YthiaaagoccpkcaaDoor
set_option linter.unusedSimpArgs false
set_option linter.unusedVariables false
open Go.RowKit

theorem wrap32_i32 (a : Int) (h0 : 0 ≤ a) (h1 : a < 4294967296) : wrap32 a = Rv.i32 a := by
  unfold wrap32 Rv.i32
  split <;> omega
set_option maxRecDepth 100000 in
set_option maxHeartbeats 16000000 in
theorem calculate_low (op : Nat) (h : op ≤ 23) (h11 : op < 11 ∨ 14 < op) (a b : Int) (a0 : 0 ≤ a) (a1 : a < 4294967296) (b0 : 0 ≤ b) (b1 : b < 4294967296) (w : World) :
    Calls Tryd.prog 75 #[.int .i64 op, .int .u32 a, .int .u32 b] w fun e w' => e = .returned (.int .u32 (Rv.calcM op a b)) ∧ w = w' := by
  have HA := Lib.hid (and_u32 5 b b0 b1 (by omega))
  have hb31 : bits .and .u32 b 31 = b % 32 := HA.out
  have c0 : 0 ≤ b % 32 := by omega
  have c1 : b % 32 < 32 := by omega
  clear HA
  rcases (by omega : op = 0 ∨ op = 1 ∨ op = 2 ∨ op = 3 ∨ op = 4 ∨ op = 5 ∨ op = 6 ∨ op = 7 ∨ op = 8 ∨ op = 9 ∨ op = 10 ∨ op = 15 ∨ op = 16 ∨ op = 17 ∨ op = 18 ∨ op = 19 ∨ op = 20 ∨ op = 21 ∨ op = 22 ∨ op = 23) with rfl | rfl | rfl | rfl | rfl | rfl | rfl | rfl | rfl | rfl | rfl | rfl | rfl | rfl | rfl | rfl | rfl | rfl | rfl | rfl
  all_goals
    go_enter Tryd.func75, Tryd.ntmps75
    go_wp2
    go_ways
    all_goals go_ret
    all_goals refine ⟨ret_int ?_, rfl⟩
    all_goals (try rw [wrap32_i32 a a0 a1] at *)
    all_goals (try rw [wrap32_i32 b b0 b1] at *)
    all_goals simp [Rv.calcM, *]
    all_goals omega
end Go.Proofs.YthiaaagoccpkcaaDoor

namespace Go.Proofs.YthiaaagoccpkcaaDoor
set_option linter.unusedSimpArgs false
set_option linter.unusedVariables false
open Go.RowKit

theorem wrap64_mod32 (x : Int) : wrap64 x % 4294967296 = x % 4294967296 := by
  unfold wrap64; omega
theorem wrap64_wrap32 (a : Int) : wrap64 (wrap32 a) = wrap32 a := by
  unfold wrap64 wrap32; omega
theorem wrap32_zero (a : Int) (h0 : 0 ≤ a) (h1 : a < 4294967296) (h : ¬a = 0) : ¬wrap64 (wrap32 a) = 0 := by
  unfold wrap64 wrap32; omega
set_option maxRecDepth 100000 in
set_option maxHeartbeats 16000000 in
theorem divided_at (op : Nat) (h : 11 ≤ op ∧ op ≤ 14) (a b : Int) (a0 : 0 ≤ a) (a1 : a < 4294967296) (b0 : 0 ≤ b) (b1 : b < 4294967296) (w : World) :
    Calls Tryd.prog 91 #[.int .i64 op, .int .u32 a, .int .u32 b] w fun e w' => e = .returned (.int .u32 (Rv.calcM op a b)) ∧ w = w' := by
  rcases (by omega : op = 11 ∨ op = 12 ∨ op = 13 ∨ op = 14) with rfl | rfl | rfl | rfl
  all_goals
    go_enter Tryd.func91, Tryd.ntmps91
    go_wp2
    go_ways
    all_goals first
      | exact absurd ‹wrap64 (wrap32 b) = 0› (wrap32_zero b b0 b1 ‹_›)
      | (go_ret
         refine ⟨ret_int ?_, rfl⟩
         try rw [wrap64_mod32]
         try rw [wrap64_wrap32]
         try rw [wrap64_wrap32]
         try rw [wrap32_i32 a a0 a1]
         try rw [wrap32_i32 b b0 b1]
         simp [Rv.calcM, *])
theorem calculate_high (op : Nat) (h : 11 ≤ op ∧ op ≤ 14) (a b : Int) (a0 : 0 ≤ a) (a1 : a < 4294967296) (b0 : 0 ≤ b) (b1 : b < 4294967296) (w : World) :
    Calls Tryd.prog 75 #[.int .i64 op, .int .u32 a, .int .u32 b] w fun e w' => e = .returned (.int .u32 (Rv.calcM op a b)) ∧ w = w' := by
  have HD := Lib.hid (fun W => divided_at op h a b a0 a1 b0 b1 W)
  rcases (by omega : op = 11 ∨ op = 12 ∨ op = 13 ∨ op = 14) with rfl | rfl | rfl | rfl
  all_goals
    go_enter Tryd.func75, Tryd.ntmps75
    go_wp2_with (go_at_call 91; refine (HD.out _).mono ?_; rintro _ _ ⟨rfl, rfl⟩)
    go_ret
    exact ⟨rfl, rfl⟩
theorem calculate_at (op : Nat) (h : op ≤ 23) (a b : Int) (a0 : 0 ≤ a) (a1 : a < 4294967296) (b0 : 0 ≤ b) (b1 : b < 4294967296) (w : World) :
    Calls Tryd.prog 75 #[.int .i64 op, .int .u32 a, .int .u32 b] w fun e w' => e = .returned (.int .u32 (Rv.calcM op a b)) ∧ w = w' := by
  by_cases h' : 11 ≤ op ∧ op ≤ 14
  · exact calculate_high op h' a b a0 a1 b0 b1 w
  · exact calculate_low op h (by omega) a b a0 a1 b0 b1 w
set_option maxRecDepth 100000 in
set_option maxHeartbeats 16000000 in
theorem taken_at (op : Nat) (h : 31 ≤ op ∧ op ≤ 36) (a b : Int) (a0 : 0 ≤ a) (a1 : a < 4294967296) (b0 : 0 ≤ b) (b1 : b < 4294967296) (w : World) :
    Calls Tryd.prog 78 #[.int .i64 op, .int .u32 a, .int .u32 b] w fun e w' => e = .returned (.bool (Rv.takenM op a b)) ∧ w = w' := by
  rcases (by omega : op = 31 ∨ op = 32 ∨ op = 33 ∨ op = 34 ∨ op = 35 ∨ op = 36) with rfl | rfl | rfl | rfl | rfl | rfl
  all_goals
    go_enter Tryd.func78, Tryd.ntmps78
    go_wp2
    all_goals go_ret
    all_goals refine ⟨?_, rfl⟩
    all_goals (try rw [wrap32_i32 a a0 a1])
    all_goals (try rw [wrap32_i32 b b0 b1])
    all_goals simp [Rv.takenM, *]
theorem size_at (op : Nat) (h : 25 ≤ op ∧ op ≤ 30) (w : World) :
    Calls Tryd.prog 76 #[.int .i64 op] w fun e w' => e = .returned (.int .i64 (Rv.sizeM op : Nat)) ∧ w = w' := by
  rcases (by omega : op = 25 ∨ op = 26 ∨ op = 27 ∨ op = 28 ∨ op = 29 ∨ op = 30) with rfl | rfl | rfl | rfl | rfl | rfl
  all_goals
    go_enter Tryd.func76, Tryd.ntmps76
    go_wp2
    go_ret
    exact ⟨rfl, rfl⟩
end Go.Proofs.YthiaaagoccpkcaaDoor

namespace Go.Proofs.YthiaaagoccpkcaaDoor
set_option linter.unusedSimpArgs false
set_option linter.unusedVariables false
open Go.RowKit

theorem one_at (c : Bool) (w : World) :
    Calls Tryd.prog 92 #[.bool c] w fun e w' => e = .returned (.int .u32 (if c = true then 1 else 0)) ∧ w = w' := by
  cases c
  all_goals
    go_enter Tryd.func92, Tryd.ntmps92
    go_wp2
    go_ret
    exact ⟨rfl, rfl⟩
theorem i32_range (a : Int) (a0 : 0 ≤ a) (a1 : a < 4294967296) : -2147483648 ≤ wrap32 a ∧ wrap32 a ≤ 2147483647 := by
  unfold wrap32; omega
theorem wrap32_mod (a : Int) (a0 : 0 ≤ a) (a1 : a < 4294967296) : wrap32 a % 4294967296 = a := by
  unfold wrap32; omega
theorem wrap32_mod32 (x : Int) : wrap32 x % 4294967296 = x % 4294967296 := by
  unfold wrap32; omega
theorem wrap32_zero' (b : Int) (b0 : 0 ≤ b) (b1 : b < 4294967296) : wrap32 b = 0 ↔ b = 0 := by
  unfold wrap32; omega
/-- The quotient and the remainder of the document. -/
theorem quotient_at (a b : Int) (a0 : 0 ≤ a) (a1 : a < 4294967296) (b0 : 0 ≤ b) (b1 : b < 4294967296) (w : World) :
    Calls Tryd.prog 93 #[.int .i32 (wrap32 a), .int .i32 (wrap32 b)] w fun e w' => e = .returned (.tuple #[.int .u32 (Rv.calcM 11 a b), .int .u32 (Rv.calcM 13 a b)]) ∧ ∃ k, w' = w.drewN k := by
  have r1 := (i32_range a a0 a1).1
  have r2 := (i32_range a a0 a1).2
  have r3 := (i32_range b b0 b1).1
  have r4 := (i32_range b b0 b1).2
  have hz := wrap32_zero' b b0 b1
  have ha := wrap32_i32 a a0 a1
  have hb := wrap32_i32 b b0 b1
  have e1 := wrap32_mod a a0 a1
  by_cases hb0 : b = 0
  · subst hb0
    have hq : wrap32 0 = 0 := by unfold wrap32; rfl
    rw [hq]
    clear r3 r4 hz hb ha
    generalize hx : wrap32 a = x at *
    go_enter Tryd.func93, Tryd.ntmps93
    go_wp2
    go_ret2
    exact ⟨by simp [Rv.calcM, e1], 0, rfl⟩
  · have hc : ¬wrap32 b = 0 := fun h => hb0 (hz.1 h)
    have hd : (wrap32 b == 0) = false := by simpa using hc
    by_cases hm : wrap32 a = -2147483648 ∧ wrap32 b = -1
    · obtain ⟨m1, m2⟩ := hm
      have s1 : Rv.calcM 11 a b = 2147483648 := by
        simp [Rv.calcM, hb0, ← ha, ← hb, m1, m2]
      have s2 : Rv.calcM 13 a b = 0 := by
        simp [Rv.calcM, hb0, ← ha, ← hb, m1, m2]
      rw [s1, s2, m1, m2]
      clear s1 s2 ha hb e1 hz hb0 a0 a1 b0 b1 r1 r2 r3 r4 hc hd m1 m2
      go_enter Tryd.func93, Tryd.ntmps93
      go_wp2
      go_ret2
      exact ⟨rfl, 0, rfl⟩
    · have s1 : Rv.calcM 11 a b = (wrap32 a).tdiv (wrap32 b) % 4294967296 := by
        simp [Rv.calcM, hb0, ← ha, ← hb]
      have s2 : Rv.calcM 13 a b = (wrap32 a).tmod (wrap32 b) % 4294967296 := by
        simp [Rv.calcM, hb0, ← ha, ← hb]
      rw [s1, s2]
      clear s1 s2 ha hb e1 hz hb0 a0 a1 b0 b1
      generalize wrap32 a = x at *
      generalize wrap32 b = y at *
      have hg : (if x = -2147483648 then y == -1 else false) = false := by
        split
        · have : ¬ y = -1 := fun h => hm ⟨‹_›, h⟩
          simpa using this
        · rfl
      have t1 : wrap32 (x.tdiv y) % 4294967296 = x.tdiv y % 4294967296 := wrap32_mod32 _
      have t2 : wrap32 (x.tmod y) % 4294967296 = x.tmod y % 4294967296 := wrap32_mod32 _
      go_enter Tryd.func93, Tryd.ntmps93
      go_wp2
      all_goals go_quiet (fail)
      all_goals go_wp2
      all_goals go_ret2
      all_goals refine ⟨?_, nq, rfl⟩
      all_goals simp [*]
      all_goals exact ⟨wrap32_mod32 _, by rw [Int.tmod_eq_emod_of_nonneg (by decide)]⟩
set_option maxRecDepth 100000 in
set_option maxHeartbeats 16000000 in
theorem goes_at (op : Nat) (h : 31 ≤ op ∧ op ≤ 36) (a b : Int) (a0 : 0 ≤ a) (a1 : a < 4294967296) (b0 : 0 ≤ b) (b1 : b < 4294967296) (w : World) :
    Calls Tryd.prog 81 #[.int .i64 op, .int .u32 a, .int .u32 b] w fun e w' => e = .returned (.bool (Rv.takenM op a b)) ∧ w = w' := by
  rcases (by omega : op = 31 ∨ op = 32 ∨ op = 33 ∨ op = 34 ∨ op = 35 ∨ op = 36) with rfl | rfl | rfl | rfl | rfl | rfl
  all_goals
    go_enter Tryd.func81, Tryd.ntmps81
    go_wp2
    all_goals go_ret
    all_goals refine ⟨?_, rfl⟩
    all_goals (try rw [wrap32_i32 a a0 a1])
    all_goals (try rw [wrap32_i32 b b0 b1])
    all_goals simp [Rv.takenM, *]
set_option maxRecDepth 100000 in
set_option maxHeartbeats 16000000 in
theorem result_a (op : Nat) (h : op ≤ 23) (h11 : op < 11 ∨ 14 < op) (a b : Int) (a0 : 0 ≤ a) (a1 : a < 4294967296) (b0 : 0 ≤ b) (b1 : b < 4294967296) (w : World) :
    Calls Tryd.prog 80 #[.int .i64 op, .int .u32 a, .int .u32 b] w fun e w' => e = .returned (.int .u32 (Rv.calcM op a b)) ∧ ∃ k, w' = w.drewN k := by
  have HO := Lib.hid (fun c W => one_at c W)
  have c0 : 0 ≤ b % 32 := by omega
  have c1 : b % 32 < 32 := by omega
  rcases (by omega : op = 0 ∨ op = 1 ∨ op = 2 ∨ op = 3 ∨ op = 4 ∨ op = 5 ∨ op = 6 ∨ op = 7 ∨ op = 8 ∨ op = 9 ∨ op = 10 ∨ op = 15 ∨ op = 16 ∨ op = 17 ∨ op = 18 ∨ op = 19 ∨ op = 20 ∨ op = 21 ∨ op = 22 ∨ op = 23) with rfl | rfl | rfl | rfl | rfl | rfl | rfl | rfl | rfl | rfl | rfl | rfl | rfl | rfl | rfl | rfl | rfl | rfl | rfl | rfl
  all_goals
    go_enter Tryd.func80, Tryd.ntmps80
    go_wp2_with (go_at_call 92; refine (HO.out _ _).mono ?_; rintro _ _ ⟨rfl, rfl⟩)
    go_ways
    all_goals go_ret
    all_goals refine ⟨ret_int ?_, 0, rfl⟩
    all_goals (try rw [wrap32_i32 a a0 a1] at *)
    all_goals (try rw [wrap32_i32 b b0 b1] at *)
    all_goals simp [Rv.calcM, *]
    all_goals omega
set_option maxRecDepth 100000 in
set_option maxHeartbeats 16000000 in
theorem result_b (op : Nat) (h : op = 11 ∨ op = 13) (a b : Int) (a0 : 0 ≤ a) (a1 : a < 4294967296) (b0 : 0 ≤ b) (b1 : b < 4294967296) (w : World) :
    Calls Tryd.prog 80 #[.int .i64 op, .int .u32 a, .int .u32 b] w fun e w' => e = .returned (.int .u32 (Rv.calcM op a b)) ∧ ∃ k, w' = w.drewN k := by
  have HQ := Lib.hid (fun W => quotient_at a b a0 a1 b0 b1 W)
  rcases h with rfl | rfl
  all_goals
    go_enter Tryd.func80, Tryd.ntmps80
    go_wp2_with (go_at_call 93; refine (HQ.out _).mono ?_; rintro _ _ ⟨rfl, k, rfl⟩)
    go_ret
    exact ⟨rfl, k, rfl⟩
set_option maxRecDepth 100000 in
set_option maxHeartbeats 16000000 in
theorem result_c (op : Nat) (h : op = 12 ∨ op = 14) (a b : Int) (a0 : 0 ≤ a) (a1 : a < 4294967296) (b0 : 0 ≤ b) (b1 : b < 4294967296) (w : World) :
    Calls Tryd.prog 80 #[.int .i64 op, .int .u32 a, .int .u32 b] w fun e w' => e = .returned (.int .u32 (Rv.calcM op a b)) ∧ ∃ k, w' = w.drewN k := by
  by_cases hb0 : b = 0
  · subst hb0
    rcases h with rfl | rfl
    all_goals
      go_enter Tryd.func80, Tryd.ntmps80
      go_wp2
      go_ret
      exact ⟨ret_int (by simp [Rv.calcM]), 0, rfl⟩
  · have hd : (b == 0) = false := by simpa using hb0
    rcases h with rfl | rfl
    all_goals
      go_enter Tryd.func80, Tryd.ntmps80
      go_wp2
      go_ret
      exact ⟨ret_int (by simp [Rv.calcM, hb0]), 0, rfl⟩
theorem result_at (op : Nat) (h : op ≤ 23) (a b : Int) (a0 : 0 ≤ a) (a1 : a < 4294967296) (b0 : 0 ≤ b) (b1 : b < 4294967296) (w : World) :
    Calls Tryd.prog 80 #[.int .i64 op, .int .u32 a, .int .u32 b] w fun e w' => e = .returned (.int .u32 (Rv.calcM op a b)) ∧ ∃ k, w' = w.drewN k := by
  by_cases h1 : op = 11 ∨ op = 13
  · exact result_b op h1 a b a0 a1 b0 b1 w
  by_cases h2 : op = 12 ∨ op = 14
  · exact result_c op h2 a b a0 a1 b0 b1 w
  · exact result_a op h (by omega) a b a0 a1 b0 b1 w
end Go.Proofs.YthiaaagoccpkcaaDoor

namespace Go.Proofs.YthiaaagoccpkcaaDoor
set_option linter.unusedSimpArgs false
set_option linter.unusedVariables false
open Go.RowKit

/-- The cells of a machine; mv is its memory's slice. -/
def machL (m : Mach) (mv : Value) : List Value := m.regs.map (Value.int .u32) ++ [.int .i64 m.flags, .int .u32 m.pc, mv, .int .i64 m.fin]
theorem machL_len {m : Mach} (h : m.regs.length = 32) (mv : Value) : (machL m mv).length = 36 := by simp [machL, h]
/-- Block B holds a machine, and behind it tail. -/
structure MRow (w : World) (B : Nat) (t : TypeId) (m : Mach) (mv : Value) (tail : List Value) : Prop where
  len : m.regs.length = 32
  row : w.heap[B]? = some (.cells (machL m mv ++ tail).toArray t (0, 0))
section
variable {w w' : World} {B : Nat} {t : TypeId} {m : Mach} {mv : Value} {tail : List Value}
theorem MRow.lt (h : MRow w B t m mv tail) : B < w.heap.size := (Array.getElem?_eq_some_iff.1 h.row).1
theorem MRow.cell (h : MRow w B t m mv tail) (i : Nat) : w.cell? ⟨B, i, none⟩ = (machL m mv ++ tail)[i]? := by
  rw [cell_of_row _ _ _ _ _ _ h.row]; simp
theorem MRow.frozen (h : MRow w B t m mv tail) (i : Nat) : w.frozen? ⟨B, i, none⟩ = false := by
  simp [World.frozen?, h.row]
theorem machL_reg {m : Mach} (h : m.regs.length = 32) (mv : Value) (tail : List Value) (i : Nat) (hi : i < 32) : (machL m mv ++ tail)[i]? = some (.int .u32 (m.regs.getD i 0)) := by
  have e : m.regs[i]? = some (m.regs.getD i 0) := by rw [List.getD_eq_getElem?_getD, List.getElem?_eq_getElem (by omega)]; rfl
  rw [List.getElem?_append_left (by rw [machL_len h]; omega), machL, List.getElem?_append_left (by simp [h]; omega), List.getElem?_map, e]; rfl
theorem machL_at {m : Mach} (h : m.regs.length = 32) (mv : Value) (tail : List Value) (j : Nat) : (machL m mv ++ tail)[32 + j]? = ([.int .i64 m.flags, .int .u32 m.pc, mv, .int .i64 m.fin] ++ tail)[j]? := by
  rw [machL, List.append_assoc, List.getElem?_append_right (by simp [h])]
  simp [h]
theorem MRow.reg (h : MRow w B t m mv tail) (i : Nat) (hi : i < 32) : w.cell? ⟨B, i, none⟩ = some (.int .u32 (m.regs.getD i 0)) := by
  rw [h.cell, machL_reg h.len mv tail i hi]
theorem MRow.flags (h : MRow w B t m mv tail) : w.cell? ⟨B, 32, none⟩ = some (.int .i64 m.flags) := by rw [h.cell, machL_at h.len mv tail 0]; rfl
theorem MRow.pc (h : MRow w B t m mv tail) : w.cell? ⟨B, 33, none⟩ = some (.int .u32 m.pc) := by rw [h.cell, machL_at h.len mv tail 1]; rfl
theorem MRow.mem (h : MRow w B t m mv tail) : w.cell? ⟨B, 34, none⟩ = some mv := by rw [h.cell, machL_at h.len mv tail 2]; rfl
theorem MRow.fin (h : MRow w B t m mv tail) : w.cell? ⟨B, 35, none⟩ = some (.int .i64 m.fin) := by rw [h.cell, machL_at h.len mv tail 3]; rfl
theorem MRow.tail1 {u : Value} (h : MRow w B t m mv [u]) : w.cell? ⟨B, 36, none⟩ = some u := by rw [h.cell, machL_at h.len mv _ 4]; rfl
theorem MRow.gr (h : MRow w B t m mv tail) (g : Gr w w') : MRow w' B t m mv tail := ⟨h.len, (g.heap B h.lt).trans h.row⟩
theorem MRow.below (h : MRow w B t m mv tail) {N : Nat} (hB : B < N) (g : Below N w w') : MRow w' B t m mv tail := ⟨h.len, (g.block B hB).trans h.row⟩
theorem MRow.other (h : MRow w B t m mv tail) {a : Addr} (ha : B ≠ a.block) (u : Value) : MRow (w.setCell a u) B t m mv tail := ⟨h.len, (Below.heap_setCell w a u B ha).trans h.row⟩
theorem set_row {cs : List Value} (hg : w.heap[B]? = some (.cells cs.toArray t (0, 0))) (i : Nat) (v : Value) : (w.setCell ⟨B, i, none⟩ v).heap[B]? = some (.cells (cs.set i v).toArray t (0, 0)) := by
  have := heap_setCell_same w B i cs.toArray t v hg
  rw [this]; simp
theorem machL_setR {m : Mach} (h : m.regs.length = 32) (mv : Value) (tail : List Value) (i : Nat) (hi : i < 32) (n : Int) : (machL m mv ++ tail).set i (.int .u32 n) = machL { m with regs := m.regs.set i n } mv ++ tail := by
  rw [List.set_append_left _ _ (by rw [machL_len h]; omega), machL, List.set_append_left _ _ (by simp [h]; omega), ← List.map_set]; rfl
theorem machL_setAt {m : Mach} (h : m.regs.length = 32) (mv : Value) (tail : List Value) (j : Nat) (v : Value) : (machL m mv ++ tail).set (32 + j) v = m.regs.map (Value.int .u32) ++ ([.int .i64 m.flags, .int .u32 m.pc, mv, .int .i64 m.fin] ++ tail).set j v := by
  rw [machL, List.append_assoc, List.set_append_right _ _ (by simp [h])]
  simp [h]
theorem MRow.setReg (h : MRow w B t m mv tail) (i : Nat) (hi : i < 32) (n : Int) : MRow (w.setCell ⟨B, i, none⟩ (.int .u32 n)) B t { m with regs := m.regs.set i n } mv tail :=
  ⟨by simp [h.len], by rw [set_row h.row, machL_setR h.len mv tail i hi]⟩
theorem MRow.setPc (h : MRow w B t m mv tail) (n : Int) : MRow (w.setCell ⟨B, 33, none⟩ (.int .u32 n)) B t { m with pc := n } mv tail :=
  ⟨h.len, by rw [set_row h.row, machL_setAt h.len mv tail 1]; simp [machL]⟩
theorem MRow.setMem (h : MRow w B t m mv tail) (u : Value) : MRow (w.setCell ⟨B, 34, none⟩ u) B t m u tail :=
  ⟨h.len, by rw [set_row h.row, machL_setAt h.len mv tail 2]; simp [machL]⟩
theorem MRow.setFin (h : MRow w B t m mv tail) (n : Int) : MRow (w.setCell ⟨B, 35, none⟩ (.int .i64 n)) B t { m with fin := n } mv tail :=
  ⟨h.len, by rw [set_row h.row, machL_setAt h.len mv tail 3]; simp [machL]⟩
/-- The bytes of the memory play no part in the row. -/
theorem MRow.bytes (h : MRow w B t m mv tail) (l : List Int) : MRow w B t { m with mem := l } mv tail := ⟨h.len, h.row⟩
theorem MRow.new {m : Mach} (hm : m.regs.length = 32) (w : World) (t : TypeId) (mv : Value) (tail : List Value) : MRow (w.alloc (.cells (machL m mv ++ tail).toArray t)) w.heap.size t m mv tail :=
  ⟨hm, heap_alloc_new w _⟩
theorem MRow.setRow {cs : Array Value} (hm : m.regs.length = 32) (hg : w.heap[B]? = some (.cells cs t (0, 0))) (mv : Value) (tail : List Value) : MRow (w.setRow B (machL m mv ++ tail).toArray) B t m mv tail :=
  ⟨hm, setRow_heap w B cs _ t (0, 0) hg⟩
end

/-- One cell of an own row is written. -/
theorem Own1.set {w : World} {B : Nat} {e : TypeId} {g n c : Nat} {xs : List Value} (h : Own1 B e w (.slice (some ⟨g, 0, none⟩) n c) xs) (j : Nat) (hj : j < xs.length) (v : Value) : Own1 B e (w.setCell ⟨g, j, none⟩ v) (.slice (some ⟨g, 0, none⟩) n c) (xs.set j v) := by
  obtain ⟨h1, h2⟩ := h
  refine ⟨by simp, .inr ?_⟩
  rcases h2 with ⟨e0, _⟩ | ⟨g', cap, cur, e0, hb, hg, h3, h4, h5, h6⟩
  · cases e0
  · injection e0 with e1 e2 e3
    injection e1 with e1
    injection e1 with e1
    subst e1; subst e2; subst e3
    refine ⟨g, c, cur.setIfInBounds j v, by simp, hb, ?_, by simpa using h3, h4, by simpa using h5, ?_⟩
    · have := heap_setCell_same w g j cur e v hg
      rw [this]
    · have e7 : (cur.setIfInBounds j v).toList.take (xs.length * 1) = ((cur.toList.take (xs.length * 1)).set j v) := by
        rw [Array.toList_setIfInBounds, List.take_set]
      rw [h6] at e7
      simpa using e7
theorem Own1.frozen {w : World} {B : Nat} {e : TypeId} {g n c : Nat} {xs : List Value} (h : Own1 B e w (.slice (some ⟨g, 0, none⟩) n c) xs) (j : Nat) : w.frozen? ⟨g, j, none⟩ = false := by
  rcases h.2 with ⟨e0, _⟩ | ⟨g', cap, cur, e0, hb, hg, _⟩
  · cases e0
  · injection e0 with e1
    injection e1 with e1
    injection e1 with e1
    subst e1
    simp [World.frozen?, hg]
theorem Own1.setOther {w : World} {B : Nat} {e : TypeId} {v : Value} {xs : List Value} (h : Own1 B e w v xs) {a : Addr} (ha : v.ownBlock ≠ some a.block) (u : Value) : Own1 B e (w.setCell a u) v xs := ownsRow_setCell_other h ha u
end Go.Proofs.YthiaaagoccpkcaaDoor

namespace Go.Proofs.YthiaaagoccpkcaaDoor
set_option linter.unusedSimpArgs false
set_option linter.unusedVariables false
open Go.RowKit

/-- Block B holds the program's machine m: its memory is a row of its own from block N on, its table lies in block g. -/
structure MS (N : Nat) (w : World) (B : Nat) (m : Mach) (mv : Value) (g : Nat) : Prop where
  row : MRow w B 88 m mv [.map (some g)]
  mem : Own1 N 5 w mv (m.mem.map (Value.int .u8))
  dec : DecAt w g
  nB : N ≤ B
  wf : Rv.WfM m
  small : m.mem.length ≤ 40000
section
variable {N : Nat} {w w' : World} {B g : Nat} {m : Mach} {mv : Value}
theorem MS.gr (h : MS N w B m mv g) (k : Gr w w') : MS N w' B m mv g := ⟨h.row.gr k, h.mem.gr k, h.dec.gr k, h.nB, h.wf, h.small⟩
theorem MS.form (h : MS N w B m mv g) : ∃ A c, mv = .slice A m.mem.length c := by
  obtain ⟨A, c, e⟩ := h.mem.form
  exact ⟨A, c, by rw [e, List.length_map]⟩
end
set_option maxHeartbeats 4000000 in
theorem where_any {N : Nat} {w : World} {B g : Nat} {m : Mach} {mv : Value} (h : MS N w B m mv g) (a : Int) (c : Nat) (a0 : 0 ≤ a) (a1 : a < 4294967296) (hc : c ≤ 4) :
    Calls Tryd.prog 89 #[.pointer (some ⟨B, 0, none⟩), .int .u32 a, .int .i64 c] w fun e w' => e = .returned (.tuple #[.int .i64 a, .bool (decide (a + c ≤ m.mem.length))]) ∧ Gr w w' := by
  obtain ⟨A, cp, rfl⟩ := h.form
  have k34 := h.row.mem
  have hc' : (c : Int) ≤ 4 := by omega
  have hs := h.small
  have s1 : IntKind.i64.wrap (a + (c : Int)) = a + (c : Int) := IntWalk.i64_in _ (by omega)
  generalize m.mem.length = n at *
  clear hs
  clear h
  go_enter Tryd.func89, Tryd.ntmps89
  go_wp2
  go_quiet (fail)
  go_wp2
  go_ret2
  exact ⟨rfl, (Gr.refl _).drewN _⟩
theorem Rv.rd_snoc (bs : List Int) : ∀ (k i : Nat), Rv.rd bs i (k + 1) = Rv.rd bs i k + 256 ^ k * bs.getD (i + k) 0
  | 0, i => by simp [Rv.rd]
  | k + 1, i => by
    have h := Rv.rd_snoc bs k (i + 1)
    have e1 : Rv.rd bs i (k + 1 + 1) = bs.getD i 0 + 256 * Rv.rd bs (i + 1) (k + 1) := rfl
    have e2 : Rv.rd bs i (k + 1) = bs.getD i 0 + 256 * Rv.rd bs (i + 1) k := rfl
    rw [e1, e2, h, show i + 1 + k = i + (k + 1) by omega, Int.pow_succ]
    generalize (256 : Int) ^ k = q
    generalize bs.getD (i + (k + 1)) 0 = y
    rw [Int.mul_add, Int.add_assoc, ← Int.mul_assoc, Int.mul_comm q 256]
/-- One byte more of a number that is read. -/
theorem rd_or (acc y : Int) (k : Nat) (hk : k < 4) (h0 : 0 ≤ acc) (h1 : acc < 256 ^ k) (y0 : 0 ≤ y) (y1 : y < 256) :
    bits .or .u32 acc (y * 2 ^ (8 * k) % 4294967296) = acc + 256 ^ k * y := by
  rcases (by omega : k = 0 ∨ k = 1 ∨ k = 2 ∨ k = 3) with rfl | rfl | rfl | rfl
  · have e : acc = 0 := by simp at h1; omega
    subst e
    rw [orL 0 1 0 _ (by decide) (by omega) (by omega) (by simp; omega) (by simp) (by simp; omega)]
    simp; omega
  · rw [orL 8 256 acc _ (by decide) (by omega) (by simpa using h1) (by simp; omega) (by simp; try omega) (by simp at h1 ⊢; omega)]
    simp; omega
  · rw [orL 16 65536 acc _ (by decide) (by omega) (by simpa using h1) (by simp; omega) (by simp; try omega) (by simp at h1 ⊢; omega)]
    simp; omega
  · rw [orL 24 16777216 acc _ (by decide) (by omega) (by simpa using h1) (by simp; omega) (by simp; try omega) (by simp at h1 ⊢; omega)]
    simp; omega
set_option maxRecDepth 100000 in
set_option maxHeartbeats 8000000 in
theorem load_any {N : Nat} {w : World} {B g : Nat} {m : Mach} {mv : Value} (h : MS N w B m mv g) (a : Int) (c : Nat) (a0 : 0 ≤ a) (a1 : a < 4294967296) (hc : c ≤ 4) :
    Calls Tryd.prog 73 #[.pointer (some ⟨B, 0, none⟩), .int .u32 a, .int .i64 c] w fun e w' => e = .returned (.tuple #[.int .u32 (if m.mem.length < a.toNat + c then 0 else Rv.rd m.mem a.toNat c), .bool (decide (¬ m.mem.length < a.toNat + c))]) ∧ Gr w w' := by
  have HW := Lib.hid (where_any h a c a0 a1 hc)
  obtain ⟨p, rfl⟩ : ∃ p : Nat, a = p := ⟨a.toNat, by omega⟩
  rw [Int.toNat_natCast]
  obtain ⟨n, hn⟩ : ∃ n, m.mem.length = n := ⟨_, rfl⟩
  rw [hn]
  rw [hn] at HW
  by_cases hlt : n < p + c
  · have hd : decide ((p : Int) + (c : Int) ≤ (n : Int)) = false := by rw [decide_eq_false_iff_not]; omega
    rw [hd] at HW
    simp only [hlt, if_true, not_true, decide_false]
    clear hd hlt
    clear hn h
    go_enter Tryd.func73, Tryd.ntmps73
    go_wp2_with (go_at_call 89; refine HW.out.mono ?_; rintro _ w1 ⟨rfl, g1⟩)
    go_ret2
    exact ⟨rfl, g1⟩
  · have hd : decide ((p : Int) + (c : Int) ≤ (n : Int)) = true := by rw [decide_eq_true_iff]; omega
    rw [hd] at HW
    simp only [hlt, if_false, not_false_eq_true, decide_true]
    have HM := Lib.hid h
    have HN := Lib.hid hn
    have HL := Lib.hid hlt
    have hsm := h.small
    obtain ⟨A, cp, hmv⟩ := h.form
    rw [hn] at hmv hsm
    have HMV := Lib.hid hmv
    have hcI : (c : Int) ≤ 4 := by omega
    have hpI : (p : Int) + (c : Int) ≤ (n : Int) := by omega
    have hnI : (n : Int) ≤ 40000 := by omega
    have HBL : Hid (∀ w1, Gr w w1 → ∀ k, k < c → ∃ b, A = some ⟨b, 0, none⟩ ∧ w1.cell? ⟨b, p + k, none⟩ = some (.int .u8 (m.mem.getD (p + k) 0))) := by
      intro w1 g1 k hk
      have hb := (HM.out.gr g1).mem
      rw [hmv] at hb
      obtain ⟨b, hA, _, _, hcell⟩ := own_cells (n := n) (by have := hb; unfold Own1 at this; rw [List.length_map, hn] at this; exact this) rfl (by omega)
      refine ⟨b, hA, ?_⟩
      rw [hcell (p + k) (by omega), List.getElem?_map, getD_of (by omega)]; rfl
    have k34 : Hid (∀ w1, Gr w w1 → w1.cell? ⟨B, 34, none⟩ = some (.slice A n cp)) := fun w1 g1 => by rw [(HM.out.gr g1).row.mem, hmv]
    clear hd hlt hsm hmv h hn
    go_enter Tryd.func73, Tryd.ntmps73
    go_wp2_with (go_at_call 89; refine HW.out.mono ?_; rintro _ w1 ⟨rfl, g1⟩)
    have HG := Lib.hid g1
    have kk := k34.out w1 g1
    clear g1 k34
    go_loop [10, 22] (fun s j => ∃ k : Nat, k ≤ c ∧ j = .int .i64 k ∧ s = .int .u32 (Rv.rd m.mem p k)) (fun _ j => c - (intOf j).toNat)
    case atStart => exact ⟨0, by omega, rfl, rfl⟩
    case round =>
      obtain ⟨k, hk, rfl, rfl⟩ := hrel
      by_cases hkc : k < c
      · obtain ⟨b, rfl, kc⟩ := HBL.out w1 HG.out k hkc
        obtain ⟨q0, q1⟩ := Rv.rd_in HM.out.wf.mem k p
        have g0 := Rv.getD_in HM.out.wf.mem (p + k)
        have HO : Hid (bits .or .u32 (Rv.rd m.mem p k) (m.mem.getD (p + k) 0 * 2 ^ (8 * k) % 4294967296) = Rv.rd m.mem p (k + 1)) := by
          show _ = _
          rw [Rv.rd_snoc]
          exact rd_or _ _ _ (by omega) q0 q1 g0.1 g0.2
        have hkI : (k : Int) < (c : Int) := by omega
        have hkp : (p : Int) + (k : Int) < (n : Int) := by omega
        have q2 : Rv.rd m.mem p k < 4294967296 := by
          rcases (by omega : k = 0 ∨ k = 1 ∨ k = 2 ∨ k = 3) with e | e | e | e <;> rw [e] at q1 ⊢ <;> simp only [Int.reducePow] at q1 <;> omega
        generalize Rv.rd m.mem p k = acc at *
        generalize m.mem.getD (p + k) 0 = y at *
        have tn : ((p : Int) + (k : Int)).toNat = p + k := by omega
        clear q1
        go_wp2
        go_round
        case rel => exact ⟨k + 1, by omega, by go_num, by rw [← HO.out]⟩
        case measure => simp [intOf]; omega
      · have he : k = c := by omega
        subst he
        go_wp2
        go_ret2
        exact ⟨rfl, HG.out⟩
end Go.Proofs.YthiaaagoccpkcaaDoor

namespace Go.Proofs.YthiaaagoccpkcaaDoor
set_option linter.unusedSimpArgs false
set_option linter.unusedVariables false
open Go.RowKit

theorem wf_setR {m : Mach} (h : Rv.WfM m) (r n : Int) (n0 : 0 ≤ n) (n1 : n < 4294967296) : Rv.WfM (Rv.setR m r n) := by
  refine ⟨?_, ?_, ?_, h.mem⟩
  · unfold Rv.setR; dsimp only; split <;> simp [h.regs]
  · unfold Rv.setR; dsimp only
    split
    · intro z hz
      rcases List.mem_or_eq_of_mem_set hz with h' | h'
      · exact h.rin z h'
      · subst h'; exact ⟨n0, n1⟩
    · exact h.rin
  · unfold Rv.setR; dsimp only; omega
theorem wf_reg {m : Mach} (h : Rv.WfM m) (p : Nat) (n : Int) (n0 : 0 ≤ n) (n1 : n < 4294967296) : Rv.WfM { m with regs := m.regs.set p n } := by
  refine ⟨by simp [h.regs], ?_, h.pc, h.mem⟩
  intro z hz
  rcases List.mem_or_eq_of_mem_set hz with h' | h'
  · exact h.rin z h'
  · subst h'; exact ⟨n0, n1⟩
theorem wf_pc {m : Mach} (h : Rv.WfM m) (n : Int) (n0 : 0 ≤ n) (n1 : n < 4294967296) : Rv.WfM { m with pc := n } := ⟨h.regs, h.rin, ⟨n0, n1⟩, h.mem⟩
theorem wf_fin {m : Mach} (h : Rv.WfM m) (n : Int) : Rv.WfM { m with fin := n } := ⟨h.regs, h.rin, h.pc, h.mem⟩
section
variable {N : Nat} {w w' : World} {B g : Nat} {m : Mach} {mv : Value}
theorem MS.ne (h : MS N w B m mv g) : mv.ownBlock ≠ some B := by
  intro e
  have h1 := h.row.row
  rcases h.mem.2 with ⟨rfl, _⟩ | ⟨k, cap, cur, rfl, _, hg, _⟩
  · simp [Value.ownBlock] at e
  · simp [Value.ownBlock] at e
    subst e
    rw [h1] at hg
    simp at hg
theorem dec_set (h : DecAt w g) {a : Addr} (ha : g ≠ a.block) (u : Value) : DecAt (w.setCell a u) g := by
  obtain ⟨es, clock, hb, r⟩ := h
  exact ⟨es, clock, (Below.heap_setCell w a u g ha).trans hb, r⟩
theorem dec_cells (h : DecAt w g) {cs : Array Value} {t : TypeId} {fr : Nat × Nat} {k : Nat} (hk : w.heap[k]? = some (.cells cs t fr)) : g ≠ k := by
  obtain ⟨es, clock, hb, r⟩ := h
  intro e
  subst e
  rw [hb] at hk
  simp at hk
theorem MS.setCell (h : MS N w B m mv g) {i : Nat} {v : Value} {m' : Mach} (hr : MRow (w.setCell ⟨B, i, none⟩ v) B 88 m' mv [.map (some g)]) (hm : m'.mem = m.mem) (hw : Rv.WfM m') : MS N (w.setCell ⟨B, i, none⟩ v) B m' mv g := by
  refine ⟨hr, ?_, ?_, h.nB, hw, by rw [hm]; exact h.small⟩
  · rw [hm]; exact h.mem.setOther h.ne v
  · exact dec_set h.dec (dec_cells h.dec h.row.row) v
end
set_option maxRecDepth 100000 in
set_option maxHeartbeats 8000000 in
theorem set_any {N : Nat} {w : World} {B g : Nat} {m : Mach} {mv : Value} (h : MS N w B m mv g) (r n : Int) (r0 : 0 ≤ r) (r1 : r < 32) (n0 : 0 ≤ n) (n1 : n < 4294967296) :
    Calls Tryd.prog 74 #[.pointer (some ⟨B, 0, none⟩), .int .i64 r, .int .u32 n] w fun e w' => e = .returned (.tuple #[]) ∧ MS N w' B (Rv.setR m r n) mv g ∧ Below N w w' := by
  have HM := Lib.hid h
  have HW := Lib.hid (wf_setR h.wf r n n0 n1)
  have hpc := h.wf.pc
  obtain ⟨p, rfl⟩ : ∃ p : Nat, r = p := ⟨r.toNat, by omega⟩
  by_cases hp : 0 < p
  · have hpI : (0 : Int) < (p : Int) := by omega
    have c1 := h.row.reg p (by omega)
    have f1 := h.row.frozen p
    have k33 := (h.row.setReg p (by omega) n).pc
    have f33 := (h.row.setReg p (by omega) n).frozen 33
    dsimp only at k33
    generalize m.regs.getD p 0 = old at *
    have HK : Hid (Rv.setR m p n = { m with regs := m.regs.set p n, pc := (m.pc + 4) % 4294967296 }) := by
      show _ = _
      unfold Rv.setR
      rw [if_pos hpI]; rfl
    rw [HK.out] at HW
    rw [HK.out]
    clear h HK
    go_enter Tryd.func74, Tryd.ntmps74
    go_wp2
    go_end0
    have h1 := HM.out.setCell (HM.out.row.setReg p (by omega) n) rfl (wf_reg HM.out.wf p n n0 n1)
    have h2 := h1.setCell (h1.row.setPc ((m.pc + 4) % 4294967296)) rfl (wf_pc h1.wf _ (by omega) (by omega))
    exact ⟨rfl, h2, ((Below.refl N w).setCell HM.out.nB _).setCell HM.out.nB _⟩
  · have hp0 : p = 0 := by omega
    subst hp0
    have k33 := h.row.pc
    have f33 := h.row.frozen 33
    have HK : Hid (Rv.setR m (0 : Nat) n = { m with pc := (m.pc + 4) % 4294967296 }) := by
      show _ = _
      unfold Rv.setR
      rw [if_neg (by omega)]
    rw [HK.out] at HW
    rw [HK.out]
    clear h HK hp
    go_enter Tryd.func74, Tryd.ntmps74
    go_wp2
    go_end0
    have h2 := HM.out.setCell (HM.out.row.setPc ((m.pc + 4) % 4294967296)) rfl HW.out
    exact ⟨rfl, h2, (Below.refl N w).setCell HM.out.nB _⟩
end Go.Proofs.YthiaaagoccpkcaaDoor

namespace Go.Proofs.YthiaaagoccpkcaaDoor
set_option linter.unusedSimpArgs false
set_option linter.unusedVariables false
open Go.RowKit

theorem Rv.wr_snoc (i : Nat) : ∀ (k : Nat) (bs : List Int) (j : Nat) (n : Int), Rv.wr bs j (k + 1) n = (Rv.wr bs j k n).set (j + k) (n / 256 ^ k % 256)
  | 0, bs, j, n => by simp [Rv.wr]
  | k + 1, bs, j, n => by
    have e1 : Rv.wr bs j (k + 1 + 1) n = Rv.wr (bs.set j (n % 256)) (j + 1) (k + 1) (n / 256) := rfl
    have e2 : Rv.wr bs j (k + 1) n = Rv.wr (bs.set j (n % 256)) (j + 1) k (n / 256) := rfl
    rw [e1, e2, Rv.wr_snoc i k (bs.set j (n % 256)) (j + 1) (n / 256), show j + 1 + k = j + (k + 1) by omega, Int.ediv_ediv_of_nonneg (by decide), Int.pow_succ, Int.mul_comm 256]
theorem Rv.wr_len : ∀ (k : Nat) (bs : List Int) (j : Nat) (n : Int), (Rv.wr bs j k n).length = bs.length
  | 0, bs, j, n => rfl
  | k + 1, bs, j, n => by
    show (Rv.wr (bs.set j (n % 256)) (j + 1) k (n / 256)).length = _
    rw [Rv.wr_len k]; simp
theorem isBytes_set {bs : List Int} (h : Rv.isBytes bs) (i : Nat) (n : Int) : Rv.isBytes (bs.set i (n % 256)) := by
  intro z hz
  rcases List.mem_or_eq_of_mem_set hz with h' | h'
  · exact h z h'
  · subst h'; omega
theorem Rv.wr_bytes : ∀ (k : Nat) (bs : List Int) (j : Nat) (n : Int), Rv.isBytes bs → Rv.isBytes (Rv.wr bs j k n)
  | 0, bs, j, n, h => h
  | k + 1, bs, j, n, h => Rv.wr_bytes k _ _ _ (isBytes_set h j n)
theorem wf_mem {m : Mach} (h : Rv.WfM m) (l : List Int) (hl : Rv.isBytes l) : Rv.WfM { m with mem := l } := ⟨h.regs, h.rin, h.pc, hl⟩
theorem MS.setByte {N : Nat} {w : World} {B g : Nat} {m : Mach} {b n c : Nat} (h : MS N w B m (.slice (some ⟨b, 0, none⟩) n c) g) (j : Nat) (hj : j < m.mem.length) (y : Int) :
    MS N (w.setCell ⟨b, j, none⟩ (.int .u8 (y % 256))) B { m with mem := m.mem.set j (y % 256) } (.slice (some ⟨b, 0, none⟩) n c) g := by
  have hne : b ≠ B := fun e => h.ne (by rw [e]; rfl)
  have hb := h.mem.2
  refine ⟨⟨h.row.len, (h.row.other (a := ⟨b, j, none⟩) (fun e => hne e.symm) _).row⟩, ?_, ?_, h.nB, wf_mem h.wf _ (isBytes_set h.wf.mem j y), by simpa using h.small⟩
  · have := h.mem.set j (by simpa using hj) (.int .u8 (y % 256))
    dsimp only
    rw [List.map_set]
    exact this
  · refine dec_set h.dec ?_ _
    rcases hb with ⟨e0, _⟩ | ⟨k, cap, cur, e0, _, hg, _⟩
    · cases e0
    · injection e0 with e1
      injection e1 with e1
      injection e1 with e1
      subst e1
      exact dec_cells h.dec hg
set_option maxRecDepth 100000 in
set_option maxHeartbeats 8000000 in
theorem store_any {N : Nat} {w : World} {B g : Nat} {m : Mach} {mv : Value} (h : MS N w B m mv g) (a n : Int) (c : Nat) (a0 : 0 ≤ a) (a1 : a < 4294967296) (hc : c ≤ 4) (n0 : 0 ≤ n) (n1 : n < 4294967296) :
    Calls Tryd.prog 77 #[.pointer (some ⟨B, 0, none⟩), .int .u32 a, .int .i64 c, .int .u32 n] w fun e w' => e = .returned (.bool (decide (¬ m.mem.length < a.toNat + c))) ∧ MS N w' B (if m.mem.length < a.toNat + c then m else { m with mem := Rv.wr m.mem a.toNat c n }) mv g ∧ Below N w w' := by
  have HW := Lib.hid (where_any h a c a0 a1 hc)
  obtain ⟨p, rfl⟩ : ∃ p : Nat, a = p := ⟨a.toNat, by omega⟩
  rw [Int.toNat_natCast]
  obtain ⟨l, hl⟩ : ∃ l, m.mem.length = l := ⟨_, rfl⟩
  have HM := Lib.hid h
  rw [hl]
  rw [hl] at HW
  have HBG : Hid (∀ w1, Gr w w1 → Below N w w1) := fun w1 g1 => g1.mono (Nat.le_trans HM.out.nB (Nat.le_of_lt HM.out.row.lt))
  by_cases hlt : l < p + c
  · have hd : decide ((p : Int) + (c : Int) ≤ (l : Int)) = false := by rw [decide_eq_false_iff_not]; omega
    rw [hd] at HW
    simp only [hlt, if_true, not_true, decide_false]
    clear hd hlt hl h
    go_enter Tryd.func77, Tryd.ntmps77
    go_wp2_with (go_at_call 89; refine HW.out.mono ?_; rintro _ w1 ⟨rfl, g1⟩)
    go_ret
    exact ⟨rfl, HM.out.gr g1, HBG.out _ g1⟩
  · have hd : decide ((p : Int) + (c : Int) ≤ (l : Int)) = true := by rw [decide_eq_true_iff]; omega
    rw [hd] at HW
    simp only [hlt, if_false, not_false_eq_true, decide_true]
    have HL := Lib.hid hl
    have hsm := h.small
    obtain ⟨A, cp, hmv⟩ := h.form
    rw [hl] at hmv hsm
    subst hmv
    have hcI : (c : Int) ≤ 4 := by omega
    have hpI : (p : Int) + (c : Int) ≤ (l : Int) := by omega
    have hnI : (l : Int) ≤ 40000 := by omega
    have HC := Lib.hid hlt
    clear hd hlt hsm h hl
    go_enter Tryd.func77, Tryd.ntmps77
    go_wp2_with (go_at_call 89; refine HW.out.mono ?_; rintro _ w1 ⟨rfl, g1⟩)
    have HM1 := Lib.hid (HM.out.gr g1)
    have HB1 := Lib.hid (HBG.out _ g1)
    clear g1
    go_loopw [22] (fun j wr => ∃ k : Nat, k ≤ c ∧ j = .int .i64 k ∧ Hid (MS N wr B { m with mem := Rv.wr m.mem p k n } (.slice A l cp) g ∧ Below N w wr)) (fun j _ => c - (intOf j).toNat)
    case atStart => exact ⟨0, by omega, rfl, Lib.hid ⟨HM1.out, HB1.out⟩⟩
    case round =>
      obtain ⟨k, hk, rfl, HI⟩ := hrel
      by_cases hkc : k < c
      · have hkI : (k : Int) < (c : Int) := by omega
        have hkp : (p : Int) + (k : Int) < (l : Int) := by omega
        have tn : ((p : Int) + (k : Int)).toNat = p + k := by omega
        have z0 : (0 : Int) ≤ (p : Int) + (k : Int) := by omega
        have s1 : IntKind.i64.wrap ((p : Int) + (k : Int)) = (p : Int) + (k : Int) := IntWalk.i64_in _ (by omega)
        have s2 : IntKind.i64.wrap (8 * (k : Int)) = 8 * (k : Int) := IntWalk.i64_in _ (by omega)
        obtain ⟨b, rfl, kN, kc, kf⟩ : ∃ b, A = some ⟨b, 0, none⟩ ∧ N ≤ b ∧ (∃ old, wr.cell? ⟨b, p + k, none⟩ = some (.int .u8 old)) ∧ wr.frozen? ⟨b, p + k, none⟩ = false := by
          have hb := HI.out.1.mem
          have hll : ((Rv.wr m.mem p k n).map (Value.int .u8)).length = l := by rw [List.length_map, Rv.wr_len, HL.out]
          obtain ⟨b, hA, _, hN, hcell⟩ := own_cells (n := l) (by have := hb; unfold Own1 at this; rw [hll] at this; exact this) rfl (by have := HC.out; omega)
          subst hA
          refine ⟨b, rfl, hN, ?_, hb.frozen _⟩
          rw [hcell (p + k) (by have := HC.out; omega), List.getElem?_map, getD_of (by rw [Rv.wr_len, HL.out]; have := HC.out; omega)]
          exact ⟨_, rfl⟩
        obtain ⟨old, kc⟩ := kc
        have k34 := HI.out.1.row.mem
        clear hpI hnI
        go_wp2
        go_region
        go_wp2
        go_roundw
        case rel =>
          refine ⟨k + 1, by omega, by go_num, Lib.hid ?_⟩
          have e8 : (2 : Int) ^ (8 * k) = 256 ^ k := by rw [Int.pow_mul]; rfl
          rw [e8, Rv.wr_snoc 0]
          exact ⟨(HI.out.1.setByte (p + k) (by have h1 := HL.out; have h2 := HC.out; show _ < (Rv.wr m.mem p k n).length; rw [Rv.wr_len]; omega) (n / 256 ^ k)).gr ((Gr.refl _).drew), (HI.out.2.setCell kN _).drew⟩
        case measure => simp [intOf]; omega
      · have he : k = c := by omega
        subst he
        go_wp2
        go_ret
        exact ⟨rfl, HI.out⟩
end Go.Proofs.YthiaaagoccpkcaaDoor

namespace Go.Proofs.YthiaaagoccpkcaaDoor
set_option linter.unusedSimpArgs false
set_option linter.unusedVariables false
open Go.RowKit

/-- What bounds a valid instruction has. -/
theorem valid_in (x : RvI) (h : Rv.valid x = true) : (0 ≤ x.op ∧ x.op ≤ 40) ∧ (0 ≤ x.d ∧ x.d < 32) ∧ (0 ≤ x.a ∧ x.a < 32) ∧ (0 ≤ x.b ∧ x.b < 32) ∧ -1048576 ≤ x.imm ∧ x.imm ≤ 1048575 := by
  unfold Rv.valid at h
  simp only [Bool.and_eq_true, decide_eq_true_eq] at h
  obtain ⟨⟨⟨⟨⟨h1, h2⟩, h3⟩, h4⟩, h5⟩, h6⟩ := h
  have reg : ∀ (t : Bool) (n : Int), Rv.isReg t n = true → 0 ≤ n ∧ n < 32 := by
    intro t n hn
    unfold Rv.isReg at hn
    simp only [Bool.or_eq_true, Bool.and_eq_true, decide_eq_true_eq, beq_iff_eq] at hn
    omega
  refine ⟨⟨h1, h2⟩, reg _ _ h3, reg _ _ h4, reg _ _ h5, ?_⟩
  split at h6
  · unfold Rv.reaches at h6
    split at h6
    · simp at h6; omega
    · split at h6
      · simp at h6; omega
      · split at h6
        · simp at h6; omega
        · split at h6
          · simp at h6; omega
          · simp at h6; omega
  · simp at h6; omega
theorem bits_in (o : BinOp) (x y : Int) (h : o = .or ∨ o = .xor ∨ o = .and) : 0 ≤ bits o .u32 x y ∧ bits o .u32 x y < 4294967296 := by
  rcases h with rfl | rfl | rfl <;> (unfold bits; rw [wrap_u32]; omega)
theorem ite_rng {c : Prop} [Decidable c] {x y : Int} (hx : c → 0 ≤ x ∧ x < 4294967296) (hy : ¬c → 0 ≤ y ∧ y < 4294967296) : 0 ≤ (if c then x else y) ∧ (if c then x else y) < 4294967296 := by
  by_cases h : c
  · rw [if_pos h]; exact hx h
  · rw [if_neg h]; exact hy h
theorem calcM_in (op : Nat) (a b : Int) (a0 : 0 ≤ a) (a1 : a < 4294967296) (b0 : 0 ≤ b) (b1 : b < 4294967296) : 0 ≤ Rv.calcM op a b ∧ Rv.calcM op a b < 4294967296 := by
  have sh : 0 ≤ a / 2 ^ (b % 32).toNat ∧ a / 2 ^ (b % 32).toNat < 4294967296 := by
    have h2 : (0 : Int) < 2 ^ (b % 32).toNat := Int.pow_pos (by decide)
    exact ⟨Int.ediv_nonneg a0 (Int.le_of_lt h2), Int.lt_of_le_of_lt (Int.ediv_le_self _ a0) a1⟩
  have dv : 0 ≤ a / b ∧ a / b < 4294967296 := ⟨Int.ediv_nonneg a0 b0, Int.lt_of_le_of_lt (Int.ediv_le_self _ a0) a1⟩
  unfold Rv.calcM
  repeat' (refine ite_rng ?_ ?_ <;> intro _)
  all_goals first
    | exact bits_in _ _ _ (by simp)
    | exact sh
    | exact dv
    | omega
    | exact ⟨Int.emod_nonneg _ (show b ≠ 0 by omega), Int.lt_trans (Int.emod_lt_of_pos _ (show (0 : Int) < b by omega)) b1⟩
/-- The program's machine after a step: what the call hands back, what memory holds. -/
def StepRet (N : Nat) (w : World) (B : Nat) (m : Mach) (mv : Value) (g : Nat) : Ending → World → Prop :=
  fun e w' => e = .returned (.bool (Rv.stepO m).isSome) ∧ MS N w' B ((Rv.stepO m).getD m) mv g ∧ Below N w w'
theorem MS.below {N : Nat} {w w' : World} {B g : Nat} {m : Mach} {mv : Value} (h : MS N w B m mv g) (k : Gr w w') : Below N w w' := k.mono (Nat.le_trans h.nB (Nat.le_of_lt h.row.lt))
theorem stepO_fetch {m : Mach} (h : m.mem.length < m.pc.toNat + 4 ∨ m.pc % 4 ≠ 0) : Rv.stepO m = none := by
  unfold Rv.stepO; rw [if_pos h]
theorem stepO_none {m : Mach} (h : ¬ (m.mem.length < m.pc.toNat + 4 ∨ m.pc % 4 ≠ 0)) (hd : Rv.decode (Rv.rd m.mem m.pc.toNat 4) = none) : Rv.stepO m = none := by
  unfold Rv.stepO; rw [if_neg h, hd]
set_option maxRecDepth 100000 in
set_option maxHeartbeats 8000000 in
theorem step_fetch {N : Nat} {w : World} {B g : Nat} {m : Mach} {mv : Value} (h : MS N w B m mv g) (hf : m.mem.length < m.pc.toNat + 4 ∨ m.pc % 4 ≠ 0) :
    Calls Tryd.prog 52 #[.pointer (some ⟨B, 0, none⟩)] w (StepRet N w B m mv g) := by
  have HM := Lib.hid h
  have HL := Lib.hid (load_any h m.pc 4 h.wf.pc.1 h.wf.pc.2 (by omega))
  have HR : Hid (Rv.stepO m = none) := stepO_fetch hf
  have k33 := h.row.pc
  have HK : Hid (∀ w1, Gr w w1 → w1.cell? ⟨B, 33, none⟩ = some (.int .u32 m.pc)) := fun w1 g1 => (HM.out.gr g1).row.pc
  by_cases hlt : m.mem.length < m.pc.toNat + 4
  · have hd : decide (¬ m.mem.length < m.pc.toNat + 4) = false := by simp; omega
    rw [hd, if_pos hlt] at HL
    clear hd hlt hf h
    go_enter Tryd.func52, Tryd.ntmps52
    go_wp2_with (go_at_call 73; refine HL.out.mono ?_; rintro _ w1 ⟨rfl, g1⟩)
    go_ret
    refine ⟨?_, ?_, HM.out.below g1⟩
    · rw [HR.out]; rfl
    · rw [HR.out]; exact HM.out.gr g1
  · have hd : decide (¬ m.mem.length < m.pc.toNat + 4) = true := by simp; omega
    have hz : ¬ (m.pc % 4 = 0) := fun e => by rcases hf with h1 | h1 <;> omega
    have hz' : (m.pc % 4 != 0) = true := by simpa using hz
    rw [hd, if_neg hlt] at HL
    generalize Rv.rd m.mem m.pc.toNat 4 = z at *
    have p0 := HM.out.wf.pc
    generalize m.pc = pc at *
    clear hd hlt hf h hz
    go_enter Tryd.func52, Tryd.ntmps52
    go_wp2_with (go_at_call 73; refine HL.out.mono ?_; rintro _ w1 ⟨rfl, g1⟩; have kk := HK.out _ g1)
    go_ret
    refine ⟨?_, ?_, HM.out.below g1⟩
    · rw [HR.out]; rfl
    · rw [HR.out]; exact HM.out.gr g1
end Go.Proofs.YthiaaagoccpkcaaDoor

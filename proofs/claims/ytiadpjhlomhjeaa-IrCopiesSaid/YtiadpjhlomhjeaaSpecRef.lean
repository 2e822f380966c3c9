/- The document's answer (backstayref03) as plain Lean functions on data. No program in sight. -/
import Derived.Test.YtiadpjhlomhjeaaMem
namespace Go.Proofs.Ytiadpjhlomhjeaa
namespace Ref

def isWidth (n : Int) : Bool := decide (1 ≤ n) && decide (n ≤ 32)
def isWordOf (n x : Int) : Bool := isWidth n && decide (x < 2 ^ n.toNat)
def isLast (op : Int) : Bool := decide (op = 29) || decide (op = 30) || decide (op = 31) || decide (op = 32)
def plain0 (fl im : Int) : Bool := decide (fl = 0) && decide (im = 0)
def plain (x : Ins) : Bool := plain0 x.flags x.imm
def arith0 (op fl : Int) : Bool :=
  if op = 1 ∨ op = 2 ∨ op = 3 ∨ op = 11 then decide (0 ≤ fl) && decide (fl ≤ 3)
  else if op = 4 ∨ op = 6 ∨ op = 12 ∨ op = 13 then decide (fl = 0) || decide (fl = 4)
  else decide (fl = 0)
def arith (x : Ins) : Bool := arith0 x.op x.flags
def has (l : List Int) (n : Int) : Bool := l.any fun z => decide (z = n)
def sameInts : List Int → List Int → Bool
  | [], [] => true
  | a :: as, b :: bs => decide (a = b) && sameInts as bs
  | _, _ => false
def total (bs : List (List Ins)) : Nat := (bs.map List.length).sum
def number (f : Fn) (k : Nat) : Nat := f.params.length + total (f.blocks.take k)
def count (f : Fn) : Nat := number f f.blocks.length
/-- where, over blocks with the number of the first one: the block and the place; (-1, -1) if there is none. -/
def whereFrom (v : Int) : List (List Ins) → Nat → Nat → Int × Int
  | [], _, _ => (-1, -1)
  | l :: r, b, n => if (n : Int) ≤ v ∧ v < n + l.length then (b, v - n) else whereFrom v r (b + 1) (n + l.length)
def whereIs (f : Fn) (v : Int) : Int × Int := whereFrom v f.blocks 0 f.params.length
/-- the instruction at a block and a place. -/
def insAt? (f : Fn) (b i : Int) : Option Ins := (f.blocks[b.toNat]?).bind fun l => l[i.toNat]?
def kind (f : Fn) (v : Int) : Int :=
  if v < 0 ∨ (count f : Int) ≤ v then -1
  else if v < f.params.length then f.params.getD v.toNat 0
  else ((insAt? f (whereIs f v).1 (whereIs f v).2).map (·.width)).getD 0

/-- shape: how many Args (-1: as many as To), how many in To (-1: any), and whether Width, Flags and Imm are right. -/
def shape (f : Fn) (x : Ins) : Int × Int × Bool :=
  if x.op = 0 then (0, 0, isWidth x.width && decide (x.flags = 0) && isWordOf x.width x.imm)
  else if x.op = 14 then (2, 0, decide (x.width = 1) && decide (x.flags = 0) && decide (x.imm ≤ 9))
  else if x.op = 15 then (3, 0, (isWidth x.width || decide (x.width = 33)) && plain x)
  else if x.op = 16 ∨ x.op = 17 ∨ x.op = 18 ∨ x.op = 21 then (1, 0, isWidth x.width && plain x)
  else if x.op = 19 ∨ x.op = 20 then (2, 0, isWidth x.width && decide (x.flags = 0) && decide (1 ≤ x.imm) && decide (x.imm < x.width) && decide (x.width % x.imm = 0))
  else if x.op = 22 ∨ x.op = 23 then (0, 0, isWidth x.width && plain x)
  else if x.op = 24 then (0, 0, decide (x.width = 33) && decide (x.flags = 0) && decide (x.imm < f.slots.length))
  else if x.op = 25 then (2, 0, decide (x.width = 33) && decide (x.imm = 0) && (decide (x.flags = 0) || decide (x.flags = 8)))
  else if x.op = 26 then (1, 0, (decide (x.width = 8) || decide (x.width = 16) || decide (x.width = 32)) && plain x)
  else if x.op = 27 then (2, 0, decide (x.width = 0) && plain x)
  else if x.op = 28 then (-1, -1, (isWidth x.width || decide (x.width = 33)) && plain x && decide (0 < x.args.length))
  else if x.op = 29 then (0, 1, decide (x.width = 0) && plain x)
  else if x.op = 30 then (1, 2, decide (x.width = 0) && plain x)
  else if x.op = 31 then (if 0 < f.ret then 1 else 0, 0, decide (x.width = 0) && plain x)
  else if x.op = 32 then (0, 0, decide (x.width = 0) && plain x)
  else if 1 ≤ x.op ∧ x.op ≤ 13 then (2, 0, isWidth x.width && decide (x.imm = 0) && arith x)
  else (0, 0, false)
def counts (s : Int × Int × Bool) (x : Ins) : Bool :=
  !(decide (0 ≤ s.1) && decide ((x.args.length : Int) ≠ s.1) || decide (s.1 < 0) && decide (x.args.length ≠ x.to.length) || decide (0 ≤ s.2.1) && decide ((x.to.length : Int) ≠ s.2.1))
def argument (f : Fn) (x : Ins) : Bool :=
  (shape f x).2.2 && counts (shape f x) x && x.to.all (fun z => decide (0 ≤ z) && decide (z < f.blocks.length)) && (decide (x.op ≠ 30) || decide (x.to.getD 0 0 ≠ x.to.getD 1 0))
/-- the successors: those of the last instruction of each block. -/
def graph (f : Fn) : List (List Int) := f.blocks.map fun l => (l.getLast?.map (·.to)).getD []
def beforeFrom (v : Int) : List (List Int) → Nat → List Int
  | [], _ => []
  | l :: r, b => if has l v then (b : Int) :: beforeFrom v r (b + 1) else beforeFrom v r (b + 1)
def before (g : List (List Int)) (v : Int) : List Int := beforeFrom v g 0
/-- the instructions of a block: the last one alone ends it, and a Phi stands behind Phis alone. prev: the one before is a Phi, or there is none. -/
def laidFrom : List Ins → Bool → Bool
  | [], _ => true
  | x :: r, prev => (isLast x.op == r.isEmpty) && (decide (x.op ≠ 28) || prev) && laidFrom r (decide (x.op = 28))
def laid (l : List Ins) : Bool := !l.isEmpty && laidFrom l true
def phisFrom (g : List (List Int)) : List (List Ins) → Nat → Bool
  | [], _ => true
  | l :: r, b => l.all (fun x => decide (x.op ≠ 28) || sameInts x.to (before g b)) && phisFrom g r (b + 1)
def rules (f : Fn) : Bool := f.blocks.all laid && (before (graph f) 0).isEmpty && phisFrom (graph f) f.blocks 0
def isMem (k : Int) : Bool := decide (k = 8) || decide (k = 16) || decide (k = 32)
def typedKinds (f : Fn) (x : Ins) (k : List Int) : Bool :=
  if x.op = 14 then isWidth (k.getD 0 0) && decide (k.getD 1 0 = k.getD 0 0)
  else if x.op = 15 then decide (k.getD 0 0 = 1) && decide (k.getD 1 0 = x.width) && decide (k.getD 2 0 = x.width)
  else if x.op = 16 ∨ x.op = 17 then isWidth (k.getD 0 0) && decide (k.getD 0 0 < x.width)
  else if x.op = 18 then isWidth (k.getD 0 0) && decide (x.width < k.getD 0 0)
  else if x.op = 25 then decide (k.getD 0 0 = 33) && isWidth (k.getD 1 0)
  else if x.op = 26 then decide (k.getD 0 0 = 33)
  else if x.op = 27 then decide (k.getD 0 0 = 33) && isMem (k.getD 1 0)
  else if x.op = 30 then decide (k.getD 0 0 = 1)
  else if x.op = 31 then decide (k.length = 0) || decide (k.getD 0 0 = f.ret)
  else k.all fun z => decide (z = x.width)
def typed (f : Fn) (x : Ins) : Bool := x.args.all (fun v => decide (0 ≤ kind f v)) && typedKinds f x (x.args.map (kind f))

/-- one edge, one block, one round of the spreading. -/
def spreadEdge (without : Int) (out : List Bool) (t : Int) : List Bool := if t = without then out else out.set t.toNat true
def spreadBlock (without : Int) (g : List (List Int)) (out : List Bool) (b : Nat) : List Bool := if out.getD b false then (g.getD b []).foldl (spreadEdge without) out else out
def spreadRound (without : Int) (g : List (List Int)) (out : List Bool) : List Bool := (List.range g.length).foldl (spreadBlock without g) out
def spread (without : Int) (g : List (List Int)) : Nat → List Bool → List Bool
  | 0, out => out
  | n + 1, out => spread without g n (spreadRound without g out)
def reached (g : List (List Int)) (without : Int) : List Bool :=
  if without = 0 then List.replicate g.length false else spread without g g.length ((List.replicate g.length false).set 0 true)
def dominates (g : List (List Int)) (a b : Int) : Bool := decide (a = b) || !(reached g a).getD b.toNat false
def there (f : Fn) (g : List (List Int)) (v block place : Int) : Bool :=
  if (whereIs f v).1 < 0 then true
  else if (whereIs f v).1 = block then decide (place < 0) || decide ((whereIs f v).2 < place)
  else dominates g (whereIs f v).1 block
def argOk (f : Fn) (g : List (List Int)) (inn : List Bool) (b i : Nat) (x : Ins) (v t : Int) : Bool :=
  if x.op = 28 then !inn.getD t.toNat false || there f g v t (-1) else there f g v b i
def argsFrom (f : Fn) (g : List (List Int)) (inn : List Bool) (b i : Nat) (x : Ins) : List Int → Nat → Bool
  | [], _ => true
  | v :: r, k => argOk f g inn b i x v (x.to.getD k 0) && argsFrom f g inn b i x r (k + 1)
def insFrom (f : Fn) (g : List (List Int)) (inn : List Bool) (b : Nat) : List Ins → Nat → Bool
  | [], _ => true
  | x :: r, i => argsFrom f g inn b i x x.args 0 && insFrom f g inn b r (i + 1)
def blksFrom (f : Fn) (g : List (List Int)) (inn : List Bool) : List (List Ins) → Nat → Bool
  | [], _ => true
  | l :: r, b => (!inn.getD b false || insFrom f g inn b l 0) && blksFrom f g inn r (b + 1)
def stated (f : Fn) : Bool := blksFrom f (graph f) (reached (graph f) (-1)) f.blocks 0
def isSlot (n : Int) : Bool := decide (1 ≤ n) && decide (n ≤ 8)
def validate (f : Fn) : Int :=
  if 3 < f.params.length ∨ 2 < f.slots.length ∨ f.blocks.length < 1 ∨ 10 < f.blocks.length then 3
  else if 40 < total f.blocks then 3
  else if f.ret < 0 ∨ 32 < f.ret then 1
  else if f.params.all isWidth = false then 1
  else if f.slots.all isSlot = false then 1
  else if f.blocks.all (fun l => l.all (argument f)) = false then 1
  else if rules f = false then 7
  else if f.blocks.all (fun l => l.all (typed f)) = false then 6
  else if stated f = false then 9
  else 0

theorem sameInts_eq : ∀ (a b : List Int), sameInts a b = decide (a = b)
  | [], [] => by simp [sameInts]
  | [], _ :: _ => by simp [sameInts]
  | _ :: _, [] => by simp [sameInts]
  | a :: as, b :: bs => by
    rw [sameInts, sameInts_eq as bs]
    by_cases h : a = b <;> by_cases h2 : as = bs <;> simp [h, h2]

theorem total_cons (l : List Ins) (r : List (List Ins)) : total (l :: r) = l.length + total r := by simp [total]
theorem total_take_succ (bs : List (List Ins)) (k : Nat) (l : List Ins) (h : bs[k]? = some l) : total (bs.take (k + 1)) = total (bs.take k) + l.length := by
  obtain ⟨hk, e⟩ := List.getElem?_eq_some_iff.1 h
  subst e
  unfold total
  rw [List.take_succ_eq_append_getElem hk, List.map_append, List.sum_append]; simp

/-- A value between the parameters and the end has a block and a place. -/
theorem whereFrom_some (v : Int) : ∀ (bs : List (List Ins)) (b n : Nat), (n : Int) ≤ v → v < (n + total bs : Nat) →
    ∃ (j i : Nat) (l : List Ins) (x : Ins), whereFrom v bs b n = (((b + j : Nat) : Int), (i : Int)) ∧ bs[j]? = some l ∧ l[i]? = some x ∧ v = n + total (bs.take j) + i
  | [], b, n, h1, h2 => by simp [total] at h2; omega
  | l :: r, b, n, h1, h2 => by
    rw [total_cons] at h2
    by_cases h : v < n + l.length
    · refine ⟨0, (v - n).toNat, l, l[(v - n).toNat]'(by omega), ?_, rfl, by simp, by simp [total]; omega⟩
      rw [whereFrom, if_pos ⟨h1, h⟩]
      simp; omega
    · obtain ⟨j, i, l', x, h3, h4, h5, h6⟩ := whereFrom_some v r (b + 1) (n + l.length) (by omega) (by omega)
      refine ⟨j + 1, i, l', x, ?_, by simpa using h4, h5, ?_⟩
      · rw [whereFrom, if_neg (by omega), h3]
        rw [show b + 1 + j = b + (j + 1) by omega]
      · rw [List.take_succ_cons, total_cons]; omega
theorem whereIs_some (f : Fn) (v : Int) (h1 : (f.params.length : Int) ≤ v) (h2 : v < count f) :
    ∃ (j i : Nat) (l : List Ins) (x : Ins), whereIs f v = ((j : Int), (i : Int)) ∧ f.blocks[j]? = some l ∧ l[i]? = some x ∧ v = f.params.length + total (f.blocks.take j) + i := by
  obtain ⟨j, i, l, x, h3, h4, h5, h6⟩ := whereFrom_some v f.blocks 0 f.params.length h1 (by unfold count number at h2; rw [List.take_length] at h2; exact h2)
  exact ⟨j, i, l, x, by rw [whereIs, h3]; simp, h4, h5, h6⟩
/-- A parameter, or what is no value, has none. -/
theorem whereFrom_none (v : Int) : ∀ (bs : List (List Ins)) (b n : Nat), v < n → whereFrom v bs b n = (-1, -1)
  | [], b, n, h => rfl
  | l :: r, b, n, h => by rw [whereFrom, if_neg (by omega)]; exact whereFrom_none v r (b + 1) (n + l.length) (by omega)
end Ref
end Go.Proofs.Ytiadpjhlomhjeaa

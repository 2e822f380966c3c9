/- Worlds that only grow: what a call leaves as it was. No program in sight. -/
import Derived.Test.YtiadpjhlomhjeaaMem
import Derived.Deep.Draws
namespace Go.Proofs.Ytiadpjhlomhjeaa
open Go.RowKit

/-- Nothing that was there in w has turned in w'. -/
def Gr (w w' : World) : Prop := Below w.heap.size w w'

section
variable {w a b c : World}
theorem Gr.refl (w : World) : Gr w w := Below.refl _ _
theorem Gr.size (h : Gr a b) : a.heap.size ≤ b.heap.size := Below.size h
theorem Gr.trans (h : Gr a b) (k : Gr b c) : Gr a c := Below.trans h (Below.mono k h.size)
theorem Gr.alloc (h : Gr w a) (o : Obj) : Gr w (a.alloc o) := Below.alloc h h.size o
theorem Gr.drew (h : Gr w a) : Gr w a.drew := Below.drew h
theorem Gr.drewN (h : Gr w a) (n : Nat) : Gr w (a.drewN n) := ⟨h.os, h.tape, h.output, h.size, h.block⟩
theorem Gr.setCell (h : Gr w a) {p : Addr} (hp : w.heap.size ≤ p.block) (u : Value) : Gr w (a.setCell p u) := Below.setCell h hp u
theorem Gr.grown {row : Option Nat} (h : Gr w a) (hg : a.grownBy b row) (hr : ∀ k, row = some k → w.heap.size ≤ k) : Gr w b := Below.grown h hg h.size hr
theorem Gr.cell (h : Gr a b) : ∀ k o, k < a.heap.size → b.cell? ⟨k, o, none⟩ = a.cell? ⟨k, o, none⟩ := fun k o hk => Below.cell (p := ⟨k, o, none⟩) h hk
theorem Gr.frozen (h : Gr a b) : ∀ k o, k < a.heap.size → b.frozen? ⟨k, o, none⟩ = a.frozen? ⟨k, o, none⟩ := fun k o hk => Below.frozen (p := ⟨k, o, none⟩) h hk
theorem Gr.heap (h : Gr a b) : ∀ k, k < a.heap.size → b.heap[k]? = a.heap[k]? := fun k hk => h.block k hk
theorem IntsAt.gr {v : Value} {zs : List Int} (h : IntsAt a.heap.size a v zs) (g : Gr a b) : IntsAt b.heap.size b v zs := (h.below g).mono g.size
theorem BlkAt.gr {v : Value} {l : List Ins} (h : BlkAt a.heap.size a v l) (g : Gr a b) : BlkAt b.heap.size b v l := (h.below g).mono g.size
theorem BlksAt.gr {v : Value} {l : List (List Ins)} (h : BlksAt a.heap.size a v l) (g : Gr a b) : BlksAt b.heap.size b v l := (h.below g).mono g.size
theorem FnAt.gr {v : Value} {f : Fn} (h : FnAt a.heap.size a v f) (g : Gr a b) : FnAt b.heap.size b v f := (h.below g).mono g.size
end

theorem ret_bool {a b : Bool} (h : a = b) : Ending.returned (.bool a) = .returned (.bool b) := by rw [h]
theorem ret_int {k : IntKind} {a b : Int} (h : a = b) : Ending.returned (.int k a) = .returned (.int k b) := by rw [h]
theorem ret_val {a b : Value} (h : a = b) : Ending.returned a = .returned b := by rw [h]

/-- The value of an instruction. -/
def insVal (x : Ins) (va vt : Value) : Value := .agg #[.int .i64 x.op, .int .i64 x.width, .int .i64 x.flags, va, .int .u32 x.imm, vt]
/-- v is the value of an instruction. -/
def InsV (B : Nat) (w : World) (v : Value) (x : Ins) : Prop := ∃ va vt, v = insVal x va vt ∧ IntsAt B w va x.args ∧ IntsAt B w vt x.to

/-- A table: a slice of slices of numbers. -/
def TabAt (B : Nat) (w : World) (v : Value) (t : List (List Int)) : Prop :=
  SlAt B v t.length fun b off => ∀ j l, t[j]? = some l → ∃ u, w.cell? ⟨b, off + j, none⟩ = some u ∧ IntsAt B w u l
theorem TabAt.below {B : Nat} {w w' : World} {v : Value} {t : List (List Int)} (h : TabAt B w v t) (hb : Below B w w') : TabAt B w' v t :=
  SlAt.imp h fun b off hlt hR j l hl => by
    obtain ⟨u, hu, hbl⟩ := hR j l hl
    exact ⟨u, (hb.cell (p := ⟨b, off + j, none⟩) hlt).trans hu, hbl.below hb⟩
theorem TabAt.mono {B B' : Nat} {w : World} {v : Value} {t : List (List Int)} (h : TabAt B w v t) (hB : B ≤ B') : TabAt B' w v t :=
  SlAt.mono (SlAt.imp h fun _ _ _ hR j l hl => by
    obtain ⟨u, hu, hbl⟩ := hR j l hl
    exact ⟨u, hu, hbl.mono hB⟩) hB
theorem TabAt.gr {a b : World} {v : Value} {l : List (List Int)} (h : TabAt a.heap.size a v l) (g : Gr a b) : TabAt b.heap.size b v l := (h.below g).mono g.size
/-- v reads as the bools bs. -/
def BoolsAt (B : Nat) (w : World) (v : Value) (bs : List Bool) : Prop :=
  SlAt B v bs.length fun b off => ∀ j z, bs[j]? = some z → w.cell? ⟨b, off + j, none⟩ = some (.bool z)
theorem BoolsAt.below {B : Nat} {w w' : World} {v : Value} {zs : List Bool} (h : BoolsAt B w v zs) (hb : Below B w w') : BoolsAt B w' v zs :=
  SlAt.imp h fun b off hlt hR j z hz => (hb.cell (p := ⟨b, off + j, none⟩) hlt).trans (hR j z hz)
theorem BoolsAt.mono {B B' : Nat} {w : World} {v : Value} {zs : List Bool} (h : BoolsAt B w v zs) (hB : B ≤ B') : BoolsAt B' w v zs := SlAt.mono h hB
theorem BoolsAt.gr {a b : World} {v : Value} {l : List Bool} (h : BoolsAt a.heap.size a v l) (g : Gr a b) : BoolsAt b.heap.size b v l := (h.below g).mono g.size

/-- A callee that leaves the world alone, met in a region that draws its order. -/
theorem quiet_same {P : Program} {f : FuncId} {args : Array Value} {w : World} {n : Nat} {v : Value}
    (h : Calls P f args (w.drewN n) fun e w' => e = .returned v ∧ w.drewN n = w') : Calls P f args (w.drewN n) fun e w'' => e = .returned v ∧ ∃ m, w'' = w.drewN m :=
  h.mono fun _ _ ⟨he, hm⟩ => ⟨he, n, hm.symm⟩
end Go.Proofs.Ytiadpjhlomhjeaa

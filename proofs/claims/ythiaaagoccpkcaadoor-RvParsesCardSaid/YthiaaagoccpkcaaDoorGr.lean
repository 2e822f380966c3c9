/- Worlds that only grow: what a call leaves as it was. No program in sight. -/
import Derived.WalkKit
import Derived.WalkSpells
import Derived.WalkLawsBesides
import Derived.Deep.Draws
import Derived.Lib.Hide
namespace Go.Proofs.YthiaaagoccpkcaaDoor
open Go.RowKit

/-- Nothing that was there in w has turned in w'. -/
def Gr (w w' : World) : Prop := Below w.heap.size w w'

section
variable {w a b c : World}
theorem Gr.refl (w : World) : Gr w w := Below.refl _ _
theorem Gr.size (h : Gr a b) : a.heap.size ≤ b.heap.size := Below.size h
theorem Gr.trans (h : Gr a b) (k : Gr b c) : Gr a c := Below.trans h (Below.mono k h.size)
theorem Gr.alloc (h : Gr w a) (o : Obj) : Gr w (a.alloc o) := Below.alloc h h.size o
theorem Gr.drew (h : Gr w a) : Gr w a.drew := Below.drew h
theorem Gr.drewN (h : Gr w a) (n : Nat) : Gr w (a.drewN n) := ⟨h.os, h.tape, h.output, h.size, h.block⟩
theorem Gr.setCell (h : Gr w a) {p : Addr} (hp : w.heap.size ≤ p.block) (u : Value) : Gr w (a.setCell p u) := Below.setCell h hp u
theorem Gr.grown {row : Option Nat} (h : Gr w a) (hg : a.grownBy b row) (hr : ∀ k, row = some k → w.heap.size ≤ k) : Gr w b := Below.grown h hg h.size hr
theorem Gr.cell (h : Gr a b) : ∀ k o, k < a.heap.size → b.cell? ⟨k, o, none⟩ = a.cell? ⟨k, o, none⟩ := fun k o hk => Below.cell (p := ⟨k, o, none⟩) h hk
theorem Gr.frozen (h : Gr a b) : ∀ k o, k < a.heap.size → b.frozen? ⟨k, o, none⟩ = a.frozen? ⟨k, o, none⟩ := fun k o hk => Below.frozen (p := ⟨k, o, none⟩) h hk
theorem Gr.heap (h : Gr a b) : ∀ k, k < a.heap.size → b.heap[k]? = a.heap[k]? := fun k hk => h.block k hk
end

theorem ret_bool {a b : Bool} (h : a = b) : Ending.returned (.bool a) = .returned (.bool b) := by rw [h]
theorem ret_int {k : IntKind} {a b : Int} (h : a = b) : Ending.returned (.int k a) = .returned (.int k b) := by rw [h]
theorem ret_val {a b : Value} (h : a = b) : Ending.returned a = .returned b := by rw [h]
end Go.Proofs.YthiaaagoccpkcaaDoor

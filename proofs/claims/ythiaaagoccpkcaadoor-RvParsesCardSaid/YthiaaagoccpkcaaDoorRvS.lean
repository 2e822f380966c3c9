/- The tables of the library that the text wants; the names of the operations. -/
import Derived.Test.YthiaaagoccpkcaaDoorRvR
import Derived.Test.YthiaaagoccpkcaaDoorShelf
import Derived.Lib.AppendIntMem
import Derived.Lib.ItoaNum
namespace Go.Proofs.YthiaaagoccpkcaaDoor
open Go.RowKit

/-- What is known of the library's tables. -/
def Tabs (w : World) : Prop := Lib.TabIs Tryd.prog w "strings.asciiSpace" .u8 Lib.asciiSpaceTab ∧ Lib.TabIs Tryd.prog w "internal/strconv.uint64pow10" .u64 Lib.pow10Tab
theorem tabIs_gr {w w' : World} {n : String} {k : IntKind} {zs : List Int} (h : Lib.TabIs Tryd.prog w n k zs) (g : Gr w w') : Lib.TabIs Tryd.prog w' n k zs := by
  unfold Lib.TabIs World.var? at h ⊢
  cases hg : (Tryd.prog).globalNamed n with
  | none => rw [hg] at h; simp at h
  | some b =>
    rw [hg] at h
    simp only [Option.bind_some] at h ⊢
    cases hb : w.heap[b]? with
    | none => rw [hb] at h; simp at h
    | some o =>
      rw [hb] at h
      rw [g.heap b (Array.getElem?_eq_some_iff.1 hb).1, hb]
      exact h
theorem Tabs.gr {w w' : World} (h : Tabs w) (g : Gr w w') : Tabs w' := ⟨tabIs_gr h.1 g, tabIs_gr h.2 g⟩
theorem gr_grow (w : World) (k : Nat) (os : Array Obj) : Gr w (Sort.grow (w.drewN k) os) := Lib.below_grow w.heap.size w (Nat.le_refl _) k os

def opBytes : List UInt8 := [97, 100, 100, 32, 115, 117, 98, 32, 115, 108, 108, 32, 115, 108, 116, 32, 115, 108, 116, 117, 32, 120, 111, 114, 32, 115, 114, 108, 32, 115, 114, 97, 32, 111, 114, 32, 97, 110, 100, 32, 109, 117, 108, 32, 100, 105, 118, 32, 100, 105, 118, 117, 32, 114, 101, 109, 32, 114, 101, 109, 117, 32, 97, 100, 100, 105, 32, 115, 108, 116, 105, 32, 115, 108, 116, 105, 117, 32, 120, 111, 114, 105, 32, 111, 114, 105, 32, 97, 110, 100, 105, 32, 115, 108, 108, 105, 32, 115, 114, 108, 105, 32, 115, 114, 97, 105, 32, 108, 117, 105, 32, 108, 98, 117, 32, 108, 104, 117, 32, 108, 119, 32, 115, 98, 32, 115, 104, 32, 115, 119, 32, 98, 101, 113, 32, 98, 110, 101, 32, 98, 108, 116, 32, 98, 103, 101, 32, 98, 108, 116, 117, 32, 98, 103, 101, 117, 32, 106, 97, 108, 32, 106, 97, 108, 114, 32, 101, 99, 97, 108, 108, 32, 101, 98, 114, 101, 97, 107]
def opNames : List (List UInt8) := [[97, 100, 100], [115, 117, 98], [115, 108, 108], [115, 108, 116], [115, 108, 116, 117], [120, 111, 114], [115, 114, 108], [115, 114, 97], [111, 114], [97, 110, 100], [109, 117, 108], [100, 105, 118], [100, 105, 118, 117], [114, 101, 109], [114, 101, 109, 117], [97, 100, 100, 105], [115, 108, 116, 105], [115, 108, 116, 105, 117], [120, 111, 114, 105], [111, 114, 105], [97, 110, 100, 105], [115, 108, 108, 105], [115, 114, 108, 105], [115, 114, 97, 105], [108, 117, 105], [108, 98, 117], [108, 104, 117], [108, 119], [115, 98], [115, 104], [115, 119], [98, 101, 113], [98, 110, 101], [98, 108, 116], [98, 103, 101], [98, 108, 116, 117], [98, 103, 101, 117], [106, 97, 108], [106, 97, 108, 114], [101, 99, 97, 108, 108], [101, 98, 114, 101, 97, 107]]
theorem fields_names : Lib.fields opBytes = opNames := by kernel_rfl
def namesRow : Array Value := (opNames.map fun l => Value.string ⟨l.toArray⟩).toArray
def opName (n : Nat) : ByteArray := ⟨(opNames.getD n []).toArray⟩
theorem namesRow_at (n : Nat) (h : n ≤ 40) : namesRow[n]? = some (.string (opName n)) := by
  unfold namesRow opName
  rw [List.getElem?_toArray, List.getElem?_map]
  have hl : n < opNames.length := by
    have e : opNames.length = 41 := by decide
    omega
  rw [List.getD_eq_getElem?_getD, List.getElem?_eq_getElem hl]
  rfl
theorem opName_size (n : Nat) : (opName n).size ≤ 6 := by
  have key : ∀ l ∈ opNames, l.length ≤ 6 := by decide
  unfold opName
  show (opNames.getD n []).toArray.size ≤ 6
  rw [List.size_toArray, List.getD_eq_getElem?_getD]
  cases h : opNames[n]? with
  | none => simp
  | some l => exact key l (List.mem_of_getElem? h)
set_option maxRecDepth 1000000 in
theorem fields_op (s : ByteArray) (hs : s.data.toList = opBytes) (w : World) (ht : Tabs w) : Calls Tryd.prog 57 #[.string s] w fun e w' => e = .returned (.slice (some ⟨w.heap.size, 0, none⟩) 41 41) ∧ w' = w.alloc (.cells namesRow 9) := by
  have hz : s.size = opBytes.length := by rw [← hs]; rfl
  have h1 : s.size < 4294967281 := by rw [hz]; decide
  have hasc : ∀ (j : Nat) b, s.data.toList[j]? = some b → b.toNat < 128 := by
    rw [hs]
    have key : ∀ b ∈ opBytes, b.toNat < 128 := by decide
    exact fun j b hb => key b (List.mem_of_getElem? hb)
  have h := Tryd.strings_Fields_laid s w h1 hasc ht.1
  rw [hs, fields_names] at h
  exact h
set_option maxRecDepth 1000000 in
set_option maxHeartbeats 4000000 in
theorem name_any (n : Nat) (hn : n ≤ 40) (w : World) (ht : Tabs w) : Calls Tryd.prog 63 #[.int .i64 (n : Int)] w fun e w' => e = .returned (.string (opName n)) ∧ Gr w w' := by
  have h0 : (0 : Int) ≤ (n : Int) := by omega
  have h1 : (n : Int) < 41 := by omega
  have HT := Lib.hid ht
  have hc : ∀ w1 : World, (w1.alloc (.cells namesRow 9)).cell? ⟨w1.heap.size, n, none⟩ = some (.string (opName n)) := fun w1 => (cell_of_row _ _ n _ _ _ (heap_alloc_new w1 _)).trans (namesRow_at n hn)
  have hc1 := hc w
  clear ht hc
  go_enter Tryd.func63, Tryd.ntmps63
  go_wp2_with (go_at_call 57; refine (fields_op _ (by kernel_rfl) _ HT.out).mono ?_; rintro e w1 ⟨rfl, rfl⟩)
  go_ret
  exact ⟨rfl, (Gr.refl w).alloc _⟩
end Go.Proofs.YthiaaagoccpkcaaDoor

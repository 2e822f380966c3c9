/- Slices of bytes and of instructions as arguments. -/
import Derived.Test.YthiaaagoccpkcaaDoorRowA
import Derived.Test.YthiaaagoccpkcaaDoorRvZb
import Derived.SizedLaws
import Derived.ChangeOld
import Derived.Below
namespace Go.Proofs.YthiaaagoccpkcaaDoor
set_option linter.unusedSimpArgs false
set_option linter.unusedVariables false
open Go.RowKit Go.Deep Go.ChangeShapes Go.WideShapes

theorem cell_lt {w : World} {a : Addr} {v : Value} (h : w.cell? a = some v) : a.block < w.heap.size := by
  rcases Nat.lt_or_ge a.block w.heap.size with h1 | h1
  · exact h1
  · unfold World.cell? at h
    rw [Array.getElem?_eq_none h1] at h
    simp at h
section
set_option maxRecDepth 100000
variable {H : Type} {enc : TypeId × Value → H} {w : World}
theorem bytes_open {fuel : Nat} {v : Value} {x : DataW H × List MemPlace} (h : DataW.trod enc Tryd.prog w 0 (fun _ => true) true fuel 35 [v] = some x)
    (hw : ∀ m ∈ x.1.weights Tryd.prog 35, m ≤ reachBytes) : ∃ bs, BytesAt w v bs := by
  rcases open_ints Tryd.underlying35 Tryd.underlying5 (by kernel_rfl) h with ⟨hcs, -⟩ | ⟨a, l, c, zs, hcs, -, hl, hcm, hz, rfl, hcell, hwz⟩
  · obtain rfl : v = .slice none 0 0 := by simpa using hcs
    exact ⟨[], BytesAt.nil w⟩
  · obtain rfl : v = .slice (some a) l c := by simpa using hcs
    simp only [if_true] at hz
    have hsz := hw (((lits (H := H) .u8 (zs.take l)).length + (lits (H := H) .u8 (zs.drop l)).length) * Program.bytesOf Tryd.prog 5) (by simp [DataW.weights, Tryd.underlying35])
    have hb : Program.bytesOf Tryd.prog 5 = 1 := by kernel_rfl
    have hr : reachBytes = 0x7ffffffff000 := rfl
    rw [hb, hr] at hsz
    simp only [lits, List.length_map, List.length_take, List.length_drop] at hsz
    have hlen : (zs.take l).length = l := by simp; omega
    refine ⟨zs.take l, fun z hz' => ?_, some a, c, by rw [hlen], by rw [hlen]; exact hl, hcm, by rw [hlen]; omega, fun h0 => ?_⟩
    · have := hwz z (List.mem_of_mem_take hz')
      simp [Lit.wf, IntKind.min, IntKind.max, IntKind.signed, IntKind.bits] at this
      omega
    · rw [hlen] at h0
      have hc0 := hcell 0 (by omega)
      obtain ⟨b, off, spot⟩ := a
      have hspot : spot = none := by simpa [Addr.add] using World.cell?_spot hc0
      subst hspot
      refine ⟨b, off, rfl, by simpa [Addr.add] using cell_lt hc0, fun j z hj => ?_⟩
      have hj1 : j < l := by
        have := (List.getElem?_eq_some_iff.1 hj).1
        rw [hlen] at this; exact this
      rw [List.getElem?_take, if_pos hj1] at hj
      have := hcell j (by omega)
      rw [addr_add] at this
      simpa [List.getD, hj] using this
theorem pick_lt {α : Type} [Inhabited α] {n : Nat} {p : Nat → α → Prop} (h : ∀ i, i < n → ∃ x, p i x) : ∃ f : Nat → α, ∀ i, i < n → p i (f i) := by
  classical
  exact ⟨fun i => if hi : i < n then (h i hi).choose else default, fun i hi => by dsimp only; rw [dif_pos hi]; exact (h i hi).choose_spec⟩
theorem rv_cells {fuel : Nat} {cs : List Value} {x : DataW H × List MemPlace} (h : DataW.trod enc Tryd.prog w 0 (fun _ => true) true fuel 23 cs = some x) :
    ∃ X : RvI, cs = rvCells X := by
  have k : Program.cellsOf Tryd.prog 3 = 1 := by kernel_rfl
  have e5 : Program.cellsOf Tryd.prog 23 = 5 := by kernel_rfl
  obtain ⟨xs, n, rfl, rfl, hl, hlen, hg⟩ := DataW.trod_struct Tryd.underlying23 h
  rw [e5] at hl
  match xs, hlen with
  | [y0, y1, y2, y3, y4], _ =>
    match cs, hl with
    | [c0, c1, c2, c3, c4], _ =>
      have q0 := hg 0 _ rfl
      have q1 := hg 1 _ rfl
      have q2 := hg 2 _ rfl
      have q3 := hg 3 _ rfl
      have q4 := hg 4 _ rfl
      simp [k] at q0 q1 q2 q3 q4
      obtain ⟨a0, f0, -, -⟩ := DataW.trod_int Tryd.underlying3 q0
      obtain ⟨a1, f1, -, -⟩ := DataW.trod_int Tryd.underlying3 q1
      obtain ⟨a2, f2, -, -⟩ := DataW.trod_int Tryd.underlying3 q2
      obtain ⟨a3, f3, -, -⟩ := DataW.trod_int Tryd.underlying3 q3
      obtain ⟨a4, f4, -, -⟩ := DataW.trod_int Tryd.underlying3 q4
      obtain rfl : c0 = .int .i64 a0 := by simpa using f0
      obtain rfl : c1 = .int .i64 a1 := by simpa using f1
      obtain rfl : c2 = .int .i64 a2 := by simpa using f2
      obtain rfl : c3 = .int .i64 a3 := by simpa using f3
      obtain rfl : c4 = .int .i64 a4 := by simpa using f4
      exact ⟨⟨a0, a1, a2, a3, a4⟩, rfl⟩
theorem rvs_open {fuel : Nat} {v : Value} {x : DataW H × List MemPlace} (h : DataW.trod enc Tryd.prog w 0 (fun _ => true) true fuel 34 [v] = some x)
    (hw : ∀ m ∈ x.1.weights Tryd.prog 34, m ≤ reachBytes) : ∃ L, RvsAt w v L := by
  have e5 : Program.cellsOf Tryd.prog 23 = 5 := by kernel_rfl
  have hb : Program.bytesOf Tryd.prog 23 = 40 := by kernel_rfl
  have hr : reachBytes = 0x7ffffffff000 := rfl
  rcases open_slice Tryd.underlying34 h with ⟨hcs, -⟩ | ⟨a, l, c, m, n, D, Pl, hcs, -, hl, hcm, hm, rfl, hx⟩
  · obtain rfl : v = .slice none 0 0 := by simpa using hcs
    exact ⟨[], none, 0, rfl, Nat.le_refl _, by simp [maxLen], by simp, fun e => by simp at e⟩
  · obtain rfl : v = .slice (some a) l c := by simpa using hcs
    simp only [if_true] at hm
    subst hm
    have hsz := hw _ (by simp only [DataW.weights, Tryd.underlying34]; exact List.mem_cons_self)
    simp only [List.length_map, List.length_range] at hsz
    rw [hb, hr] at hsz
    rw [e5] at hx
    obtain ⟨X, hX⟩ := pick_lt (α := RvI) (n := l) (p := fun i X => w.cells? 0 (a.add (i * 5)) 5 = some (rvCells X)) (fun i hi => by
      obtain ⟨cs', h1, h2⟩ := hx i (by omega)
      obtain ⟨X, rfl⟩ := rv_cells h2
      exact ⟨X, h1⟩)
    have hlen : ((List.range l).map X).length = l := by simp
    refine ⟨(List.range l).map X, some a, m, by rw [hlen], by rw [hlen]; exact hl, hcm, by rw [hlen]; omega, fun h0 => ?_⟩
    rw [hlen] at h0
    have hc := hX 0 h0
    have hc0 := (World.cells?_some hc).2.2 0 (by omega)
    obtain ⟨b, off, spot⟩ := a
    have hspot : spot = none := by
      have : (w.cell? ((Addr.add ⟨b, off, spot⟩ (0 * 5)).add 0)) = some (.int .i64 (X 0).op) := hc0
      simpa [Addr.add] using World.cell?_spot this
    subst hspot
    have hlt : b < w.heap.size := by
      have : (w.cell? ((Addr.add ⟨b, off, none⟩ (0 * 5)).add 0)) = some (.int .i64 (X 0).op) := hc0
      simpa [Addr.add] using cell_lt this
    refine ⟨b, off, rfl, hlt, fun j z hj => ?_⟩
    have hj1 : j < l := by
      have := (List.getElem?_eq_some_iff.1 hj).1
      rw [hlen] at this; exact this
    obtain rfl : X j = z := by simpa [hj1] using hj
    have q := (World.cells?_some (hX j hj1)).2.2
    simp only [addr_add] at q
    exact ⟨q 0 (by omega), q 1 (by omega), q 2 (by omega), q 3 (by omega), q 4 (by omega)⟩
end
end Go.Proofs.YthiaaagoccpkcaaDoor

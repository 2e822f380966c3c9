/- A machine as an argument. -/
import Derived.Test.YthiaaagoccpkcaaDoorRowB
import Derived.Test.YthiaaagoccpkcaaDoorRowC
import Derived.Test.YthiaaagoccpkcaaDoorMachC
namespace Go.Proofs.YthiaaagoccpkcaaDoor
set_option linter.unusedSimpArgs false
set_option linter.unusedVariables false
open Go.RowKit Go.Deep Go.ChangeShapes Go.WideShapes

theorem u32_in {n : Int} (h : (Lit.int .u32 n).wf = true) : 0 ≤ n ∧ n < 4294967296 := by
  simp [Lit.wf, IntKind.min, IntKind.max, IntKind.signed, IntKind.bits] at h
  omega
section
set_option maxRecDepth 100000
variable {H : Type} {enc : TypeId × Value → H} {w : World}
theorem drop_take1 {α : Type} (cs : List α) (i : Nat) (x : α) (h : (cs.drop i).take 1 = [x]) : cs[i]? = some x := by
  have e := congrArg (fun l => l[0]?) h
  simpa [List.getElem?_take] using e
theorem mach_cells {fuel : Nat} {cs : List Value} {x : DataW H × List MemPlace} (h : DataW.trod enc Tryd.prog w 0 (fun _ => true) true fuel 45 cs = some x) (hlen : cs.length = 36)
    (hw : ∀ m ∈ x.1.weights Tryd.prog 45, m ≤ reachBytes) : ∃ m mv, cs = machL m mv ∧ BytesAt w mv m.mem ∧ Rv.WfM m := by
  obtain ⟨xs, n, rfl, rfl, hl, hxs, hg⟩ := DataW.trod_struct Tryd.underlying45 h
  have k0 : Program.cellsOf Tryd.prog 43 = 32 := by kernel_rfl
  have k1 : Program.cellsOf Tryd.prog 3 = 1 := by kernel_rfl
  have k2 : Program.cellsOf Tryd.prog 24 = 1 := by kernel_rfl
  have k3 : Program.cellsOf Tryd.prog 35 = 1 := by kernel_rfl
  match xs, hxs with
  | [y0, y1, y2, y3, y4], _ =>
    have q0 := hg 0 _ rfl
    have q1 := hg 1 _ rfl
    have q2 := hg 2 _ rfl
    have q3 := hg 3 _ rfl
    have q4 := hg 4 _ rfl
    simp [k0, k1, k2, k3] at q0 q1 q2 q3 q4
    obtain ⟨zs, n', rfl, rfl, hl0, hz, hz'⟩ := DataW.trod_array Tryd.underlying43 q0
    obtain ⟨a1, f1, -, -⟩ := DataW.trod_int Tryd.underlying3 q1
    obtain ⟨a2, f2, -, w2⟩ := DataW.trod_int Tryd.underlying24 q2
    obtain ⟨a4, f4, -, -⟩ := DataW.trod_int Tryd.underlying3 q4
    have hR : ∀ i, i < 32 → ∃ a : Int, cs[i]? = some (.int .u32 a) ∧ 0 ≤ a ∧ a < 4294967296 := by
      intro i hi
      have hzi := hz' i hi
      rw [k2, List.getElem?_eq_getElem (by omega)] at hzi
      obtain ⟨a, f, -, wf⟩ := DataW.trod_int Tryd.underlying24 hzi
      have := drop_take1 _ _ _ f
      rw [Nat.mul_one, List.getElem?_take, if_pos hi] at this
      exact ⟨a, this, u32_in wf⟩
    obtain ⟨R, hR'⟩ := pick_lt hR
    have c1 := drop_take1 _ _ _ f1
    have c2 := drop_take1 _ _ _ f2
    have c4 := drop_take1 _ _ _ f4
    obtain ⟨v3, hv3⟩ : ∃ v, cs[34]? = some v := ⟨_, List.getElem?_eq_getElem (by omega)⟩
    have e3 : (cs.drop 34).take 1 = [v3] := by
      obtain ⟨h34, hg34⟩ := List.getElem?_eq_some_iff.1 hv3
      rw [List.drop_eq_getElem_cons h34, List.take_succ_cons, List.take_zero, hg34]
    rw [e3] at q3
    obtain ⟨bs, hbs⟩ := bytes_open q3 (fun m hm => hw m (by
      simp only [DataW.weights, Tryd.underlying45, List.map_cons, List.map_nil, DataW.weightsEach, List.mem_append]
      exact .inr (.inr (.inr (.inl hm)))))
    have hlR : ((List.range 32).map R).length = 32 := by simp
    refine ⟨⟨(List.range 32).map R, a1, a2, bs, a4⟩, v3, ?_, hbs, ⟨hlR, ?_, u32_in w2, hbs.1⟩⟩
    · refine List.ext_getElem? fun i => ?_
      by_cases hi : i < 32
      · rw [(hR' i hi).1]
        have := machL_reg (m := ⟨(List.range 32).map R, a1, a2, bs, a4⟩) hlR v3 [] i hi
        rw [List.append_nil] at this
        rw [this]
        simp [List.getD, hi]
      · obtain ⟨j, rfl⟩ : ∃ j, i = 32 + j := ⟨i - 32, by omega⟩
        have := machL_at (m := ⟨(List.range 32).map R, a1, a2, bs, a4⟩) hlR v3 [] j
        rw [List.append_nil] at this
        rw [this]
        match j with
        | 0 => exact c1
        | 1 => exact c2
        | 2 => exact hv3
        | 3 => exact c4
        | j + 4 => rw [List.getElem?_eq_none (by omega)]; simp
    · intro z hz
      obtain ⟨i, hi, rfl⟩ := List.mem_map.1 hz
      exact (hR' i (List.mem_range.1 hi)).2
theorem mach_open {r : Reach} {b0 : Nat} {v : Value} {d : DataW H} {p : List MemPlace} (hv : Value.okWide Tryd.prog w r b0 45 v) (h : DataW.Trod enc Tryd.prog w 0 (fun _ => true) true 45 v d p)
    (hw : ∀ m ∈ d.weights Tryd.prog 45, m ≤ reachBytes) : ∃ m mv, v = .agg (machL m mv).toArray ∧ BytesAt w mv m.mem ∧ Rv.WfM m := by
  obtain ⟨cs, rfl, hsz⟩ := okWide_struct Tryd.underlying45 hv
  obtain ⟨l⟩ := cs
  have hC : (Tryd.prog).cellsOf 45 = 36 := by kernel_rfl
  obtain ⟨fuel, hf⟩ := h
  obtain ⟨m, mv, e, h1, h2⟩ := mach_cells hf (hsz.trans hC) hw
  exact ⟨m, mv, by rw [← e]; rfl, h1, h2⟩
end
end Go.Proofs.YthiaaagoccpkcaaDoor

/- The words of an instruction's text are read as the instruction. -/
import Derived.Test.YthiaaagoccpkcaaDoorPaD
import Derived.Test.YthiaaagoccpkcaaDoorMachA
namespace Go.Proofs.YthiaaagoccpkcaaDoor
set_option linter.unusedSimpArgs false
set_option linter.unusedVariables false

namespace Pa
theorem valid_imm0 {x : RvI} (h : Rv.valid x = true) : Rv.hasI (Rv.shapeN x.op.toNat) = false → x.imm = 0 := by
  intro hp
  unfold Rv.valid at h
  simp only [Bool.and_eq_true, decide_eq_true_eq, hp] at h
  have := h.2
  simpa using this
theorem cand_text (x : RvI) (hv : Rv.valid x = true) : cand (splitW (text4 x).data.toList) = some x := by
  obtain ⟨n, e, hn, hd, ha, hb, hd0, ha0, hb0, -, -⟩ := valid_parts x hv
  obtain ⟨-, -, -, -, hm0, hm1⟩ := valid_in x hv
  have hi0 := valid_imm0 hv
  rw [text_words]
  obtain ⟨op, d, a, b, imm⟩ := x
  dsimp only at e hd ha hb hd0 ha0 hb0 hi0 hm0 hm1
  subst e
  have hidx : Lib.idxOfS namesB ⟨(opName n).data.toList.toArray⟩ = (n : Int) := names_index ⟨n, by omega⟩
  rw [Int.toNat_natCast] at hi0
  unfold cand toks
  simp only [Int.toNat_natCast, hidx]
  rw [if_neg (by omega), tk_reg _ d (by omega) (by omega) hd0]
  simp only [Option.bind_some]
  rw [tk_reg _ a (by omega) (by omega) ha0]
  simp only [Option.bind_some]
  rw [tk_reg _ b (by omega) (by omega) hb0]
  simp only [Option.bind_some]
  rw [tk_imm _ imm hm0 hm1 hi0]
  rfl
/-- The text of an instruction is the text of that one. -/
theorem parse_text (x : RvI) (hv : Rv.valid x = true) : parse (text4 x) = some x := by
  unfold parse
  rw [cand_text x hv]
  simp [hv]
theorem parse_some {s : ByteArray} {x : RvI} (h : parse s = some x) : Rv.valid x = true ∧ text4 x = s := by
  unfold parse at h
  cases hc : cand (splitW s.data.toList) with
  | none => rw [hc] at h; cases h
  | some y =>
    rw [hc, Option.bind_some] at h
    split at h
    · next hy => cases h; exact hy
    · cases h
end Pa
end Go.Proofs.YthiaaagoccpkcaaDoor

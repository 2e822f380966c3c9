/- What the nine listed variables of RvTexts and RvParses give. -/
import Derived.Test.YthiaaagoccpkcaaDoorRowA
import Derived.Test.YthiaaagoccpkcaaDoorPaH
import Derived.Stop.LaidErr
import Derived.Shelf.Vars
import Derived.HandedShaped
import Derived.Lay
import Derived.LaidLaws
namespace Go.Proofs.YthiaaagoccpkcaaDoor
open Go.ChangeShapes Go.WideShapes Go.ChangeAt Go.RowKit

abbrev laid9 : List (String × DataW Unit) := [("math/bits.deBruijn32tab", Rows.laid_math_bits_deBruijn32tab), ("math/bits.deBruijn64tab", Rows.laid_math_bits_deBruijn64tab), ("internal/strconv.uint64pow10", Rows.laid_internal_strconv_uint64pow10), ("unicode/utf8.acceptRanges", Rows.laid_unicode_utf8_acceptRanges), ("strconv.ErrRange", Rows.laid_strconv_ErrRange), ("strconv.ErrSyntax", Rows.laid_strconv_ErrSyntax), ("unicode.White_Space", Rows.laid_unicode_White_Space), ("strings.asciiSpace", Rows.laid_strings_asciiSpace), ("unicode/utf8.first", Rows.laid_unicode_utf8_first)]
theorem row_laid9 : Rows.rvTextsRow.laid = laid9 := rfl
theorem door_met9 (os : Os) (args : Array Value) : laidMetH Tryd.prog laid9 ((World.laidAll Tryd.prog os laid9).forCall (fun _ _ => 0) ⟨#[], args, []⟩).memory := by
  rw [MakeChecks.laidMetH_plain _ _ _ (by kernel_rfl)]
  exact laidMet_laidAll _ (by kernel_rfl) (by kernel_rfl)
theorem star_es : "*" ++ "errors.errorString" = "*errors.errorString" := by decide
theorem row_es (u : TypeId) (h : (Tryd.prog).typeName? 3 u = some "*errors.errorString") : u = 175 :=
  typeName_ptr_named (nm := "errors.errorString") (by rw [star_es]; kernel_rfl) (by kernel_rfl) (by decide) u (by rw [star_es]; exact h)
theorem cells_es : (Tryd.prog).cellsOf 177 = 1 := by kernel_rfl
theorem cells_str : (Tryd.prog).cellsOf 9 = 1 := by kernel_rfl
theorem of_laid9 {W : World} (h : laidMetH Tryd.prog laid9 W) (hsh : W.ShapedOpen Tryd.prog) : TabP W := by
  rw [MakeChecks.laidMetH_plain _ _ _ (by kernel_rfl)] at h
  have hR := h.tail.tail.tail.tail
  have hS := hR.tail
  obtain ⟨a0, s0, hv0, -, -, -⟩ := laid_sentinel hR (show (Tryd.prog).globalNamed "strconv.ErrRange" = some 3 by kernel_rfl) (show ((Tryd.prog).globals[3]?).map (·.type) = some 98 by kernel_rfl) Tryd.underlying98 row_es Tryd.underlying175 Tryd.underlying177 rfl rfl Tryd.underlying9 cells_es cells_str
  obtain ⟨a1, s1, hv1, -, -, -⟩ := laid_sentinel hS (show (Tryd.prog).globalNamed "strconv.ErrSyntax" = some 2 by kernel_rfl) (show ((Tryd.prog).globals[2]?).map (·.type) = some 98 by kernel_rfl) Tryd.underlying98 row_es Tryd.underlying175 Tryd.underlying177 rfl rfl Tryd.underlying9 cells_es cells_str
  obtain ⟨m, hm⟩ := cell_of_shapedOpen_int (P := Tryd.prog) (g := 4) (t := 3) (zero := #[.int .i64 0]) hsh (of_decide_eq_true (by kernel_rfl)) (by kernel_rfl) rfl (by kernel_rfl) (by kernel_rfl) Tryd.underlying3
  refine ⟨?_, ⟨m, hm⟩, ⟨_, _, hv1⟩, ⟨_, _, hv0⟩⟩
  have hP := h.tail.tail
  have hA := hS.tail.tail
  obtain ⟨ps2, ⟨g2, t2, cs2, f2, p2, q2, hg2, ht2, hv2, hd2, -, -⟩, -, -⟩ := hP
  obtain ⟨ps4, ⟨g4, t4, cs4, f4, p4, q4, hg4, ht4, hv4, hd4, -, -⟩, -, -⟩ := hA
  have e2 : (match (Tryd.prog).globalNamed "internal/strconv.uint64pow10" with | some g => (Tryd.prog.globals[g]?).map (·.type) | none => none) = some t2 := by rw [hg2]; exact ht2
  have e4 : (match (Tryd.prog).globalNamed "strings.asciiSpace" with | some g => (Tryd.prog.globals[g]?).map (·.type) | none => none) = some t4 := by rw [hg4]; exact ht4
  have k2 : (match (Tryd.prog).globalNamed "internal/strconv.uint64pow10" with | some g => (Tryd.prog.globals[g]?).map (·.type) | none => none) = some 179 := by kernel_rfl
  have k4 : (match (Tryd.prog).globalNamed "strings.asciiSpace" with | some g => (Tryd.prog.globals[g]?).map (·.type) | none => none) = some 122 := by kernel_rfl
  obtain rfl := Option.some.inj (k2.symm.trans e2)
  obtain rfl := Option.some.inj (k4.symm.trans e4)
  rw [pow_data] at hd2
  rw [space_data] at hd4
  exact ⟨tab_of hv4 Tryd.underlying122 Tryd.underlying5 (by kernel_rfl) (by kernel_rfl) hd4, tab_of hv2 Tryd.underlying179 Tryd.underlying159 (by kernel_rfl) (by kernel_rfl) hd2⟩
/-- The wrap with a premise on the world and the world's shape. -/
theorem returns_both {H : Type} {enc : TypeId × Value → H} {a : Assume} {C : Checked} {os : Os} {f : FuncId} {fn : Func} {s : ChangeSpec} {conds : List PathCond} {apart fresh handsOn again : Bool} {X : World → Array Value → Prop}
    (hX : ∀ (w w' : World) (args : Array Value), w.heap = w'.heap → X w args → X w' args)
    (own : ownKnob C.prog.godebug = none) (started : os.Started) (noInit : C.prog.inits.idxOf? f = none) (hfn : C.prog.funcs[f]? = some fn)
    (witness : ∃ (w : World) (tape : Tape) (i : Input), w.os = os ∧ (w.forCall tape i).Shaped C.prog ∧ i.vars = [] ∧ Input.okWide C.prog (w.forCall tape i) .any w.heap.size f i ∧
      ((s.pre enc C.prog fn conds apart (w.forCall tape i).memory i.args ∧ X (w.forCall tape i).memory i.args) ∧ sizedMet enc C.prog fn (OpenSpec.ofChange s) apart (w.forCall tape i).memory i.args) ∧ a.holds C.prog (lone (Frame.enter C.prog f i.args .normal) [] (w.forCall tape i)))
    (contract : ∀ (W : World) (base : Nat) (args : Array Value) (ds gs : List (DataW H)) (before : List MemPlace),
      (∀ (j : Nat) t v, fn.params[j]? = some t → args[j]? = some v → Value.okWide C.prog W .any base t v) →
      DataW.Whole enc C.prog fn.params.toList s.vars apart W args.toList ds gs before →
      (DataW.weightsEach C.prog (fn.params.toList ++ s.plain.varTypes C.prog) (ds ++ gs)).all (· ≤ reachBytes) = true → X W args → W.ShapedOpen C.prog →
      Calls C.prog f args W fun e W' => ∃ v, e = .returned v ∧ s.post enc C.prog fn apart fresh handsOn again W args v W') :
    ReturnsInHanded a C os f .any (fun w args => (s.pre enc C.prog fn conds apart w args ∧ X w args) ∧ sizedMet enc C.prog fn (OpenSpec.ofChange s) apart w args) (s.post enc C.prog fn apart fresh handsOn again) := by
  refine returnsInHanded_of_calls own started noInit witness ?_
  intro w tape i _ hsh _ hok hpre hholds
  obtain ⟨_, _, _, fn', hfn', _, _, _, _, hval⟩ := hok
  have e : fn' = fn := Option.some.inj (hfn'.symm.trans hfn)
  subst e
  obtain ⟨⟨⟨ds, gs, before, hw, hc⟩, hx⟩, hz⟩ := hpre
  refine (contract (w.forCall tape i) w.heap.size i.args ds gs before hval (DataW.Whole.of_heap (w' := w.forCall tape i) (by rfl) hw) (hz.weights hw) (hX _ _ _ (by rfl) hx) hsh).mono fun e W' ⟨v, he, hp⟩ => ?_
  subst he
  exact ChangeSpec.post_blind hp
end Go.Proofs.YthiaaagoccpkcaaDoor

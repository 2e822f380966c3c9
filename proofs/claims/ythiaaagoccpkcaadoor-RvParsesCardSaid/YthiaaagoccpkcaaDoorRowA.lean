/- What the listed tables give; an instruction as an argument. -/
import Derived.Test.YthiaaagoccpkcaaDoorRvX
import Derived.Test.YthiaaagoccpkcaaDoorRows
import Derived.Test.YthiaaagoccpkcaaDoorCards
import Derived.Test.YthiaaagoccpkcaaDoorTie
import Derived.ProofKit
import Derived.LaidMore
import Derived.LaidHandle
import Derived.OpenShut
import Derived.Stop.Joined
import Derived.SevenTiedAt
import Derived.Lib.LaidTab
import Derived.Lib.SmallJoins
namespace Go.Proofs.YthiaaagoccpkcaaDoor
open Go.ChangeShapes Go.WideShapes Go.ChangeAt Go.RowKit

theorem own : ownKnob Tryd.prog.godebug = none := by kernel_rfl
/-- The five tables. -/
abbrev laid5 {H : Type} : List (String × DataW H) := [("math/bits.deBruijn32tab", Rows.laid_math_bits_deBruijn32tab), ("math/bits.deBruijn64tab", Rows.laid_math_bits_deBruijn64tab), ("internal/strconv.uint64pow10", Rows.laid_internal_strconv_uint64pow10), ("unicode.White_Space", Rows.laid_unicode_White_Space), ("strings.asciiSpace", Rows.laid_strings_asciiSpace)]
theorem row_laid : Rows.rvEncodesRow.laid = laid5 := rfl
theorem door_met (os : Os) (args : Array Value) : laidMetH Tryd.prog laid5 ((World.doorLaid Tryd.prog 96 os).forCall (fun _ _ => 0) ⟨#[], args, []⟩).memory :=
  laidMetH_of_parts3 (fuel := 8) (laidMet_of_run' 8 (by kernel_rfl) (by kernel_rfl)) (by kernel_rfl) (by kernel_rfl)
theorem pow_data {H : Type} : (Rows.laid_internal_strconv_uint64pow10 : DataW H) = Lib.tabData .u64 Lib.pow10Tab := rfl
theorem space_data {H : Type} : (Rows.laid_strings_asciiSpace : DataW H) = Lib.tabData .u8 Lib.asciiSpaceTab := by kernel_rfl
theorem tab_of {enc : TypeId × Value → Unit} {W : World} {name : String} {k : IntKind} {zs : List Int} {cs : Array Value} {base : Nat} {sp : Nat → Bool} {held : Bool} {fuel : Nat} {t e : TypeId} {n : Nat} {p : List MemPlace}
    (hv : W.var? Tryd.prog name = some cs) (ht : (Tryd.prog).underlying t = some (.array n e)) (he : (Tryd.prog).underlying e = some (.int k)) (hce : (Tryd.prog).cellsOf e = 1) (hct : (Tryd.prog).cellsOf t = n)
    (hd : DataW.trod enc Tryd.prog W base sp held fuel t cs.toList = some (Lib.tabData k zs, p)) : Lib.TabIs Tryd.prog W name k zs := by
  unfold Lib.TabIs
  rw [hv, ← Lib.cells_of_tab ht he hce hct hd]
theorem of_laid {W : World} (h : laidMetH Tryd.prog laid5 W) : Tabs W := by
  rw [MakeChecks.laidMetH_plain _ _ _ (by kernel_rfl)] at h
  obtain ⟨ps, ⟨g0, t0, cs0, f0, p0, q0, hg0, ht0, hv0, hd0, ⟨g1, t1, cs1, f1, p1, q1, hg1, ht1, hv1, hd1, ⟨g2, t2, cs2, f2, p2, q2, hg2, ht2, hv2, hd2, ⟨g3, t3, cs3, f3, p3, q3, hg3, ht3, hv3, hd3, ⟨g4, t4, cs4, f4, p4, q4, hg4, ht4, hv4, hd4, _, _⟩, _⟩, _⟩, _⟩, _⟩, _, _⟩ := h
  have e2 : (match (Tryd.prog).globalNamed "internal/strconv.uint64pow10" with | some g => (Tryd.prog.globals[g]?).map (·.type) | none => none) = some t2 := by rw [hg2]; exact ht2
  have e4 : (match (Tryd.prog).globalNamed "strings.asciiSpace" with | some g => (Tryd.prog.globals[g]?).map (·.type) | none => none) = some t4 := by rw [hg4]; exact ht4
  have k2 : (match (Tryd.prog).globalNamed "internal/strconv.uint64pow10" with | some g => (Tryd.prog.globals[g]?).map (·.type) | none => none) = some 179 := by kernel_rfl
  have k4 : (match (Tryd.prog).globalNamed "strings.asciiSpace" with | some g => (Tryd.prog.globals[g]?).map (·.type) | none => none) = some 122 := by kernel_rfl
  obtain rfl := Option.some.inj (k2.symm.trans e2)
  obtain rfl := Option.some.inj (k4.symm.trans e4)
  rw [pow_data] at hd2
  rw [space_data] at hd4
  exact ⟨tab_of hv4 Tryd.underlying122 Tryd.underlying5 (by kernel_rfl) (by kernel_rfl) hd4, tab_of hv2 Tryd.underlying179 Tryd.underlying159 (by kernel_rfl) (by kernel_rfl) hd2⟩

section
variable {H : Type} {enc : TypeId × Value → H} {w : World} {base : Nat} {spare : Nat → Bool} {held : Bool}
def I64 (n : Int) : Prop := -9223372036854775808 ≤ n ∧ n ≤ 9223372036854775807
/-- The datum of an instruction. -/
def rvD (x : RvI) : DataW H := .agg [.lit (.int .i64 x.op), .lit (.int .i64 x.d), .lit (.int .i64 x.a), .lit (.int .i64 x.b), .lit (.int .i64 x.imm)]
set_option maxRecDepth 100000 in
/-- A DATUM OF TYPE api.RV, OPENED. -/
theorem rv_open {r : Reach} {b0 : Nat} {v : Value} {d : DataW H} {p : List MemPlace} (hv : Value.okWide Tryd.prog w r b0 23 v) (h : DataW.Trod enc Tryd.prog w base spare held 23 v d p) :
    ∃ x : RvI, v = rvVal x ∧ d = rvD x ∧ p = [] ∧ I64 x.op ∧ I64 x.d ∧ I64 x.a ∧ I64 x.b ∧ I64 x.imm := by
  obtain ⟨cs, rfl, hsz⟩ := okWide_struct Tryd.underlying23 hv
  obtain ⟨l⟩ := cs
  have hC : (Tryd.prog).cellsOf 23 = 5 := by kernel_rfl
  match l, hsz.trans hC with
  | [c0, c1, c2, c3, c4], _ =>
    obtain ⟨fuel, hf⟩ := h
    obtain ⟨xs, n, _, hx, _, hlen, hg⟩ := DataW.trod_struct Tryd.underlying23 hf
    have k : (Tryd.prog).cellsOf 3 = 1 := by kernel_rfl
    match xs, hlen with
    | [y0, y1, y2, y3, y4], _ =>
      simp only [Prod.mk.injEq] at hx
      have q0 := hg 0 _ rfl
      have q1 := hg 1 _ rfl
      have q2 := hg 2 _ rfl
      have q3 := hg 3 _ rfl
      have q4 := hg 4 _ rfl
      simp [Value.cells, k] at q0 q1 q2 q3 q4
      obtain ⟨a0, f0, rfl, w0⟩ := DataW.trod_int Tryd.underlying3 q0
      obtain ⟨a1, f1, rfl, w1⟩ := DataW.trod_int Tryd.underlying3 q1
      obtain ⟨a2, f2, rfl, w2⟩ := DataW.trod_int Tryd.underlying3 q2
      obtain ⟨a3, f3, rfl, w3⟩ := DataW.trod_int Tryd.underlying3 q3
      obtain ⟨a4, f4, rfl, w4⟩ := DataW.trod_int Tryd.underlying3 q4
      obtain rfl : c0 = .int .i64 a0 := by simpa using f0
      obtain rfl : c1 = .int .i64 a1 := by simpa using f1
      obtain rfl : c2 = .int .i64 a2 := by simpa using f2
      obtain rfl : c3 = .int .i64 a3 := by simpa using f3
      obtain rfl : c4 = .int .i64 a4 := by simpa using f4
      exact ⟨⟨a0, a1, a2, a3, a4⟩, rfl, by simpa [rvD] using hx.1, by simpa using hx.2, bounds_i64 w0, bounds_i64 w1, bounds_i64 w2, bounds_i64 w3, bounds_i64 w4⟩
end
end Go.Proofs.YthiaaagoccpkcaaDoor

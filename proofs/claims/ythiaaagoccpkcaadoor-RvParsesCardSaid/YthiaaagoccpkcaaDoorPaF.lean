/- The library's calls in Parse: the words, the place of a name, a number. -/
import Derived.Test.YthiaaagoccpkcaaDoorPaE
import Derived.Test.YthiaaagoccpkcaaDoorPaC
import Derived.Test.YthiaaagoccpkcaaDoorShelf2
import Derived.Lib.AtoiErrMem
namespace Go.Proofs.YthiaaagoccpkcaaDoor
set_option linter.unusedSimpArgs false
set_option linter.unusedVariables false
open Go.RowKit

theorem cell_lt' {w : World} {a : Addr} {v : Value} (h : w.cell? a = some v) : a.block < w.heap.size := by
  rcases Nat.lt_or_ge a.block w.heap.size with h1 | h1
  · exact h1
  · unfold World.cell? at h
    rw [Array.getElem?_eq_none h1] at h
    simp at h
theorem var_gr {w w' : World} {n : String} {cs : Array Value} (h : w.var? Tryd.prog n = some cs) (g : Gr w w') : w'.var? Tryd.prog n = some cs := by
  unfold World.var? at h ⊢
  cases hg : (Tryd.prog).globalNamed n with
  | none => rw [hg] at h; simp at h
  | some b =>
    rw [hg] at h
    simp only [Option.bind_some] at h ⊢
    cases hb : w.heap[b]? with
    | none => rw [hb] at h; simp at h
    | some o =>
      rw [hb] at h
      rw [g.heap b (Array.getElem?_eq_some_iff.1 hb).1, hb]
      exact h
/-- What Parse wants of the library's variables. -/
structure TabP (w : World) : Prop where
  tabs : Tabs w
  maxLen : ∃ m, w.cell? ⟨4, 0, none⟩ = some (.int .i64 m)
  syn : ∃ tp p, w.var? Tryd.prog "strconv.ErrSyntax" = some #[.iface tp p]
  rng : ∃ tp p, w.var? Tryd.prog "strconv.ErrRange" = some #[.iface tp p]
theorem TabP.gr {w w' : World} (h : TabP w) (g : Gr w w') : TabP w' := by
  obtain ⟨h1, ⟨m, h2⟩, ⟨tp, p, h3⟩, ⟨tq, q, h4⟩⟩ := h
  exact ⟨h1.gr g, ⟨m, (g.cell 4 0 (cell_lt' h2)).trans h2⟩, ⟨tp, p, var_gr h3 g⟩, ⟨tq, q, var_gr h4 g⟩⟩
theorem splitW_len : ∀ (n : Nat) (l : List UInt8), l.length ≤ n → (Pa.splitW l).length = Lib.count l [32] + 1 := by
  intro n
  induction n with
  | zero =>
    intro l hl
    have : l = [] := List.eq_nil_of_length_eq_zero (by omega)
    subst this
    rfl
  | succ n ih =>
    intro l hl
    rcases Pa.index_blank l with ⟨h1, h2⟩ | ⟨a, r, rfl, h2, h3⟩
    · rw [Pa.splitW_word l h2, Lib.count_miss h1]; rfl
    · have hd : List.drop (a.length + ([32] : List UInt8).length) (a ++ 32 :: r) = r := by simp [List.drop_append]
      rw [Pa.splitW_cons _ _ h2, Lib.count_hit (by simp) h3, hd, List.length_cons, ih r (by simp at hl; omega)]
      omega
/-- The slice v reads as the words ws. -/
def WordsAt (w : World) (v : Value) (ws : List (List UInt8)) : Prop :=
  ∃ A c, v = .slice A ws.length c ∧ ws.length ≤ c ∧ c ≤ 100000 ∧ (0 < ws.length → ∃ b off, A = some ⟨b, off, none⟩ ∧ b < w.heap.size ∧ ∀ j l, ws[j]? = some l → w.cell? ⟨b, off + j, none⟩ = some (.string ⟨l.toArray⟩))
theorem WordsAt.gr {w w' : World} {v : Value} {ws : List (List UInt8)} (h : WordsAt w v ws) (g : Gr w w') : WordsAt w' v ws := by
  obtain ⟨A, c, e, h1, h2, h3⟩ := h
  refine ⟨A, c, e, h1, h2, fun h0 => ?_⟩
  obtain ⟨b, off, e', hb, hc⟩ := h3 h0
  exact ⟨b, off, e', Nat.lt_of_lt_of_le hb g.size, fun j l hj => (g.cell _ _ hb).trans (hc j l hj)⟩
theorem split_any (s : ByteArray) (hs : s.size ≤ 90000) (w : World) (ht : TabP w) :
    Calls Tryd.prog 55 #[.string s, .string ⟨#[32]⟩] w fun e w' => ∃ v, e = .returned v ∧ WordsAt w' v (Pa.splitW s.data.toList) ∧ Gr w w' := by
  obtain ⟨m, hm⟩ := ht.maxLen
  refine (Tryd.strings_Split s ⟨#[32]⟩ m w (by omega) hm (by decide)).mono fun e w' ⟨h1, h2⟩ => ?_
  have hl : (Pa.splitW s.data.toList).length = Lib.countB s ⟨#[32]⟩ + 1 := splitW_len _ _ (Nat.le_refl _)
  have hc : Lib.countB s ⟨#[32]⟩ ≤ s.data.toList.length + 1 := Lib.count_le _ _
  have hz : s.data.toList.length = s.size := by rw [Array.length_toList]; rfl
  refine ⟨_, h1, ⟨some ⟨w.heap.size, 0, none⟩, Lib.countB s ⟨#[32]⟩ + 1, by rw [hl], by omega, by omega, fun _ => ⟨w.heap.size, 0, rfl, by rw [h2]; simp, fun j l hj => ?_⟩⟩, by rw [h2]; exact (Gr.refl w).alloc _⟩
  rw [h2, Nat.zero_add]
  refine (cell_of_row _ _ j _ _ _ (heap_alloc_new w _)).trans ?_
  rw [← Pa.splitB_words, List.getElem?_map] at hj
  obtain ⟨b, hb, rfl⟩ := Option.map_eq_some_iff.1 hj
  rw [List.getElem?_toArray, List.getElem?_map, hb]
  rfl
/-- The place of a name. -/
theorem index_any (B : Nat) (x : ByteArray) (w : World) (h : ∀ j, j < 41 → w.cell? ⟨B, j, none⟩ = some (.string (opName j))) :
    Calls Tryd.prog 56 #[.slice (some ⟨B, 0, none⟩) 41 41, .string x] w fun e w' => e = .returned (.int .i64 (Lib.idxOfS Pa.namesB x)) ∧ w = w' := by
  have hl : Pa.namesB.length = 41 := by decide
  have := Tryd.slices_Index_string B 0 41 41 Pa.namesB x w (by omega) (by omega) (fun j hj => by rw [Nat.zero_add, h j (by omega), Pa.namesB_at])
  rw [List.take_of_length_le (by omega)] at this
  exact this.mono fun _ _ ⟨h1, h2⟩ => ⟨h1, h2.symm⟩
theorem trim_any (l : List UInt8) (w : World) : Calls Tryd.prog 59 #[.string ⟨l.toArray⟩, .string ⟨#[120]⟩] w fun e w' => e = .returned (.string ⟨(Lib.trimPrefix l [120]).toArray⟩) ∧ w = w' :=
  (Tryd.strings_TrimPrefix ⟨l.toArray⟩ ⟨#[120]⟩ w).mono fun _ _ ⟨h1, h2⟩ => ⟨h1, h2.symm⟩
/-- Atoi: a number, or an error that is not nil. -/
theorem atoi_any (l : List UInt8) (hl : l.length ≤ 90000) (w : World) (ht : TabP w) :
    Calls Tryd.prog 58 #[.string ⟨l.toArray⟩] w fun e w' => (match Lib.atoiAll l with
      | .ok n => e = .returned (.tuple #[.int .i64 n, .nilIface])
      | _ => ∃ n tp p, e = .returned (.tuple #[.int .i64 n, .iface tp p])) ∧ Gr w w' := by
  have hz : (⟨l.toArray⟩ : ByteArray).size = l.length := by show l.toArray.size = _; simp
  cases h : Lib.atoiAll l with
  | ok n =>
    refine (Tryd.strconv_Atoi_ok ⟨l.toArray⟩ (by omega) n h w).mono fun e w' ⟨h1, h2⟩ => ⟨h1, ?_⟩
    rcases h2 with rfl | ⟨t, rfl⟩
    · exact Gr.refl _
    · exact Lib.bytesWorld_below _ _ _
  | «syntax» =>
    obtain ⟨tp, p, hv⟩ := ht.syn
    exact (Tryd.strconv_Atoi_syntax_var ⟨l.toArray⟩ (by omega) h tp p w hv).mono fun e w' ⟨N, h1, _, _, h4⟩ => ⟨⟨_, _, _, h1⟩, h4⟩
  | range =>
    obtain ⟨tp, p, hv⟩ := ht.rng
    exact (Tryd.strconv_Atoi_range_var ⟨l.toArray⟩ (by omega) h tp p w hv).mono fun e w' ⟨N, h1, _, _, h4⟩ => ⟨⟨_, _, _, h1⟩, h4⟩
end Go.Proofs.YthiaaagoccpkcaaDoor

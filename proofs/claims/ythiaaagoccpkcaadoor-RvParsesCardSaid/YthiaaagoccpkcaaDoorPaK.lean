/- words of the document. -/
import Derived.Test.YthiaaagoccpkcaaDoorPaJ
import Derived.Test.YthiaaagoccpkcaaDoorPaG
import Derived.Test.YthiaaagoccpkcaaDoorRvY
namespace Go.Proofs.YthiaaagoccpkcaaDoor
set_option linter.unusedSimpArgs false
set_option linter.unusedVariables false
open Go.RowKit

namespace Pa
theorem extract_list (s : ByteArray) (f i : Nat) : (s.extract f i).data.toList = (s.data.toList.drop f).take (i - f) := by
  rw [ByteArray.data_extract, Array.toList_extract, List.extract_eq_take_drop]
/-- While words are cut off: ts are cut, the next one begins at f, no blank from there to i. -/
def WI (s : ByteArray) (ts : List ByteArray) (f i : Nat) : Prop :=
  ts.map (·.data.toList) ++ splitW (s.data.toList.drop f) = splitW s.data.toList ∧ f ≤ i ∧ ∀ c ∈ (s.data.toList.drop f).take (i - f), c ≠ 32
theorem wi_start (s : ByteArray) : WI s [] 0 0 := ⟨by simp, Nat.le_refl _, by simp⟩
theorem take_more (l : List UInt8) (f i : Nat) (c : UInt8) (hf : f ≤ i) (h : l[i]? = some c) : (l.drop f).take (i + 1 - f) = (l.drop f).take (i - f) ++ [c] := by
  rw [show i + 1 - f = (i - f) + 1 by omega, List.take_add_one, List.getElem?_drop, show f + (i - f) = i by omega, h]
  rfl
theorem wi_skip {s : ByteArray} {ts : List ByteArray} {f i : Nat} {c : UInt8} (h : WI s ts f i) (hc : s.data.toList[i]? = some c) (hne : c ≠ 32) : WI s ts f (i + 1) := by
  obtain ⟨h1, h2, h3⟩ := h
  refine ⟨h1, by omega, ?_⟩
  rw [take_more _ _ _ _ h2 hc]
  intro x hx
  rcases List.mem_append.1 hx with hx | hx
  · exact h3 x hx
  · simp at hx; subst hx; exact hne
theorem drop_cut (l : List UInt8) (f i : Nat) (hf : f ≤ i) (h : l[i]? = some 32) : l.drop f = (l.drop f).take (i - f) ++ 32 :: l.drop (i + 1) := by
  conv => lhs; rw [← List.take_append_drop (i - f) (l.drop f)]
  rw [List.drop_drop, show f + (i - f) = i by omega]
  obtain ⟨hi, e⟩ := List.getElem?_eq_some_iff.1 h
  rw [List.drop_eq_getElem_cons hi, e]
theorem wi_cut {s : ByteArray} {ts : List ByteArray} {f i : Nat} (h : WI s ts f i) (hc : s.data.toList[i]? = some 32) : WI s (ts ++ [s.extract f i]) (i + 1) (i + 1) := by
  obtain ⟨h1, h2, h3⟩ := h
  refine ⟨?_, Nat.le_refl _, by simp⟩
  rw [← h1, drop_cut _ f i h2 hc, splitW_cons _ _ h3, List.map_append, List.append_assoc]
  simp [extract_list]
theorem wi_end {s : ByteArray} {ts : List ByteArray} {f : Nat} (h : WI s ts f s.size) : (ts ++ [s.extract f s.size]).map (·.data.toList) = splitW s.data.toList := by
  obtain ⟨h1, h2, h3⟩ := h
  have hl : s.data.toList.length = s.size := by rw [Array.length_toList]; rfl
  have ht : (s.data.toList.drop f).take (s.size - f) = s.data.toList.drop f := List.take_of_length_le (by rw [List.length_drop]; omega)
  rw [ht] at h3
  rw [← h1, splitW_word _ h3, List.map_append]
  simp [extract_list, ht]
theorem wi_len {s : ByteArray} {ts : List ByteArray} {f i : Nat} (h : WI s ts f i) : ts.length ≤ s.size + 1 := by
  have h1 := congrArg List.length h.1
  have hl : s.data.toList.length = s.size := by rw [Array.length_toList]; rfl
  have h2 := splitW_len _ s.data.toList (Nat.le_refl _)
  have h3 : Lib.count s.data.toList [32] ≤ s.data.toList.length + 1 := Lib.count_le _ _
  have h4 := splitW_ne (s.data.toList.drop f)
  have h5 : 0 < (splitW (s.data.toList.drop f)).length := List.length_pos_iff.2 h4
  rw [List.length_append, List.length_map] at h1
  omega
end Pa
theorem infoStr : ((Tryd.prog).info? 9).map (fun i => (i.zero, i.size, i.bytes)) = some (some (.string ByteArray.empty), 1, 16) := by kernel_rfl
/-- One string more. -/
theorem appS {w : World} {ops : Array Oper} {rest : List Oper} {o : Oper} {a : Act} {Q : Exit → Act → World → Prop} {B : Nat}
    (hgd : o.guard = none) (s x : Operand) (ho : o.op = .call { callee := .builtin .append, args := #[s, x], argTypes := #[91, 91] })
    {v : Value} {ts : List ByteArray} (hs : a.eval s = v) (hown : Own1 B 9 w v (ts.map Value.string)) (y : ByteArray) {e' : TypeId} (hx : a.eval x = .slice (some ⟨w.heap.size, 0, none⟩) 1 1) (hlt : ts.length < 1099511627776) (hB : B ≤ w.heap.size)
    (h : ∀ A c w', Own1 B 9 w' (.slice A (ts.length + 1) c) ((ts ++ [y]).map Value.string) → Below B w w' → wpList Tryd.prog ops Q rest (a.put o.dst (.slice A (ts.length + 1) c)) w') :
    wpList Tryd.prog ops Q (o :: rest) a (w.alloc (.cells #[.string y] e')) := by
  obtain ⟨i0, hi, hz0, hz1, hz2⟩ := info_parts infoStr
  have hl : (ts.map Value.string).length = ts.length := List.length_map _
  refine app1 (i := i0) (z := .string ByteArray.empty) (bytes := 16) Tryd.underlying91 hi hz0 hz1 hz2 rfl (by omega) hgd s x ho hs hown (y := .string y) rfl hx (by omega) hB ?_
  intro A c w' ho' hb _
  rw [hl] at ho' ⊢
  rw [List.map_append] at h
  exact h A c w' ho' hb
/-- v reads as the words ws. -/
def WordsIn (w : World) (v : Value) (ws : List (List UInt8)) : Prop :=
  SlAt w.heap.size v ws.length fun b off => ∀ j l, ws[j]? = some l → w.cell? ⟨b, off + j, none⟩ = some (.string ⟨l.toArray⟩)
theorem WordsIn.gr {w w' : World} {v : Value} {ws : List (List UInt8)} (h : WordsIn w v ws) (g : Gr w w') : WordsIn w' v ws :=
  SlAt.imp h g.size fun b off hb hR j l hl => (g.cell _ _ hb).trans (hR j l hl)
theorem own_words {w : World} {B : Nat} {v : Value} {ts : List ByteArray} {ws : List (List UInt8)} (h : Own1 B 9 w v (ts.map Value.string)) (e : ts.map (·.data.toList) = ws) (hn : ts.length ≤ 100000) : WordsIn w v ws := by
  subst e
  have h' := h
  unfold Own1 at h'
  rw [List.length_map] at h'
  unfold WordsIn
  rw [List.length_map]
  rcases cell_of_own h' with q | q
  · refine SlAt.imp q (Nat.le_refl _) fun b off _ hR j l hl => ?_
    have hj : j < ts.length := by
      have := (List.getElem?_eq_some_iff.1 hl).1
      simpa using this
    rw [hR.2 j (by omega), List.getElem?_map]
    rw [List.getElem?_map] at hl
    obtain ⟨t, ht, rfl⟩ := Option.map_eq_some_iff.1 hl
    rw [ht]; rfl
  · omega
set_option maxRecDepth 100000 in
set_option maxHeartbeats 8000000 in
theorem words_any (s : ByteArray) (hs : s.size ≤ 90000) (w : World) : Calls Tryd.prog 60 #[.string s] w fun e w' => ∃ v, e = .returned v ∧ WordsIn w' v (Pa.splitW s.data.toList) ∧ Gr w w' := by
  have HL : Hid (s.data.toList.length = s.size) := Lib.hid (by rw [Array.length_toList]; rfl)
  go_enter Tryd.func60, Tryd.ntmps60
  go_wp2
  go_loopw [3, 4, 5] (fun s3 s4 s5 wr => ∃ (i f : Nat) (ts : List ByteArray) (A : Option Addr) (c : Nat), i ≤ s.size + 1 ∧ f ≤ i ∧ s5 = .int .i64 i ∧ s4 = .int .i64 f ∧ s3 = .slice A ts.length c ∧ Hid (Own1 w.heap.size 9 wr (.slice A ts.length c) (ts.map Value.string) ∧ Gr w wr ∧ (i ≤ s.size → Pa.WI s ts f i) ∧ (i = s.size + 1 → ts.map (·.data.toList) = Pa.splitW s.data.toList))) (fun _ _ i _ => s.size + 1 - (intOf i).toNat)
  case atStart => exact ⟨0, 0, [], none, 0, by omega, Nat.le_refl _, rfl, rfl, rfl, Lib.hid ⟨Own1.nil _ _ _, Gr.refl w, fun _ => Pa.wi_start s, fun h => by omega⟩⟩
  case round =>
    obtain ⟨i, f, ts, A, c, hi, hf, rfl, rfl, rfl, HI⟩ := hrel
    rcases (by omega : i = s.size + 1 ∨ i = s.size ∨ i < s.size) with e | e | hlt
    · have c1 : decide (i ≤ s.size) = false := by rw [decide_eq_false_iff_not]; omega
      have c2 : s.size < i := by omega
      have HE := Lib.hid e
      clear e
      go_wp2
      go_ret
      have ho := HI.out.1
      exact ⟨_, rfl, own_words ho (HI.out.2.2.2 HE.out) (by have h1 := congrArg List.length (HI.out.2.2.2 HE.out); have h2 := splitW_len _ s.data.toList (Nat.le_refl _); have h3 : Lib.count s.data.toList [32] ≤ s.data.toList.length + 1 := Lib.count_le _ _; rw [List.length_map] at h1; have := HL.out; omega), HI.out.2.1⟩
    · subst e
      have hts : Hid (ts.length < 1099511627776) := by have := Pa.wi_len (HI.out.2.2.1 (Nat.le_refl _)); show _ < _; omega
      have c1 : ((s.size : Int) == (s.size : Int)) = true := by simp
      go_wp2_with (at_builtin; refine appS rfl _ _ rfl rfl (ts := ts) (HI.out.1) (s.extract f s.size) (by simp [Act.eval]) hts.out HI.out.2.1.size ?_; intro A' c' w4 hown4 hb4; have HO4 := Lib.hid hown4; have GR4 : Hid (Gr w w4) := Gr.below HI.out.2.1 hb4 (Nat.le_refl _); clear hown4)
      go_roundw
      case rel => exact ⟨s.size + 1, s.size + 1, ts ++ [s.extract f s.size], A', c', by omega, Nat.le_refl _, rfl, rfl, by rw [List.length_append]; rfl, Lib.hid ⟨by rw [List.length_append]; exact HO4.out, GR4.out, fun h => by omega, fun _ => Pa.wi_end (HI.out.2.2.1 (Nat.le_refl _))⟩⟩
      case measure => simp [intOf] <;> omega
    · have hg : Hid (s.data.toList[i]? = some s[i]) := by
        show _ = _
        rw [List.getElem?_eq_getElem (by rw [HL.out]; exact hlt)]; rfl
      have c1 : ((i : Int) == (s.size : Int)) = false := by rw [beq_eq_false_iff_ne]; omega
      by_cases h32 : s[i] = 32
      · have hts : Hid (ts.length < 1099511627776) := by have := Pa.wi_len (HI.out.2.2.1 (by omega)); show _ < _; omega
        have c2 : ((s[i].toNat : Int) == 32) = true := by rw [beq_iff_eq, h32]; rfl
        have H32 := Lib.hid h32
        clear h32
        go_wp2_with (at_builtin; refine appS rfl _ _ rfl rfl (ts := ts) (HI.out.1) (s.extract f i) (by simp [Act.eval]) hts.out HI.out.2.1.size ?_; intro A' c' w4 hown4 hb4; have HO4 := Lib.hid hown4; have GR4 : Hid (Gr w w4) := Gr.below HI.out.2.1 hb4 (Nat.le_refl _); clear hown4)
        go_roundw
        case rel => exact ⟨i + 1, i + 1, ts ++ [s.extract f i], A', c', by omega, Nat.le_refl _, by go_num, by go_num, by rw [List.length_append]; rfl, Lib.hid ⟨by rw [List.length_append]; exact HO4.out, GR4.out, fun h => Pa.wi_cut (HI.out.2.2.1 (by omega)) (by rw [hg.out, H32.out]), fun h => by omega⟩⟩
        case measure => simp [intOf] <;> omega
      · have c2 : ((s[i].toNat : Int) == 32) = false := by
          rw [beq_eq_false_iff_ne]; intro e; apply h32; apply UInt8.toNat_inj.1; show s[i].toNat = 32; omega
        have H32 := Lib.hid h32
        clear h32
        go_wp2
        go_roundw
        case rel => exact ⟨i + 1, f, ts, A, c, by omega, by omega, by go_num, rfl, rfl, Lib.hid ⟨HI.out.1, HI.out.2.1, fun h => Pa.wi_skip (HI.out.2.2.1 (by omega)) hg.out H32.out, fun h => by omega⟩⟩
        case measure => simp [intOf] <;> omega
end Go.Proofs.YthiaaagoccpkcaaDoor

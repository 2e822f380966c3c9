/- Instructions as bytes, and bytes as instructions, as data. No program in sight. -/
import Derived.Test.YthiaaagoccpkcaaDoorDec
namespace Go.Proofs.YthiaaagoccpkcaaDoor
set_option linter.unusedSimpArgs false
set_option linter.unusedVariables false
namespace Rv

/-- The four bytes of a word, the lowest first. -/
def wbytes (w : Int) : List Int := [w % 256, w / 256 % 256, w / 65536 % 256, w / 16777216 % 256]
/-- The bytes of valid instructions. -/
def bytesOf (L : List RvI) : List Int := L.flatMap fun x => wbytes (word x)
def allValid (L : List RvI) : Bool := L.all valid
def bytesR (L : List RvI) : List Int := if allValid L then bytesOf L else []
def bytesE (L : List RvI) : Int := if allValid L then 0 else 1
/-- The number of so many bytes from a place on, the lowest one first. -/
def rd (bs : List Int) (i : Nat) : Nat → Int
  | 0 => 0
  | m + 1 => bs.getD i 0 + 256 * rd bs (i + 1) m
/-- The instructions of the bytes from a place on. -/
def lsFrom (bs : List Int) : Nat → Nat → List RvI
  | 0, _ => []
  | f + 1, i => if i + 4 ≤ bs.length then
      match decode (rd bs i 4) with
      | some x => x :: lsFrom bs f (i + 4)
      | none => []
    else []
def listOf (bs : List Int) : List RvI := lsFrom bs (bs.length + 1) 0
def isBytes (bs : List Int) : Prop := ∀ z ∈ bs, 0 ≤ z ∧ z < 256

theorem wbytes_in (w : Int) : isBytes (wbytes w) := by
  intro z hz
  simp [wbytes] at hz
  rcases hz with rfl | rfl | rfl | rfl <;> omega
theorem bytesOf_in : ∀ L, isBytes (bytesOf L)
  | [] => by intro z hz; simp [bytesOf] at hz
  | x :: L => by
    intro z hz
    simp only [bytesOf, List.flatMap_cons, List.mem_append] at hz
    rcases hz with hz | hz
    · exact wbytes_in _ z hz
    · exact bytesOf_in L z hz
theorem bytesR_in (L : List RvI) : isBytes (bytesR L) := by
  unfold bytesR
  split
  · exact bytesOf_in L
  · intro z hz; simp at hz
theorem bytesOf_length : ∀ L, (bytesOf L).length = 4 * L.length
  | [] => rfl
  | x :: L => by
    have := bytesOf_length L
    simp only [bytesOf, List.flatMap_cons, List.length_append] at this ⊢
    simp only [wbytes, List.length_cons, List.length_nil] at this ⊢
    omega
theorem bytesOf_snoc (L : List RvI) (x : RvI) : bytesOf (L ++ [x]) = bytesOf L ++ wbytes (word x) := by simp [bytesOf]
theorem getD_in {bs : List Int} (h : isBytes bs) (i : Nat) : 0 ≤ bs.getD i 0 ∧ bs.getD i 0 < 256 := by
  rw [List.getD_eq_getElem?_getD]
  cases e : bs[i]? with
  | none => simp
  | some z => exact h z (List.mem_of_getElem? e)
theorem rd_in {bs : List Int} (h : isBytes bs) : ∀ m i, 0 ≤ rd bs i m ∧ rd bs i m < 256 ^ m
  | 0, i => by simp [rd]
  | m + 1, i => by
    obtain ⟨h1, h2⟩ := rd_in h m (i + 1)
    obtain ⟨h3, h4⟩ := getD_in h i
    unfold rd
    rw [Int.pow_succ]
    omega
theorem rd4 (bs : List Int) (i : Nat) : rd bs i 4 = bs.getD i 0 + bs.getD (i + 1) 0 * 256 + bs.getD (i + 2) 0 * 65536 + bs.getD (i + 3) 0 * 16777216 := by
  simp only [rd, Nat.add_assoc, Nat.reduceAdd]
  omega
theorem rd4_in {bs : List Int} (h : isBytes bs) (i : Nat) : 0 ≤ rd bs i 4 ∧ rd bs i 4 < 4294967296 := by
  have := rd_in h 4 i
  simpa using this
theorem rd_word (pre rest : List Int) (w : Int) (h0 : 0 ≤ w) (h1 : w < 4294967296) : rd (pre ++ (wbytes w ++ rest)) pre.length 4 = w := by
  have e : ∀ j, (pre ++ (wbytes w ++ rest)).getD (pre.length + j) 0 = (wbytes w ++ rest).getD j 0 := by
    intro j
    rw [List.getD_eq_getElem?_getD, List.getD_eq_getElem?_getD, List.getElem?_append_right (by omega)]
    congr 2
    omega
  rw [rd4]
  have e0 := e 0
  rw [Nat.add_zero] at e0
  rw [e0, e 1, e 2, e 3]
  simp [wbytes]
  omega
theorem lsFrom_bytes : ∀ (L : List RvI) (pre : List Int) (F : Nat), L.length < F → allValid L = true → lsFrom (pre ++ bytesOf L) F pre.length = L
  | [], pre, F, hF, _ => by
    cases F with
    | zero => omega
    | succ F => unfold lsFrom; rw [if_neg (by simp [bytesOf])]
  | x :: L, pre, F, hF, hv => by
    cases F with
    | zero => omega
    | succ F =>
      unfold allValid at hv
      simp only [List.all_cons, Bool.and_eq_true] at hv
      obtain ⟨w0, w1, -⟩ := word_fields x hv.1
      have eb : bytesOf (x :: L) = wbytes (word x) ++ bytesOf L := by simp [bytesOf]
      unfold lsFrom
      rw [eb, if_pos (by simp [wbytes]), rd_word pre (bytesOf L) (word x) w0 w1, word_decode x hv.1]
      dsimp only
      have h := lsFrom_bytes L (pre ++ wbytes (word x)) F (by simp at hF; omega) hv.2
      have el : (pre ++ wbytes (word x)).length = pre.length + 4 := by simp [wbytes]
      rw [el, List.append_assoc] at h
      rw [h]
/-- The bytes of valid instructions are read as the instructions. -/
theorem list_bytes (L : List RvI) (h : allValid L = true) : listOf (bytesOf L) = L := by
  have := lsFrom_bytes L [] ((bytesOf L).length + 1) (by rw [bytesOf_length]; omega) h
  simpa [listOf] using this
theorem wbytes_rd {bs : List Int} (h : isBytes bs) (i : Nat) (hi : i + 4 ≤ bs.length) : wbytes (rd bs i 4) = (bs.drop i).take 4 := by
  have g : ∀ j, j < bs.length → bs[j]? = some (bs.getD j 0) := fun j hj => by rw [List.getD_eq_getElem?_getD, List.getElem?_eq_getElem hj]; rfl
  have b0 := getD_in h i
  have b1 := getD_in h (i + 1)
  have b2 := getD_in h (i + 2)
  have b3 := getD_in h (i + 3)
  have e : (bs.drop i).take 4 = [bs.getD i 0, bs.getD (i + 1) 0, bs.getD (i + 2) 0, bs.getD (i + 3) 0] := by
    apply List.ext_getElem?
    intro j
    rcases (by omega : j = 0 ∨ j = 1 ∨ j = 2 ∨ j = 3 ∨ 4 ≤ j) with rfl | rfl | rfl | rfl | hj
    · rw [List.getElem?_take_of_lt (by omega), List.getElem?_drop, g (i + 0) (by omega)]; rfl
    · rw [List.getElem?_take_of_lt (by omega), List.getElem?_drop, g (i + 1) (by omega)]; rfl
    · rw [List.getElem?_take_of_lt (by omega), List.getElem?_drop, g (i + 2) (by omega)]; rfl
    · rw [List.getElem?_take_of_lt (by omega), List.getElem?_drop, g (i + 3) (by omega)]; rfl
    · rw [List.getElem?_eq_none (by simp; omega), List.getElem?_eq_none (by simp; omega)]
  rw [e, rd4]
  simp only [wbytes, List.cons.injEq, and_true]
  refine ⟨by omega, by omega, by omega, by omega⟩
theorem bytes_lsFrom {bs : List Int} (h : isBytes bs) : ∀ F i, i ≤ bs.length → allValid (lsFrom bs F i) = true ∧ i + 4 * (lsFrom bs F i).length ≤ bs.length ∧ bytesOf (lsFrom bs F i) = (bs.drop i).take (4 * (lsFrom bs F i).length)
  | 0, i, hi => by simp [lsFrom, allValid, bytesOf, hi]
  | F + 1, i, hi => by
    unfold lsFrom
    split
    · next hlt =>
      split
      · next x hx =>
        obtain ⟨q1, q2⟩ := decode_word _ (rd4_in h i).1 (rd4_in h i).2 x hx
        obtain ⟨r1, r2, r3⟩ := bytes_lsFrom h F (i + 4) hlt
        refine ⟨by unfold allValid at r1 ⊢; rw [List.all_cons, q1, r1]; rfl, by simp; omega, ?_⟩
        have eb : bytesOf (x :: lsFrom bs F (i + 4)) = wbytes (word x) ++ bytesOf (lsFrom bs F (i + 4)) := by simp [bytesOf]
        rw [eb, q2, wbytes_rd h i hlt, r3]
        have e4 : 4 * (x :: lsFrom bs F (i + 4)).length = 4 + 4 * (lsFrom bs F (i + 4)).length := by simp; omega
        rw [e4, List.take_add, List.drop_drop]
      · simp [allValid, bytesOf, hi]
    · simp [allValid, bytesOf, hi]
/-- The instructions that bytes begin with: their bytes are those bytes. -/
theorem bytes_list {bs : List Int} (h : isBytes bs) : allValid (listOf bs) = true ∧ 4 * (listOf bs).length ≤ bs.length ∧ bytesOf (listOf bs) = bs.take (4 * (listOf bs).length) := by
  obtain ⟨h1, h2, h3⟩ := bytes_lsFrom h (bs.length + 1) 0 (Nat.zero_le _)
  rw [Nat.zero_add] at h2
  rw [List.drop_zero] at h3
  exact ⟨h1, h2, h3⟩
end Rv
end Go.Proofs.YthiaaagoccpkcaaDoor

/- A text and its words; a numeral is read as its number; the words of an instruction's text are read as the instruction. No program in sight but its name. -/
import Derived.Test.YthiaaagoccpkcaaDoorRvT
import Derived.Lib.AtoiTie
import Derived.Lib.Split
import Derived.Lib.SlicesS
namespace Go.Proofs.YthiaaagoccpkcaaDoor
set_option linter.unusedSimpArgs false
set_option linter.unusedVariables false

namespace Pa
/-- The parts of a text between blanks. -/
def splitW : List UInt8 → List (List UInt8)
  | [] => [[]]
  | c :: r => if c = 32 then [] :: splitW r else match splitW r with
    | h :: t => (c :: h) :: t
    | [] => [[c]]
theorem splitW_ne : ∀ l, splitW l ≠ []
  | [] => by simp [splitW]
  | c :: r => by
    unfold splitW
    split
    · simp
    · split <;> simp
theorem splitW_word : ∀ (a : List UInt8), (∀ c ∈ a, c ≠ 32) → splitW a = [a]
  | [], _ => rfl
  | c :: r, h => by
    unfold splitW
    rw [if_neg (h c (by simp)), splitW_word r (fun x hx => h x (by simp [hx]))]
theorem splitW_cons (l : List UInt8) : ∀ (a : List UInt8), (∀ c ∈ a, c ≠ 32) → splitW (a ++ 32 :: l) = a :: splitW l
  | [], _ => by simp [splitW]
  | c :: r, h => by
    rw [List.cons_append, splitW, if_neg (h c (by simp)), splitW_cons l r (fun x hx => h x (by simp [hx]))]
/-- Words joined by blanks are parted again. -/
theorem splitW_join : ∀ (ts : List (List UInt8)) (a : List UInt8), (∀ c ∈ a, c ≠ 32) → (∀ t ∈ ts, ∀ c ∈ t, c ≠ 32) → splitW (a ++ ts.flatMap fun t => 32 :: t) = a :: ts
  | [], a, h, _ => by simpa using splitW_word a h
  | t :: ts, a, h, ht => by
    rw [List.flatMap_cons, List.cons_append, splitW_cons _ a h, splitW_join ts t (ht t (by simp)) (fun u hu => ht u (by simp [hu]))]
/-- The library's cut at blanks. -/
theorem index_blank : ∀ (l : List UInt8), (Lib.index l [32] = -1 ∧ ∀ c ∈ l, c ≠ 32) ∨ ∃ a r, l = a ++ 32 :: r ∧ (∀ c ∈ a, c ≠ 32) ∧ Lib.index l [32] = a.length
  | [] => .inl ⟨by simp [Lib.index], by simp⟩
  | b :: l => by
    by_cases hb : b = 32
    · subst hb
      exact .inr ⟨[], l, rfl, by simp, by simp [Lib.index, List.isPrefixOf]⟩
    · have e : ([32] : List UInt8).isPrefixOf (b :: l) = false := by simp [List.isPrefixOf]; exact fun h => hb h.symm
      rcases index_blank l with ⟨h1, h2⟩ | ⟨a, r, rfl, h2, h3⟩
      · left
        refine ⟨by unfold Lib.index; rw [e, h1]; rfl, fun c hc => ?_⟩
        rcases List.mem_cons.1 hc with rfl | hc
        · exact hb
        · exact h2 c hc
      · right
        refine ⟨b :: a, r, rfl, fun c hc => ?_, ?_⟩
        · rcases List.mem_cons.1 hc with rfl | hc
          · exact hb
          · exact h2 c hc
        · unfold Lib.index
          rw [e, h3]
          have : ((a.length : Int) == -1) = false := by rw [beq_eq_false_iff_ne]; omega
          rw [this]
          simp
theorem splitK_blank : ∀ (n : Nat) (l : List UInt8), l.length ≤ n → ∀ k, Lib.count l [32] ≤ k → Lib.splitK [32] 0 k l = splitW l := by
  intro n
  induction n with
  | zero =>
    intro l hl k hk
    have : l = [] := List.eq_nil_of_length_eq_zero (by omega)
    subst this
    cases k with
    | zero => rfl
    | succ k => simp [Lib.splitK, Lib.index, splitW]
  | succ n ih =>
    intro l hl k hk
    rcases index_blank l with ⟨h1, h2⟩ | ⟨a, r, rfl, h2, h3⟩
    · rw [splitW_word l h2]
      cases k with
      | zero => rfl
      | succ k => unfold Lib.splitK; rw [h1]; rfl
    · rw [Lib.count_hit (by simp) h3] at hk
      cases k with
      | zero => omega
      | succ k =>
        unfold Lib.splitK
        have hne : (Lib.index (a ++ 32 :: r) [32] == -1) = false := by rw [h3, beq_eq_false_iff_ne]; omega
        have hd : List.drop (a.length + ([32] : List UInt8).length) (a ++ 32 :: r) = r := by simp [List.drop_append]
        rw [hne, h3, Int.toNat_natCast, hd, splitW_cons _ _ h2]
        rw [hd] at hk
        rw [ih r (by simp at hl; omega) k (by omega)]
        simp
theorem splitB_words (s : ByteArray) : (Lib.splitB ⟨#[32]⟩ 0 (Lib.countB s ⟨#[32]⟩) s).map (·.data.toList) = splitW s.data.toList := by
  rw [Lib.splitB_data]
  exact splitK_blank _ _ (Nat.le_refl _) _ (Nat.le_refl _)
/-! ### Numerals -/
theorem digit_of (u : Nat) (h : u < 10) : (UInt8.ofNat (48 + u)).toNat = 48 + u := by simp; omega
theorem digitVal_of (u : Nat) (h : u < 10) : Lib.digitVal (UInt8.ofNat (48 + u)) = some u := by
  unfold Lib.digitVal
  rw [digit_of u h, if_pos (by omega)]
  congr 1; omega
theorem decFrom_snoc (b : UInt8) (d : Nat) (hb : Lib.digitVal b = some d) : ∀ (l : List UInt8) (acc n : Nat), Lib.decFrom acc l = some n → Lib.decFrom acc (l ++ [b]) = some (n * 10 + d)
  | [], acc, n, h => by
    simp only [Lib.decFrom, Option.some.injEq] at h
    subst h
    simp [Lib.decFrom, hb]
  | c :: r, acc, n, h => by
    simp only [Lib.decFrom] at h
    cases hc : Lib.digitVal c with
    | none => rw [hc] at h; cases h
    | some d' =>
      rw [hc] at h
      simp only [List.cons_append, Lib.decFrom, hc]
      exact decFrom_snoc b d hb r _ n h
theorem decFrom_dec (u : Nat) : Lib.decFrom 0 (Lib.decDigits u) = some u := by
  induction u using Nat.strongRecOn with
  | ind u ih =>
    by_cases h : u < 10
    · rw [Lib.decDigits_one h]
      simp only [Lib.decFrom, digitVal_of u h, Nat.zero_mul, Nat.zero_add]
    · rw [Lib.decDigits, dif_neg h]
      have := decFrom_snoc (UInt8.ofNat (48 + u % 10)) (u % 10) (digitVal_of _ (by omega)) _ _ _ (ih (u / 10) (by omega))
      rw [this]
      congr 1; omega
theorem dec_digit (u : Nat) : ∀ c ∈ Lib.decDigits u, 48 ≤ c.toNat ∧ c.toNat ≤ 57 := by
  induction u using Nat.strongRecOn with
  | ind u ih =>
    intro c hc
    by_cases h : u < 10
    · rw [Lib.decDigits_one h] at hc
      simp only [List.mem_singleton] at hc
      subst hc
      rw [digit_of u h]; omega
    · rw [Lib.decDigits, dif_neg h] at hc
      rcases List.mem_append.1 hc with hc | hc
      · exact ih (u / 10) (by omega) c hc
      · simp only [List.mem_singleton] at hc
        subst hc
        rw [digit_of _ (by omega)]; omega
theorem dec_ne (u : Nat) : Lib.decDigits u ≠ [] := by
  rw [Lib.decDigits]; split <;> simp
theorem decNat_dec (u : Nat) : Lib.decNat (Lib.decDigits u) = some u := by
  unfold Lib.decNat
  rw [decFrom_dec]
  have := dec_ne u
  cases h : Lib.decDigits u with
  | nil => exact absurd h this
  | cons b r => rfl
theorem atoi_itoa (n : Int) : Lib.atoi (Lib.itoa n) = some n := by
  unfold Lib.itoa
  split
  · next h =>
    simp [Lib.atoi, decNat_dec]
    omega
  · next h =>
    have hd := dec_digit n.toNat
    have hn := decNat_dec n.toNat
    cases hl : Lib.decDigits n.toNat with
    | nil => exact absurd hl (dec_ne _)
    | cons b r =>
      rw [hl] at hn hd
      have hb := hd b (by simp)
      have h45 : (b == 45) = false := by
        rw [beq_eq_false_iff_ne]; intro e; subst e; simp at hb
      have h43 : (b == 43) = false := by
        rw [beq_eq_false_iff_ne]; intro e; subst e; simp at hb
      simp only [Lib.atoi, h45, h43, hn, Bool.false_eq_true, if_false, Option.map_some, Option.some.injEq]
      omega
theorem itoa_chars (n : Int) : ∀ c ∈ Lib.itoa n, c.toNat = 45 ∨ (48 ≤ c.toNat ∧ c.toNat ≤ 57) := by
  unfold Lib.itoa
  intro c hc
  split at hc
  · rcases List.mem_cons.1 hc with rfl | hc
    · exact .inl rfl
    · exact .inr (dec_digit _ c hc)
  · exact .inr (dec_digit _ c hc)
theorem itoa_blank (n : Int) : ∀ c ∈ Lib.itoa n, c ≠ 32 := by
  intro c hc e
  subst e
  rcases itoa_chars n _ hc with h | h
  · exact absurd h (by decide)
  · exact absurd h (by decide)
theorem trim_reg (n : Int) : Lib.trimPrefix (120 :: Lib.itoa n) [120] = Lib.itoa n := by
  simp [Lib.trimPrefix, Lib.hasPrefix, List.isPrefixOf]
theorem trim_imm (n : Int) : Lib.trimPrefix (Lib.itoa n) [120] = Lib.itoa n := by
  unfold Lib.trimPrefix
  have : Lib.hasPrefix (Lib.itoa n) [120] = false := by
    unfold Lib.hasPrefix
    cases h : Lib.itoa n with
    | nil => rfl
    | cons b r =>
      have hb := itoa_chars n b (by rw [h]; simp)
      simp [List.isPrefixOf]
      intro e
      subst e
      rcases hb with h | h <;> exact absurd h (by decide)
  rw [this]
  rfl
/-! ### The words of an instruction -/
/-- The names as strings. -/
def namesB : List ByteArray := opNames.map fun l => ⟨l.toArray⟩
theorem namesB_at (n : Nat) : namesB.getD n ByteArray.empty = opName n := by
  unfold namesB opName
  rw [List.getD_eq_getElem?_getD, List.getElem?_map, List.getD_eq_getElem?_getD]
  cases h : opNames[n]? with
  | none => rfl
  | some l => rfl
theorem names_index : ∀ n : Fin 41, Lib.idxOfS namesB (opName n) = (n.val : Int) := by decide +kernel
theorem name_blank : ∀ l ∈ opNames, ∀ c ∈ l, c ≠ 32 := by decide +kernel
/-- A word is read as a number. -/
def num (w : List UInt8) : Option Int := match Lib.atoiAll (Lib.trimPrefix w [120]) with
  | .ok n => some n
  | _ => none
/-- The number that a field is given, and the words behind it. -/
def tk (p : Bool) (ws : List (List UInt8)) : Option (Int × List (List UInt8)) :=
  if p then match ws with
    | [] => none
    | w :: r => (num w).map fun n => (n, r)
  else some (0, ws)
/-- The instruction that words seem to be. -/
def cand (ws : List (List UInt8)) : Option RvI := match ws with
  | [] => none
  | nm :: ws => if Lib.idxOfS namesB ⟨nm.toArray⟩ < 0 then none else
    let op := (Lib.idxOfS namesB ⟨nm.toArray⟩).toNat
    (tk (Rv.hasD (Rv.shapeN op)) ws).bind fun (d, w1) => (tk (Rv.hasA (Rv.shapeN op)) w1).bind fun (a, w2) => (tk (Rv.hasB (Rv.shapeN op)) w2).bind fun (b, w3) =>
      (tk (Rv.hasI (Rv.shapeN op)) w3).map fun (n, _) => ⟨op, d, a, b, n⟩
/-- The instruction that a text is. -/
def parse (s : ByteArray) : Option RvI := (cand (splitW s.data.toList)).bind fun x => if Rv.valid x = true ∧ text4 x = s then some x else none
def tokR (p : Bool) (n : Int) : List (List UInt8) := if p then [120 :: Lib.itoa n] else []
def tokI (p : Bool) (n : Int) : List (List UInt8) := if p then [Lib.itoa n] else []
/-- The words of an instruction's text behind the name. -/
def toks (x : RvI) : List (List UInt8) := tokR (Rv.hasD (Rv.shapeN x.op.toNat)) x.d ++ (tokR (Rv.hasA (Rv.shapeN x.op.toNat)) x.a ++ (tokR (Rv.hasB (Rv.shapeN x.op.toNat)) x.b ++ tokI (Rv.hasI (Rv.shapeN x.op.toNat)) x.imm))
theorem data_app (a b : ByteArray) : (a ++ b).data.toList = a.data.toList ++ b.data.toList := by
  rw [ByteArray.data_append, Array.toList_append]
theorem text_list (x : RvI) : (text4 x).data.toList = (opName x.op.toNat).data.toList ++ (toks x).flatMap fun t => 32 :: t := by
  unfold text4 text3 text2 text1 toks tokR tokI regB immB itoaB
  cases Rv.hasD (Rv.shapeN x.op.toNat) <;> cases Rv.hasA (Rv.shapeN x.op.toNat) <;> cases Rv.hasB (Rv.shapeN x.op.toNat) <;> cases Rv.hasI (Rv.shapeN x.op.toNat) <;> simp [data_app]
theorem tok_blank (x : RvI) : ∀ t ∈ toks x, ∀ c ∈ t, c ≠ 32 := by
  have hR : ∀ (p : Bool) (n : Int), ∀ t ∈ tokR p n, ∀ c ∈ t, c ≠ 32 := by
    intro p n t ht c hc
    cases p with
    | false => cases ht
    | true =>
      simp only [tokR, if_true, List.mem_singleton] at ht
      subst ht
      rcases List.mem_cons.1 hc with rfl | hc
      · decide
      · exact itoa_blank n c hc
  have hI : ∀ (p : Bool) (n : Int), ∀ t ∈ tokI p n, ∀ c ∈ t, c ≠ 32 := by
    intro p n t ht c hc
    cases p with
    | false => cases ht
    | true =>
      simp only [tokI, if_true, List.mem_singleton] at ht
      subst ht
      exact itoa_blank n c hc
  intro t ht
  unfold toks at ht
  simp only [List.mem_append] at ht
  rcases ht with ht | ht | ht | ht
  · exact hR _ _ t ht
  · exact hR _ _ t ht
  · exact hR _ _ t ht
  · exact hI _ _ t ht
theorem opName_blank (n : Nat) : ∀ c ∈ (opName n).data.toList, c ≠ 32 := by
  intro c hc
  have e : (opName n).data.toList = opNames.getD n [] := rfl
  rw [e, List.getD_eq_getElem?_getD] at hc
  cases h : opNames[n]? with
  | none => rw [h] at hc; cases hc
  | some l => rw [h] at hc; exact name_blank l (List.mem_of_getElem? h) c hc
theorem text_words (x : RvI) : splitW (text4 x).data.toList = (opName x.op.toNat).data.toList :: toks x := by
  rw [text_list, splitW_join _ _ (opName_blank _) (tok_blank x)]
theorem itoa_short (n : Int) (h0 : -1048576 ≤ n) (h1 : n ≤ 1048575) : (Lib.itoa n).length ≤ 18 := by
  have hd : ∀ u : Nat, u < 10000000 → (Lib.decDigits u).length ≤ 7 := by
    intro u hu
    rw [Lib.decDigits_length]
    rcases Nat.lt_or_ge (Lib.nDigits u) 8 with h | h
    · omega
    · have h2 : ∀ k, 1 ≤ k → ∀ u, k + 1 ≤ Lib.nDigits u → 10 ^ k ≤ u := by
        intro k hk
        induction k with
        | zero => omega
        | succ k ih =>
          intro u hku
          by_cases h10 : u < 10
          · rw [Lib.nDigits_small h10] at hku; omega
          · rw [Lib.nDigits_big h10] at hku
            by_cases hk0 : k = 0
            · subst hk0; omega
            · have := ih (by omega) (u / 10) (by omega)
              rw [Nat.pow_succ]; omega
      have := h2 7 (by omega) u (by omega)
      omega
  unfold Lib.itoa
  split
  · have := hd n.natAbs (by omega)
    simp; omega
  · have := hd n.toNat (by omega)
    omega
theorem num_reg (n : Int) (h0 : -1048576 ≤ n) (h1 : n ≤ 1048575) : num (120 :: Lib.itoa n) = some n := by
  unfold num
  rw [trim_reg, Lib.atoiAll_short _ (itoa_short n h0 h1), atoi_itoa]
  rfl
theorem num_imm (n : Int) (h0 : -1048576 ≤ n) (h1 : n ≤ 1048575) : num (Lib.itoa n) = some n := by
  unfold num
  rw [trim_imm, Lib.atoiAll_short _ (itoa_short n h0 h1), atoi_itoa]
  rfl
theorem tk_reg (p : Bool) (n : Int) (h0 : -1048576 ≤ n) (h1 : n ≤ 1048575) (hp : p = false → n = 0) (r : List (List UInt8)) : tk p (tokR p n ++ r) = some (n, r) := by
  cases p with
  | false => rw [hp rfl]; rfl
  | true => simp [tk, tokR, num_reg n h0 h1]
theorem tk_imm (p : Bool) (n : Int) (h0 : -1048576 ≤ n) (h1 : n ≤ 1048575) (hp : p = false → n = 0) : tk p (tokI p n) = some (n, []) := by
  cases p with
  | false => rw [hp rfl]; rfl
  | true => simp [tk, tokI, num_imm n h0 h1]
end Pa
end Go.Proofs.YthiaaagoccpkcaaDoor

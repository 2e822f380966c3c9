/- The program's answers and the document's are the same: plain lists, no program in sight. -/
import Derived.Test.YtiadpjhlomhjeaaGreatZk
namespace Go.Proofs.YtiadpjhlomhjeaaGreat
open Go.RowKit

theorem itemsFrom_len : ∀ (bs : List (List Ins)) (n b : Nat), (Ir.itemsFrom bs n b).length = Ref.total bs
  | [], _, _ => rfl
  | l :: r, n, b => by rw [Ir.itemsFrom, List.length_append, itemsB_len, itemsFrom_len r, Ref.total_cons]
theorem items_len (f : Fn) : (Ir.items f).length = Ref.total f.blocks := itemsFrom_len _ _ _
theorem itemsFrom_get : ∀ (bs : List (List Ins)) (n b i : Nat) (it : It), (Ir.itemsFrom bs n b)[i]? = some it →
    Ref.whereFrom ((n + i : Nat) : Int) bs b n = ((it.blk : Int), (it.pos : Int)) ∧ b ≤ it.blk ∧ it.num = n + i ∧ ∃ l, bs[it.blk - b]? = some l ∧ l[it.pos]? = some it.ins
  | [], n, b, i, it, h => by simp [Ir.itemsFrom] at h
  | l :: r, n, b, i, it, h => by
    rw [Ir.itemsFrom] at h
    rcases Nat.lt_or_ge i l.length with hi | hi
    · rw [List.getElem?_append_left (by rw [itemsB_len]; exact hi), itemsB_get l n b i l[i] (by simp [hi])] at h
      simp only [Option.some.injEq] at h
      subst h
      refine ⟨?_, Nat.le_refl _, rfl, l, by simp, by simp [hi]⟩
      rw [Ref.whereFrom, if_pos (by omega)]
      refine Prod.ext rfl ?_
      show ((n + i : Nat) : Int) - n = (i : Int)
      omega
    · rw [List.getElem?_append_right (by rw [itemsB_len]; exact hi), itemsB_len] at h
      obtain ⟨h1, h2, h3, l', h4, h5⟩ := itemsFrom_get r (n + l.length) (b + 1) (i - l.length) it h
      refine ⟨?_, by omega, by omega, l', ?_, h5⟩
      · rw [Ref.whereFrom, if_neg (by omega), show ((n + i : Nat) : Int) = ((n + l.length + (i - l.length) : Nat) : Int) by omega]
        exact h1
      · rw [show it.blk - b = (it.blk - (b + 1)) + 1 by omega]; simpa using h4
theorem items_get (f : Fn) (i : Nat) (it : It) (h : (Ir.items f)[i]? = some it) :
    Ref.whereIs f ((f.params.length + i : Nat) : Int) = ((it.blk : Int), (it.pos : Int)) ∧ it.num = f.params.length + i ∧ ∃ l, f.blocks[it.blk]? = some l ∧ l[it.pos]? = some it.ins := by
  obtain ⟨h1, h2, h3, l, h4, h5⟩ := itemsFrom_get f.blocks f.params.length 0 i it h
  exact ⟨h1, h3, l, by simpa using h4, h5⟩
theorem items_in (f : Fn) (it : It) (h : it ∈ Ir.items f) : ∃ l, f.blocks[it.blk]? = some l ∧ l[it.pos]? = some it.ins := by
  obtain ⟨i, hi, e⟩ := List.getElem_of_mem h
  exact (items_get f i it (by rw [List.getElem?_eq_getElem hi, e])).2.2
theorem count_eq (f : Fn) : Ref.count f = f.params.length + (Ir.items f).length := by
  rw [items_len]; unfold Ref.count Ref.number; rw [List.take_length]

theorem itemsB_all (q : Ins → Bool) (l : List Ins) (n b : Nat) : (Ir.itemsB l n b).all (fun it => q it.ins) = l.all q := by
  have h : (Ir.itemsB l n b).map (·.ins) = l := by
    apply List.ext_getElem?
    intro i
    simp [Ir.itemsB]
    cases l[i]? <;> simp
  have h2 : (Ir.itemsB l n b).all (fun it => q it.ins) = ((Ir.itemsB l n b).map (·.ins)).all q := by rw [List.all_map]; rfl
  rw [h2, h]
theorem itemsFrom_all (q : Ins → Bool) : ∀ (bs : List (List Ins)) (n b : Nat), (Ir.itemsFrom bs n b).all (fun it => q it.ins) = bs.all fun l => l.all q
  | [], _, _ => rfl
  | l :: r, n, b => by rw [Ir.itemsFrom, List.all_append, itemsB_all, itemsFrom_all q r, List.all_cons]
theorem items_all (q : Ins → Bool) (f : Fn) : (Ir.items f).all (fun it => q it.ins) = f.blocks.all fun l => l.all q := itemsFrom_all q _ _ _

/-- The kind of a value, by the list of all kinds. -/
def Ir.kv (ks : List Int) (v : Int) : Int := if v < 0 ∨ (ks.length : Int) ≤ v then -1 else ks.getD v.toNat 0
theorem kinds_len (f : Fn) : (Ir.kinds f).length = Ref.count f := by rw [count_eq]; simp [Ir.kinds]
theorem kv_eq (f : Fn) (v : Int) : Ir.kv (Ir.kinds f) v = Ref.kind f v := by
  unfold Ir.kv Ref.kind
  rw [kinds_len]
  split
  · rfl
  · next h =>
    obtain ⟨n, rfl⟩ := Int.eq_ofNat_of_zero_le (show 0 ≤ v by omega)
    rw [Int.toNat_natCast]
    by_cases hp : (n : Int) < f.params.length
    · rw [if_pos hp]
      unfold Ir.kinds
      simp only [List.getD, List.getElem?_append_left (show n < f.params.length by omega)]
    · rw [if_neg hp]
      have hc := count_eq f
      have hi : n - f.params.length < (Ir.items f).length := by omega
      obtain ⟨it, hit⟩ : ∃ it, (Ir.items f)[n - f.params.length]? = some it := ⟨_, List.getElem?_eq_getElem hi⟩
      obtain ⟨h1, h2, l, h3, h4⟩ := items_get f _ it hit
      rw [show f.params.length + (n - f.params.length) = n by omega] at h1
      rw [h1]
      unfold Ir.kinds Ref.insAt?
      simp only [List.getD, List.getElem?_append_right (show f.params.length ≤ n by omega), List.getElem?_map, hit, Option.map_some, Option.getD_some, Int.toNat_natCast, h3, Option.bind_some, h4]

/-- What the program's typed answers. -/
def Ir.each (ks : List Int) (x : Ins) (k : Int) : Bool := x.args.all fun v => decide (Ir.kv ks v = k)
def Ir.kof (ks : List Int) (x : Ins) (i : Nat) : Int := Ir.kv ks (x.args.getD i 0)
def Ir.typed (f : Fn) (x : Ins) (ks : List Int) : Bool :=
  if Ir.classOf x.op = 2 ∨ Ir.classOf x.op = 7 ∨ Ir.classOf x.op = 8 ∨ Ir.classOf x.op = 14 then Ir.each ks x x.width
  else if Ir.classOf x.op = 3 then Ref.isWidth (Ir.kof ks x 0) && Ir.each ks x (Ir.kof ks x 0)
  else if Ir.classOf x.op = 4 then decide (Ir.kof ks x 0 = 1) && decide (Ir.kof ks x 1 = x.width) && decide (Ir.kof ks x 2 = x.width)
  else if Ir.classOf x.op = 5 then Ref.isWidth (Ir.kof ks x 0) && decide (Ir.kof ks x 0 < x.width)
  else if Ir.classOf x.op = 6 then Ref.isWidth (Ir.kof ks x 0) && decide (x.width < Ir.kof ks x 0)
  else if Ir.classOf x.op = 11 then decide (Ir.kof ks x 0 = 33) && Ref.isWidth (Ir.kof ks x 1)
  else if Ir.classOf x.op = 12 then decide (Ir.kof ks x 0 = 33)
  else if Ir.classOf x.op = 13 then decide (Ir.kof ks x 0 = 33) && Ref.isMem (Ir.kof ks x 1)
  else if Ir.classOf x.op = 16 then decide (Ir.kof ks x 0 = 1)
  else if Ir.classOf x.op = 17 then Ir.each ks x f.ret
  else true

theorem len0 {α : Type} {l : List α} (h : (l.length : Int) = 0) : l = [] := List.eq_nil_of_length_eq_zero (by omega)
theorem len1 {α : Type} {l : List α} (h : (l.length : Int) = 1) : ∃ a, l = [a] := by
  match l, h with
  | [a], _ => exact ⟨a, rfl⟩
theorem len2 {α : Type} {l : List α} (h : (l.length : Int) = 2) : ∃ a b, l = [a, b] := by
  match l, h with
  | [a, b], _ => exact ⟨a, b, rfl⟩
theorem len3 {α : Type} {l : List α} (h : (l.length : Int) = 3) : ∃ a b c, l = [a, b, c] := by
  match l, h with
  | [a, b, c], _ => exact ⟨a, b, c, rfl⟩

/-- What the document's 'argument' says of an instruction, class by class. -/
theorem arg_len {f : Fn} {x : Ins} (h : Ref.argument f x = true) : (0 ≤ (Ref.shape f x).1 → (x.args.length : Int) = (Ref.shape f x).1) ∧ (Ref.shape f x).2.2 = true := by
  unfold Ref.argument Ref.counts at h
  simp only [Bool.and_eq_true] at h
  obtain ⟨⟨⟨h1, h2⟩, -⟩, -⟩ := h
  refine ⟨fun h0 => ?_, h1⟩
  simp only [Bool.not_eq_true', Bool.or_eq_false_iff, Bool.and_eq_false_imp, decide_eq_true_eq, decide_eq_false_iff_not] at h2
  have := h2.1.1 h0
  omega
theorem each_kind (f : Fn) (x : Ins) (k : Int) (hk : 0 ≤ k) : Ir.each (Ir.kinds f) x k = (x.args.all (fun v => decide (0 ≤ Ref.kind f v)) && (x.args.map (Ref.kind f)).all fun z => decide (z = k)) := by
  unfold Ir.each
  simp only [kv_eq]
  induction x.args with
  | nil => rfl
  | cons a r ih =>
    simp only [List.all_cons, ih, List.map_cons]
    by_cases h : Ref.kind f a = k
    · simp [h, hk]
    · simp [h]
      
theorem width_pos {n : Int} (h : Ref.isWidth n = true) : 1 ≤ n := by unfold Ref.isWidth at h; simp at h; exact h.1
theorem shape_out (f : Fn) (x : Ins) (h : x.op < 0 ∨ 32 < x.op) : Ref.shape f x = (0, 0, false) := by
  unfold Ref.shape
  iterate 16 rw [if_neg (by omega)]
theorem op_cases (op : Int) (h : ¬ (op < 0 ∨ 32 < op)) : (op = 1 ∨ op = 2 ∨ op = 3 ∨ op = 4 ∨ op = 5 ∨ op = 6 ∨ op = 7 ∨ op = 8 ∨ op = 9 ∨ op = 10 ∨ op = 11 ∨ op = 12 ∨ op = 13 ∨ op = 19 ∨ op = 20 ∨ op = 21 ∨ op = 28) ∨
    (op = 0 ∨ op = 22 ∨ op = 23 ∨ op = 24 ∨ op = 29 ∨ op = 32) ∨ (op = 16 ∨ op = 17 ∨ op = 18 ∨ op = 26 ∨ op = 30) ∨ (op = 14 ∨ op = 25 ∨ op = 27) ∨ op = 15 ∨ op = 31 := by omega
set_option maxHeartbeats 2000000 in
theorem typed_eq (f : Fn) (x : Ins) (hA : Ref.argument f x = true) : Ir.typed f x (Ir.kinds f) = Ref.typed f x := by
  obtain ⟨hl, hs⟩ := arg_len hA
  clear hA
  by_cases ho : x.op < 0 ∨ 32 < x.op
  · rw [shape_out f x ho] at hs; cases hs
  have hE := fun k hk => each_kind f x k hk
  unfold Ir.typed Ref.typed Ref.typedKinds
  obtain ⟨op, width, flags, args, imm, to⟩ := x
  dsimp only at *
  rcases op_cases op ho with h | h | h | h | h | h
  · have hw : 1 ≤ width := by
      rcases h with h | h | h | h | h | h | h | h | h | h | h | h | h | h | h | h | h
      all_goals (subst h; simp [Ref.shape, Ref.isWidth] at hs; omega)
    have hc : Ir.classOf op = 2 ∨ Ir.classOf op = 7 ∨ Ir.classOf op = 8 ∨ Ir.classOf op = 14 := by
      rcases h with h | h | h | h | h | h | h | h | h | h | h | h | h | h | h | h | h
      all_goals (subst h; decide)
    rw [if_pos hc, hE width (by omega)]
    simp only [show ¬ op = 14 by omega, show ¬ op = 15 by omega, show ¬ (op = 16 ∨ op = 17) by omega, show ¬ op = 18 by omega, show ¬ op = 25 by omega, show ¬ op = 26 by omega, show ¬ op = 27 by omega, show ¬ op = 30 by omega, show ¬ op = 31 by omega, if_false]
  · have ha : args = [] := by
      rcases h with h | h | h | h | h | h
      all_goals (subst h; simp [Ref.shape] at hl; exact hl)
    subst ha
    rcases h with h | h | h | h | h | h
    all_goals (subst h; simp [Ir.classOf])
  · have ha : ∃ a, args = [a] := by
      rcases h with h | h | h | h | h
      all_goals (subst h; simp [Ref.shape] at hl; exact len1 (by omega))
    obtain ⟨a, rfl⟩ := ha
    clear hE hl
    rcases h with h | h | h | h | h
    all_goals (subst h; simp [Ref.shape, Ref.isWidth] at hs; simp [Ir.classOf, Ir.kof, kv_eq, Ref.isWidth]; omega)
  · have ha : ∃ a b, args = [a, b] := by
      rcases h with h | h | h
      all_goals (subst h; simp [Ref.shape] at hl; exact len2 (by omega))
    obtain ⟨a, b, rfl⟩ := ha
    clear hE hl
    rcases h with h | h | h
    all_goals (subst h; simp [Ref.shape] at hs; simp [Ir.classOf, Ir.each, Ir.kof, kv_eq, Ref.isWidth, Ref.isMem]; first | omega | grind)
  · subst h
    simp [Ref.shape, Ref.isWidth] at hl hs
    obtain ⟨a, b, c, rfl⟩ := len3 (by omega : (args.length : Int) = 3)
    simp [Ir.classOf, Ir.kof, kv_eq]
    omega
  · subst h
    simp [Ref.shape] at hl hs
    by_cases h0 : 0 < f.ret
    · simp [h0] at hl
      obtain ⟨a, rfl⟩ := len1 (by omega : (args.length : Int) = 1)
      simp [Ir.classOf, Ir.each, kv_eq]
      omega
    · simp [h0] at hl
      subst hl
      simp [Ir.classOf, Ir.each]
end Go.Proofs.YtiadpjhlomhjeaaGreat

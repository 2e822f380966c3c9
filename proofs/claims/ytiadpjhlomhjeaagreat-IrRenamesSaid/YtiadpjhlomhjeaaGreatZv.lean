/- Moved functions: the plain law. No program in sight. -/
import Derived.Test.YtiadpjhlomhjeaaGreatZb

namespace Go.Proofs.YtiadpjhlomhjeaaGreat
set_option linter.unusedSimpArgs false
set_option linter.unusedVariables false
namespace Ref

/-! ### Lists in ascending order -/
theorem asc_ext {α : Type} (key : α → Int) : ∀ {L L' : List α}, L.Pairwise (fun a b => key a < key b) → L'.Pairwise (fun a b => key a < key b) → (∀ x, x ∈ L ↔ x ∈ L') → L = L'
  | [], [], _, _, _ => rfl
  | [], y :: l, _, _, h => absurd ((h y).2 (by simp)) (by simp)
  | x :: l, [], _, _, h => absurd ((h x).1 (by simp)) (by simp)
  | x :: l, y :: r, hl, hr, h => by
    obtain ⟨hx, hl⟩ := List.pairwise_cons.1 hl
    obtain ⟨hy, hr'⟩ := List.pairwise_cons.1 hr
    have e : x = y := by
      rcases List.mem_cons.1 ((h x).1 (by simp)) with e | e
      · exact e
      · rcases List.mem_cons.1 ((h y).2 (by simp)) with e' | e'
        · exact e'.symm
        · have := hy x e; have := hx y e'; omega
    subst e
    congr 1
    refine asc_ext key hl hr' fun z => ⟨fun hz => ?_, fun hz => ?_⟩
    · rcases List.mem_cons.1 ((h z).1 (List.mem_cons_of_mem _ hz)) with e | e
      · subst e; have := hx z hz; omega
      · exact e
    · rcases List.mem_cons.1 ((h z).2 (List.mem_cons_of_mem _ hz)) with e | e
      · subst e; have := hy z hz; omega
      · exact e
/-- Pairs in ascending order of their first numbers, those from 0 to n - 1. -/
def sortP (n : Nat) (L : List (Int × Int)) : List (Int × Int) := (List.range n).flatMap fun b : Nat => L.filter fun p => decide (p.1 = (b : Int))
theorem mem_sortP {n : Nat} {L : List (Int × Int)} {p : Int × Int} : p ∈ sortP n L ↔ p ∈ L ∧ 0 ≤ p.1 ∧ p.1 < n := by
  unfold sortP
  simp only [List.mem_flatMap, List.mem_range, List.mem_filter, decide_eq_true_eq]
  constructor
  · rintro ⟨b, hb, hp, e⟩
    exact ⟨hp, by omega, by omega⟩
  · rintro ⟨hp, h0, h1⟩
    exact ⟨p.1.toNat, by omega, hp, by omega⟩
theorem sortP_succ (n : Nat) (L : List (Int × Int)) : sortP (n + 1) L = sortP n L ++ L.filter fun p => decide (p.1 = (n : Int)) := by
  unfold sortP
  rw [List.range_succ, List.flatMap_append]
  simp
/-- No two first numbers are the same, but for those below 0. -/
def Apart (L : List (Int × Int)) : Prop := L.Pairwise fun a b => a.1 = b.1 → a.1 < 0
theorem asc_sortP {L : List (Int × Int)} (h : Apart L) : ∀ n, (sortP n L).Pairwise fun a b => a.1 < b.1
  | 0 => by simp [sortP]
  | n + 1 => by
    rw [sortP_succ, List.pairwise_append]
    refine ⟨asc_sortP h n, ?_, fun a ha b hb => ?_⟩
    · refine List.Pairwise.imp_of_mem ?_ (List.Pairwise.filter _ h)
      intro a b ha hb hab
      simp only [List.mem_filter, decide_eq_true_eq] at ha hb
      have := hab (by omega)
      omega
    · have h1 := (mem_sortP.1 ha).2.2
      simp only [List.mem_filter, decide_eq_true_eq] at hb
      omega
theorem sortP_eq {n : Nat} {L L' : List (Int × Int)} (h : Apart L) (ha : L'.Pairwise fun a b => a.1 < b.1) (hm : ∀ p, p ∈ L' ↔ p ∈ L ∧ 0 ≤ p.1 ∧ p.1 < n) : sortP n L = L' :=
  asc_ext (fun p => p.1) (asc_sortP h n) ha fun p => by rw [hm]; exact mem_sortP
theorem apart_of_asc {L : List (Int × Int)} (h : L.Pairwise fun a b => a.1 < b.1) : Apart L := h.imp fun h e => by omega

/-! ### Where values and blocks go -/
theorem total_append (a b : List (List Ins)) : total (a ++ b) = total a + total b := by simp [total]
theorem number_next (f : Fn) {b : Nat} {l : List Ins} (h : f.blocks[b]? = some l) : number f (b + 1) = number f b + l.length := by
  unfold number
  rw [total_take_succ _ _ _ h]; omega
theorem total_take_le (bs : List (List Ins)) : ∀ (i j : Nat), i ≤ j → total (bs.take i) ≤ total (bs.take j) := by
  intro i j h
  have : bs.take j = bs.take i ++ (bs.drop i).take (j - i) := by
    rw [show j = i + (j - i) by omega, List.take_add, show i + (j - i) - i = j - i by omega]
  rw [this, total_append]; omega
theorem number_le (f : Fn) {b c : Nat} {l : List Ins} (h : f.blocks[b]? = some l) (hc : b < c) : number f b + l.length ≤ number f c := by
  have h1 := number_next f h
  have h2 := total_take_le f.blocks (b + 1) c (by omega)
  unfold number at h1 ⊢
  omega
theorem number_count (f : Fn) {b : Nat} {l : List Ins} (h : f.blocks[b]? = some l) : number f b + l.length ≤ count f := by
  have hb := (List.getElem?_eq_some_iff.1 h).1
  unfold count
  exact number_le f h hb
/-- The number of the first value behind some blocks. -/
def start (f : Fn) (o : List Nat) : Nat := f.params.length + (o.map fun b => (f.blocks.getD b []).length).sum
/-- The new number of a value; -1 if it is left out. -/
def numFrom (f : Fn) (v : Int) : List Nat → Nat → Int
  | [], _ => -1
  | b :: r, n => if (number f b : Int) ≤ v ∧ v < number f b + (f.blocks.getD b []).length then n + (v - number f b) else numFrom f v r (n + (f.blocks.getD b []).length)
def num (f : Fn) (o : List Nat) (v : Int) : Int := if v < f.params.length then v else numFrom f v o f.params.length
/-- The new number of a block; -1 if it is left out. -/
def toFrom (b : Int) : List Nat → Nat → Int
  | [], _ => -1
  | c :: r, k => if b = c then k else toFrom b r (k + 1)
def toOf (o : List Nat) (b : Int) : Int := toFrom b o 0
def phiL (f : Fn) (o : List Nat) (x : Ins) : List (Int × Int) := (x.to.zip x.args).map fun p => (toOf o p.1, num f o p.2)
def renum (f : Fn) (o : List Nat) (x : Ins) : Ins :=
  if x.op = 28 then ⟨x.op, x.width, x.flags, (sortP f.blocks.length (phiL f o x)).map (·.2), x.imm, (sortP f.blocks.length (phiL f o x)).map (·.1)⟩
  else ⟨x.op, x.width, x.flags, x.args.map (num f o), x.imm, x.to.map (toOf o)⟩
/-- Some blocks in a new order. -/
def moved (f : Fn) (o : List Nat) : Fn := { f with blocks := o.map fun b => (f.blocks.getD b []).map (renum f o) }

theorem toFrom_get : ∀ (o : List Nat) (k j c : Nat), o[j]? = some c → o.Nodup → toFrom c o k = (k + j : Nat)
  | [], k, j, c, h, _ => by simp at h
  | d :: r, k, 0, c, h, _ => by
    simp at h; subst h
    simp [toFrom]
  | d :: r, k, j + 1, c, h, hn => by
    obtain ⟨h1, h2⟩ := List.nodup_cons.1 hn
    have hm : c ∈ r := List.mem_of_getElem? (by simpa using h)
    rw [toFrom, if_neg (fun e => h1 (by have e' : c = d := by omega
                                        exact e' ▸ hm)), toFrom_get r (k + 1) j c (by simpa using h) h2]
    omega
theorem toFrom_none (b : Int) : ∀ (o : List Nat) (k : Nat), (∀ c ∈ o, b ≠ (c : Nat)) → toFrom b o k = -1
  | [], _, _ => rfl
  | d :: r, k, h => by rw [toFrom, if_neg (h d (by simp)), toFrom_none b r (k + 1) fun c hc => h c (by simp [hc])]
theorem toFrom_some (b : Int) : ∀ (o : List Nat) (k : Nat), 0 ≤ toFrom b o k → ∃ j c, o[j]? = some c ∧ b = (c : Nat) ∧ toFrom b o k = (k + j : Nat)
  | [], k, h => by simp [toFrom] at h
  | d :: r, k, h => by
    by_cases e : b = d
    · exact ⟨0, d, rfl, e, by rw [toFrom, if_pos e]; simp⟩
    · rw [toFrom, if_neg e] at h ⊢
      obtain ⟨j, c, h1, h2, h3⟩ := toFrom_some b r (k + 1) h
      exact ⟨j + 1, c, by simpa using h1, h2, by rw [h3]; omega⟩
theorem toFrom_ge (b : Int) : ∀ (o : List Nat) (k : Nat), -1 ≤ toFrom b o k
  | [], _ => by simp [toFrom]
  | d :: r, k => by
    rw [toFrom]; split
    · omega
    · exact toFrom_ge b r (k + 1)
theorem toOf_get {o : List Nat} (hn : o.Nodup) {k b : Nat} (h : o[k]? = some b) : toOf o b = k := by
  unfold toOf; rw [toFrom_get o 0 k b h hn]; simp
theorem toOf_mem {o : List Nat} (hn : o.Nodup) {b : Nat} (h : b ∈ o) : ∃ k : Nat, o[k]? = some b ∧ toOf o b = k := by
  obtain ⟨k, hk⟩ := List.getElem?_of_mem h
  exact ⟨k, hk, toOf_get hn hk⟩
theorem toOf_some {o : List Nat} {b : Int} (h : 0 ≤ toOf o b) : ∃ k c : Nat, o[k]? = some c ∧ b = (c : Nat) ∧ toOf o b = k := by
  obtain ⟨j, c, h1, h2, h3⟩ := toFrom_some b o 0 h
  exact ⟨j, c, h1, h2, by unfold toOf; rw [h3]; simp⟩
theorem toOf_none {o : List Nat} {b : Int} (h : ∀ c ∈ o, b ≠ (c : Nat)) : toOf o b = -1 := toFrom_none b o 0 h
theorem toOf_ge (o : List Nat) (b : Int) : -1 ≤ toOf o b := toFrom_ge b o 0
theorem toOf_lt {o : List Nat} (b : Int) : toOf o b < o.length := by
  rcases (by omega : toOf o b < 0 ∨ 0 ≤ toOf o b) with h | h
  · omega
  · obtain ⟨k, c, h1, -, h3⟩ := toOf_some h
    have := (List.getElem?_eq_some_iff.1 h1).1
    omega
theorem start_cons (f : Fn) (b : Nat) (r : List Nat) : start f (b :: r) = start f r + (f.blocks.getD b []).length := by
  unfold start; simp; omega
theorem getD_some {f : Fn} {b : Nat} {l : List Ins} (h : f.blocks[b]? = some l) : f.blocks.getD b [] = l := by
  rw [List.getD_eq_getElem?_getD, h]; rfl
theorem numFrom_at (f : Fn) {b i : Nat} {l : List Ins} (hl : f.blocks[b]? = some l) (hi : i < l.length) : ∀ (o : List Nat) (n k : Nat), o.Nodup → (∀ c ∈ o, c < f.blocks.length) → o[k]? = some b →
    numFrom f ((number f b + i : Nat) : Int) o n = ((n + ((o.take k).map fun b => (f.blocks.getD b []).length).sum + i : Nat) : Int)
  | [], n, k, _, _, h => by simp at h
  | c :: r, n, 0, _, _, h => by
    simp at h; subst h
    rw [numFrom, getD_some hl, if_pos (by omega)]
    simp; omega
  | c :: r, n, k + 1, hn, hc, h => by
    obtain ⟨h1, h2⟩ := List.nodup_cons.1 hn
    have hm : b ∈ r := List.mem_of_getElem? (by simpa using h)
    have hne : c ≠ b := fun e => h1 (e ▸ hm)
    obtain ⟨lc, hlc⟩ : ∃ lc, f.blocks[c]? = some lc := ⟨_, List.getElem?_eq_getElem (hc c (by simp))⟩
    have hout : ¬ ((number f c : Int) ≤ ((number f b + i : Nat) : Int) ∧ ((number f b + i : Nat) : Int) < number f c + (f.blocks.getD c []).length) := by
      rw [getD_some hlc]
      rcases Nat.lt_or_gt_of_ne hne with q | q
      · have := number_le f hlc q; omega
      · have := number_le f hl q; omega
    rw [numFrom, if_neg hout, numFrom_at f hl hi r _ k h2 (fun d hd => hc d (by simp [hd])) (by simpa using h)]
    simp; omega
theorem numFrom_none (f : Fn) (v : Int) : ∀ (o : List Nat) (n : Nat), (∀ b ∈ o, ¬ ((number f b : Int) ≤ v ∧ v < number f b + (f.blocks.getD b []).length)) → numFrom f v o n = -1
  | [], _, _ => rfl
  | c :: r, n, h => by rw [numFrom, if_neg (h c (by simp)), numFrom_none f v r _ fun b hb => h b (by simp [hb])]
/-- What an order of blocks must be. -/
structure Ord (f : Fn) (o : List Nat) : Prop where
  nodup : o.Nodup
  lt : ∀ b ∈ o, b < f.blocks.length
  first : o[0]? = some 0
theorem num_at {f : Fn} {o : List Nat} (ho : Ord f o) {b i k : Nat} {l : List Ins} (hl : f.blocks[b]? = some l) (hi : i < l.length) (hk : o[k]? = some b) : num f o ((number f b + i : Nat) : Int) = ((start f (o.take k) + i : Nat) : Int) := by
  unfold num
  rw [if_neg (by unfold number; omega), numFrom_at f hl hi o _ k ho.nodup ho.lt hk]
  unfold start; rfl
theorem num_param {f : Fn} {o : List Nat} {v : Int} (h : v < f.params.length) : num f o v = v := by unfold num; rw [if_pos h]
/-- The moved function's blocks. -/
theorem moved_blk {f : Fn} {o : List Nat} (ho : Ord f o) {k b : Nat} (hk : o[k]? = some b) : ∃ l, f.blocks[b]? = some l ∧ (moved f o).blocks[k]? = some (l.map (renum f o)) := by
  have hb := ho.lt b (List.mem_of_getElem? hk)
  refine ⟨_, List.getElem?_eq_getElem hb, ?_⟩
  unfold moved
  simp only [List.getElem?_map, hk, Option.map_some]
  rw [getD_some (List.getElem?_eq_getElem hb)]
theorem moved_len (f : Fn) (o : List Nat) : (moved f o).blocks.length = o.length := by simp [moved]
theorem moved_blk' {f : Fn} {o : List Nat} (ho : Ord f o) {k : Nat} {l' : List Ins} (h : (moved f o).blocks[k]? = some l') : ∃ b l, o[k]? = some b ∧ f.blocks[b]? = some l ∧ l' = l.map (renum f o) := by
  have hk : k < o.length := by have := (List.getElem?_eq_some_iff.1 h).1; rwa [moved_len] at this
  obtain ⟨l, h1, h2⟩ := moved_blk ho (List.getElem?_eq_getElem hk)
  rw [h] at h2
  exact ⟨_, l, List.getElem?_eq_getElem hk, h1, Option.some.inj h2⟩
theorem moved_number (f : Fn) (o : List Nat) (k : Nat) : number (moved f o) k = start f (o.take k) := by
  unfold number start moved total
  simp only [← List.map_take, List.map_map]
  congr 2
  refine List.map_congr_left fun b _ => ?_
  simp
theorem whereFrom_at : ∀ (bs : List (List Ins)) (b n j i : Nat) (l : List Ins), bs[j]? = some l → i < l.length → whereFrom ((n + total (bs.take j) + i : Nat) : Int) bs b n = (((b + j : Nat) : Int), (i : Int))
  | [], b, n, j, i, l, h, _ => by simp at h
  | c :: r, b, n, 0, i, l, h, hi => by
    simp at h; subst h
    simp only [List.take_zero, total, List.map_nil, List.sum_nil, Nat.add_zero]
    rw [whereFrom, if_pos (by omega)]
    simp; omega
  | c :: r, b, n, j + 1, i, l, h, hi => by
    rw [List.take_succ_cons, total_cons]
    rw [whereFrom, if_neg (by omega), show n + (c.length + total (r.take j)) + i = (n + c.length) + total (r.take j) + i by omega, whereFrom_at r (b + 1) (n + c.length) j i l (by simpa using h) hi]
    rw [show b + 1 + j = b + (j + 1) by omega]
theorem whereIs_at (f : Fn) {b i : Nat} {l : List Ins} (h : f.blocks[b]? = some l) (hi : i < l.length) : whereIs f ((number f b + i : Nat) : Int) = ((b : Int), (i : Int)) := by
  have := whereFrom_at f.blocks 0 f.params.length b i l h hi
  rw [Nat.zero_add] at this
  exact this
theorem whereIs_param (f : Fn) {v : Int} (h : v < f.params.length) : whereIs f v = (-1, -1) := whereFrom_none v _ _ _ h
theorem kind_at (f : Fn) {b i : Nat} {l : List Ins} {x : Ins} (h : f.blocks[b]? = some l) (hx : l[i]? = some x) : kind f ((number f b + i : Nat) : Int) = x.width := by
  have hi := (List.getElem?_eq_some_iff.1 hx).1
  have hc := number_count f h
  unfold kind
  rw [if_neg (by omega), if_neg (by unfold number; omega), whereIs_at f h hi]
  unfold insAt?
  simp only [Int.toNat_natCast, h, Option.bind_some, hx, Option.map_some, Option.getD_some]
theorem renum_parts (f : Fn) (o : List Nat) (x : Ins) : (renum f o x).op = x.op ∧ (renum f o x).width = x.width ∧ (renum f o x).flags = x.flags ∧ (renum f o x).imm = x.imm := by
  unfold renum; split <;> exact ⟨rfl, rfl, rfl, rfl⟩
/-- A value's home is kept, or it is a parameter. -/
def Kept (f : Fn) (o : List Nat) (v : Int) : Prop := (0 ≤ v ∧ v < f.params.length) ∨ ∃ (k b i : Nat) (l : List Ins) (x : Ins), o[k]? = some b ∧ f.blocks[b]? = some l ∧ l[i]? = some x ∧ v = ((number f b + i : Nat) : Int)
theorem num_kept {f : Fn} {o : List Nat} (ho : Ord f o) {k b i : Nat} {l : List Ins} {x : Ins} (hk : o[k]? = some b) (hl : f.blocks[b]? = some l) (hx : l[i]? = some x) :
    num f o ((number f b + i : Nat) : Int) = ((number (moved f o) k + i : Nat) : Int) := by
  rw [num_at ho hl (List.getElem?_eq_some_iff.1 hx).1 hk, moved_number]
theorem kind_moved {f : Fn} {o : List Nat} (ho : Ord f o) {v : Int} (h : Kept f o v) : kind (moved f o) (num f o v) = kind f v := by
  rcases h with ⟨h0, h1⟩ | ⟨k, b, i, l, x, hk, hl, hx, rfl⟩
  · rw [num_param h1]
    have hp : (moved f o).params = f.params := rfl
    unfold kind
    have c1 : ¬ (v < 0 ∨ (count f : Int) ≤ v) := by unfold count number; omega
    have c2 : ¬ (v < 0 ∨ (count (moved f o) : Int) ≤ v) := by unfold count number; rw [hp]; omega
    rw [if_neg c1, if_neg c2, hp, if_pos h1, if_pos h1]
  · rw [num_kept ho hk hl hx, kind_at f hl hx]
    obtain ⟨l', h1, h2⟩ := moved_blk ho hk
    rw [hl] at h1
    cases h1
    have hx' : (l.map (renum f o))[i]? = some (renum f o x) := by rw [List.getElem?_map, hx]; rfl
    rw [kind_at (moved f o) h2 hx', (renum_parts f o x).2.1]
theorem where_moved {f : Fn} {o : List Nat} (ho : Ord f o) {k b i : Nat} {l : List Ins} {x : Ins} (hk : o[k]? = some b) (hl : f.blocks[b]? = some l) (hx : l[i]? = some x) :
    whereIs (moved f o) (num f o ((number f b + i : Nat) : Int)) = ((k : Int), (i : Int)) := by
  rw [num_kept ho hk hl hx]
  obtain ⟨l', h1, h2⟩ := moved_blk ho hk
  rw [hl] at h1
  cases h1
  exact whereIs_at (moved f o) h2 (by rw [List.length_map]; exact (List.getElem?_eq_some_iff.1 hx).1)
end Ref
end Go.Proofs.YtiadpjhlomhjeaaGreat

namespace Go.Proofs.YtiadpjhlomhjeaaGreat
set_option linter.unusedSimpArgs false
set_option linter.unusedVariables false
namespace Ref

theorem phisFrom_iff (g : List (List Int)) : ∀ (bs : List (List Ins)) (b : Nat), phisFrom g bs b = true ↔ ∀ j l, bs[j]? = some l → ∀ x ∈ l, x.op = 28 → x.to = before g ((b + j : Nat) : Int)
  | [], b => by simp [phisFrom]
  | l :: r, b => by
    unfold phisFrom
    rw [Bool.and_eq_true, phisFrom_iff g r (b + 1), List.all_eq_true]
    constructor
    · rintro ⟨h1, h2⟩ j l' hl x hx ho
      cases j with
      | zero =>
        simp at hl; subst hl
        have := h1 x hx
        rw [sameInts_eq] at this
        simpa [ho] using this
      | succ j =>
        have := h2 j l' (by simpa using hl) x hx ho
        rw [this]; congr 1; omega
    · intro h
      refine ⟨fun x hx => ?_, fun j l' hl x hx ho => ?_⟩
      · rw [sameInts_eq]
        by_cases ho : x.op = 28
        · have := h 0 l rfl x hx ho
          simp [ho, this]
        · simp [ho]
      · have := h (j + 1) l' (by simpa using hl) x hx ho
        rw [this]; congr 1; omega
theorem argsFrom_iff (f : Fn) (g : List (List Int)) (inn : List Bool) (b i : Nat) (x : Ins) : ∀ (vs : List Int) (k : Nat), argsFrom f g inn b i x vs k = true ↔ ∀ j v, vs[j]? = some v → argOk f g inn b i x v (x.to.getD (k + j) 0) = true
  | [], k => by simp [argsFrom]
  | v :: r, k => by
    unfold argsFrom
    rw [Bool.and_eq_true, argsFrom_iff f g inn b i x r (k + 1)]
    constructor
    · rintro ⟨h1, h2⟩ j u hu
      cases j with
      | zero => simp at hu; subst hu; exact h1
      | succ j =>
        have := h2 j u (by simpa using hu)
        rwa [show k + 1 + j = k + (j + 1) by omega] at this
    · intro h
      refine ⟨h 0 v rfl, fun j u hu => ?_⟩
      have := h (j + 1) u (by simpa using hu)
      rwa [show k + (j + 1) = k + 1 + j by omega] at this
theorem insFrom_iff (f : Fn) (g : List (List Int)) (inn : List Bool) (b : Nat) : ∀ (l : List Ins) (i : Nat), insFrom f g inn b l i = true ↔ ∀ j x, l[j]? = some x → argsFrom f g inn b (i + j) x x.args 0 = true
  | [], i => by simp [insFrom]
  | y :: r, i => by
    unfold insFrom
    rw [Bool.and_eq_true, insFrom_iff f g inn b r (i + 1)]
    constructor
    · rintro ⟨h1, h2⟩ j x hx
      cases j with
      | zero => simp at hx; subst hx; exact h1
      | succ j =>
        have := h2 j x (by simpa using hx)
        rwa [show i + 1 + j = i + (j + 1) by omega] at this
    · intro h
      refine ⟨h 0 y rfl, fun j x hx => ?_⟩
      have := h (j + 1) x (by simpa using hx)
      rwa [show i + (j + 1) = i + 1 + j by omega] at this
theorem blksFrom_iff (f : Fn) (g : List (List Int)) (inn : List Bool) : ∀ (bs : List (List Ins)) (b : Nat), blksFrom f g inn bs b = true ↔ ∀ j l, bs[j]? = some l → inn.getD (b + j) false = true → insFrom f g inn (b + j) l 0 = true
  | [], b => by simp [blksFrom]
  | l :: r, b => by
    unfold blksFrom
    rw [Bool.and_eq_true, blksFrom_iff f g inn r (b + 1)]
    constructor
    · rintro ⟨h1, h2⟩ j l' hl hin
      cases j with
      | zero =>
        simp at hl; subst hl
        rw [Nat.add_zero] at hin ⊢
        rw [hin] at h1
        simpa using h1
      | succ j =>
        have := h2 j l' (by simpa using hl)
        rw [show b + 1 + j = b + (j + 1) by omega] at this
        exact this hin
    · intro h
      refine ⟨?_, fun j l' hl hin => ?_⟩
      · have := h 0 l rfl
        rw [Nat.add_zero] at this
        cases hb : inn.getD b false with
        | false => rfl
        | true => simpa using this hb
      · have := h (j + 1) l' (by simpa using hl)
        rw [show b + (j + 1) = b + 1 + j by omega] at this
        exact this hin
/-- Validity, rule by rule. -/
structure Val (f : Fn) : Prop where
  size : f.params.length ≤ 3 ∧ f.slots.length ≤ 2 ∧ 1 ≤ f.blocks.length ∧ f.blocks.length ≤ 10 ∧ total f.blocks ≤ 40
  ret : 0 ≤ f.ret ∧ f.ret ≤ 32
  head : f.params.all isWidth = true ∧ f.slots.all isSlot = true
  arg : ∀ l ∈ f.blocks, ∀ x ∈ l, argument f x = true
  laid : ∀ l ∈ f.blocks, laid l = true
  entry : before (graph f) 0 = []
  phi : ∀ (b : Nat) (l : List Ins), f.blocks[b]? = some l → ∀ x ∈ l, x.op = 28 → x.to = before (graph f) (b : Int)
  typ : ∀ l ∈ f.blocks, ∀ x ∈ l, typed f x = true
  st : ∀ (b : Nat) (l : List Ins), f.blocks[b]? = some l → (reached (graph f) (-1)).getD b false = true → ∀ (i : Nat) x, l[i]? = some x → ∀ (k : Nat) v, x.args[k]? = some v → argOk f (graph f) (reached (graph f) (-1)) b i x v (x.to.getD k 0) = true
theorem rules_iff (f : Fn) : rules f = true ↔ (∀ l ∈ f.blocks, laid l = true) ∧ before (graph f) 0 = [] ∧ (∀ (b : Nat) (l : List Ins), f.blocks[b]? = some l → ∀ x ∈ l, x.op = 28 → x.to = before (graph f) (b : Int)) := by
  unfold rules
  rw [Bool.and_eq_true, Bool.and_eq_true, phisFrom_iff, List.all_eq_true, List.isEmpty_iff, and_assoc]
  simp only [Nat.zero_add]
theorem stated_iff (f : Fn) : stated f = true ↔ ∀ (b : Nat) (l : List Ins), f.blocks[b]? = some l → (reached (graph f) (-1)).getD b false = true → ∀ (i : Nat) x, l[i]? = some x → ∀ (k : Nat) v, x.args[k]? = some v → argOk f (graph f) (reached (graph f) (-1)) b i x v (x.to.getD k 0) = true := by
  unfold stated
  rw [blksFrom_iff]
  simp only [Nat.zero_add, insFrom_iff, argsFrom_iff]
theorem all_all {f : Fn} {p : Ins → Bool} : (f.blocks.all fun l => l.all p) = true ↔ ∀ l ∈ f.blocks, ∀ x ∈ l, p x = true := by
  simp only [List.all_eq_true]
theorem val_iff (f : Fn) : validate f = 0 ↔ Val f := by
  have key : validate f = 0 ↔ ¬ (3 < f.params.length ∨ 2 < f.slots.length ∨ f.blocks.length < 1 ∨ 10 < f.blocks.length) ∧ ¬ 40 < total f.blocks ∧ ¬ (f.ret < 0 ∨ 32 < f.ret) ∧ ¬ f.params.all isWidth = false ∧ ¬ f.slots.all isSlot = false ∧
      ¬ (f.blocks.all (fun l => l.all (argument f)) = false) ∧ ¬ rules f = false ∧ ¬ (f.blocks.all (fun l => l.all (typed f)) = false) ∧ ¬ stated f = false := by
    unfold validate
    by_cases h1 : 3 < f.params.length ∨ 2 < f.slots.length ∨ f.blocks.length < 1 ∨ 10 < f.blocks.length
    · rw [if_pos h1]; exact ⟨fun h => by omega, fun h => absurd h1 h.1⟩
    rw [if_neg h1]
    by_cases h2 : 40 < total f.blocks
    · rw [if_pos h2]; exact ⟨fun h => by omega, fun h => absurd h2 h.2.1⟩
    rw [if_neg h2]
    by_cases h3 : f.ret < 0 ∨ 32 < f.ret
    · rw [if_pos h3]; exact ⟨fun h => by omega, fun h => absurd h3 h.2.2.1⟩
    rw [if_neg h3]
    by_cases h4 : f.params.all isWidth = false
    · rw [if_pos h4]; exact ⟨fun h => by omega, fun h => absurd h4 h.2.2.2.1⟩
    rw [if_neg h4]
    by_cases h5 : f.slots.all isSlot = false
    · rw [if_pos h5]; exact ⟨fun h => by omega, fun h => absurd h5 h.2.2.2.2.1⟩
    rw [if_neg h5]
    by_cases h6 : f.blocks.all (fun l => l.all (argument f)) = false
    · rw [if_pos h6]; exact ⟨fun h => by omega, fun h => absurd h6 h.2.2.2.2.2.1⟩
    rw [if_neg h6]
    by_cases h7 : rules f = false
    · rw [if_pos h7]; exact ⟨fun h => by omega, fun h => absurd h7 h.2.2.2.2.2.2.1⟩
    rw [if_neg h7]
    by_cases h8 : f.blocks.all (fun l => l.all (typed f)) = false
    · rw [if_pos h8]; exact ⟨fun h => by omega, fun h => absurd h8 h.2.2.2.2.2.2.2.1⟩
    rw [if_neg h8]
    by_cases h9 : stated f = false
    · rw [if_pos h9]; exact ⟨fun h => by omega, fun h => absurd h9 h.2.2.2.2.2.2.2.2⟩
    rw [if_neg h9]
    exact ⟨fun _ => ⟨h1, h2, h3, h4, h5, h6, h7, h8, h9⟩, fun _ => rfl⟩
  rw [key]
  simp only [Bool.not_eq_false, all_all, rules_iff, stated_iff]
  constructor
  · rintro ⟨h1, h2, h3, h4, h5, h6, ⟨h7, h8, h9⟩, h10, h11⟩
    exact ⟨⟨by omega, by omega, by omega, by omega, by omega⟩, ⟨by omega, by omega⟩, ⟨h4, h5⟩, h6, h7, h8, h9, h10, h11⟩
  · rintro ⟨h1, h3, h4, h6, h7, h8, h9, h10, h11⟩
    exact ⟨by omega, by omega, by omega, h4.1, h4.2, h6, ⟨h7, h8, h9⟩, h10, h11⟩

/-! ### The graph, and what comes before -/
theorem has_iff (l : List Int) (n : Int) : has l n = true ↔ n ∈ l := by
  unfold has
  rw [List.any_eq_true]
  constructor
  · rintro ⟨z, hz, e⟩
    simp at e; subst e; exact hz
  · intro h; exact ⟨n, h, by simp⟩
theorem mem_beforeFrom (v : Int) : ∀ (g : List (List Int)) (b : Nat) (z : Int), z ∈ beforeFrom v g b ↔ ∃ j l, g[j]? = some l ∧ v ∈ l ∧ z = ((b + j : Nat) : Int)
  | [], b, z => by simp [beforeFrom]
  | l :: r, b, z => by
    have ih := mem_beforeFrom v r (b + 1) z
    have hr : (∃ j l', r[j]? = some l' ∧ v ∈ l' ∧ z = ((b + 1 + j : Nat) : Int)) ↔ ∃ j l', (l :: r)[j + 1]? = some l' ∧ v ∈ l' ∧ z = ((b + (j + 1) : Nat) : Int) := by
      simp only [List.getElem?_cons_succ, show ∀ j, b + 1 + j = b + (j + 1) from fun j => by omega]
    rw [beforeFrom]
    constructor
    · intro h
      split at h
      · next hh =>
        rcases List.mem_cons.1 h with rfl | h
        · exact ⟨0, l, rfl, (has_iff _ _).1 hh, by simp⟩
        · obtain ⟨j, l', q⟩ := hr.1 (ih.1 h); exact ⟨j + 1, l', q⟩
      · obtain ⟨j, l', q⟩ := hr.1 (ih.1 h); exact ⟨j + 1, l', q⟩
    · rintro ⟨j, l', q1, q2, q3⟩
      cases j with
      | zero =>
        simp at q1; subst q1
        rw [if_pos ((has_iff _ _).2 q2)]
        exact List.mem_cons.2 (.inl (by simpa using q3))
      | succ j =>
        have := ih.2 (hr.2 ⟨j, l', q1, q2, q3⟩)
        split
        · exact List.mem_cons_of_mem _ this
        · exact this
theorem asc_beforeFrom (v : Int) : ∀ (g : List (List Int)) (b : Nat), (beforeFrom v g b).Pairwise (fun a c => a < c)
  | [], b => by simp [beforeFrom]
  | l :: r, b => by
    rw [beforeFrom]
    split
    · rw [List.pairwise_cons]
      refine ⟨fun z hz => ?_, asc_beforeFrom v r (b + 1)⟩
      obtain ⟨j, l', -, -, e⟩ := (mem_beforeFrom v r (b + 1) z).1 hz
      omega
    · exact asc_beforeFrom v r (b + 1)
theorem mem_before {g : List (List Int)} {v z : Int} : z ∈ before g v ↔ ∃ j l, g[j]? = some l ∧ v ∈ l ∧ z = (j : Nat) := by
  unfold before
  rw [mem_beforeFrom]
  simp only [Nat.zero_add]
theorem asc_before (g : List (List Int)) (v : Int) : (before g v).Pairwise (fun a c => a < c) := asc_beforeFrom v g 0
theorem graph_at (f : Fn) {b : Nat} {l : List Ins} (h : f.blocks[b]? = some l) : (graph f)[b]? = some ((l.getLast?.map (·.to)).getD []) := by
  unfold graph; rw [List.getElem?_map, h]; rfl
theorem laid_last : ∀ (l : List Ins) (p : Bool), l ≠ [] → laidFrom l p = true → ∃ x, l.getLast? = some x ∧ isLast x.op = true
  | [], _, h, _ => absurd rfl h
  | [x], p, _, h => by
    simp [laidFrom] at h
    exact ⟨x, rfl, h.1⟩
  | x :: y :: r, p, _, h => by
    rw [laidFrom] at h
    simp only [Bool.and_eq_true] at h
    obtain ⟨z, hz, hl⟩ := laid_last (y :: r) _ (by simp) h.2
    exact ⟨z, by rw [List.getLast?_cons_cons]; exact hz, hl⟩
theorem last_of {l : List Ins} (h : laid l = true) : ∃ x, l.getLast? = some x ∧ isLast x.op = true ∧ x ∈ l := by
  unfold laid at h
  rw [Bool.and_eq_true] at h
  obtain ⟨x, h1, h2⟩ := laid_last l true (by intro e; subst e; simp at h) h.2
  exact ⟨x, h1, h2, List.mem_of_getLast? h1⟩
theorem last_not_phi {op : Int} (h : isLast op = true) : op ≠ 28 := by
  unfold isLast at h; simp at h; omega
theorem arg_to {f : Fn} {x : Ins} (h : argument f x = true) : ∀ t ∈ x.to, 0 ≤ t ∧ t < f.blocks.length := by
  unfold argument at h
  simp only [Bool.and_eq_true, List.all_eq_true, decide_eq_true_eq] at h
  exact h.1.2
theorem val_graph {f : Fn} (h : Val f) {b : Nat} {l : List Ins} (hl : f.blocks[b]? = some l) : ∃ x, x ∈ l ∧ x.op ≠ 28 ∧ l.getLast? = some x ∧ (graph f)[b]? = some x.to := by
  obtain ⟨x, h1, h2, h3⟩ := last_of (h.laid l (List.mem_of_getElem? hl))
  refine ⟨x, h3, last_not_phi h2, h1, ?_⟩
  rw [graph_at f hl, h1]; rfl
theorem graph_len (f : Fn) : (graph f).length = f.blocks.length := by simp [graph]
theorem val_gok {f : Fn} (h : Val f) : ∀ l ∈ graph f, ∀ t ∈ l, 0 ≤ t ∧ t < ((graph f).length : Int) := by
  intro e he t ht
  obtain ⟨b, hb⟩ := List.getElem?_of_mem he
  have hlt := (List.getElem?_eq_some_iff.1 hb).1
  rw [graph_len] at hlt ⊢
  obtain ⟨x, hx, -, -, hg⟩ := val_graph h (List.getElem?_eq_getElem hlt)
  rw [hb] at hg
  cases hg
  exact arg_to (h.arg _ (List.getElem_mem hlt) x hx) t ht
end Ref
end Go.Proofs.YtiadpjhlomhjeaaGreat

namespace Go.Proofs.YtiadpjhlomhjeaaGreat
set_option linter.unusedSimpArgs false
set_option linter.unusedVariables false
namespace Ref

/-! ### Sums over an order -/
theorem sum_perm_le (w : Nat → Nat) : ∀ (n : Nat) (o : List Nat), o.Nodup → (∀ b ∈ o, b < n) → (o.map w).sum ≤ ((List.range n).map w).sum
  | 0, o, _, h => by
    cases o with
    | nil => simp
    | cons a r => exact absurd (h a (by simp)) (by omega)
  | n + 1, o, hn, h => by
    rw [List.range_succ, List.map_append, List.sum_append]
    by_cases hm : n ∈ o
    · have hp := List.perm_cons_erase hm
      have hs : (o.map w).sum = w n + ((o.erase n).map w).sum := by
        rw [(hp.map w).sum_nat]; simp
      have := sum_perm_le w n (o.erase n) (hn.erase n) fun b hb => by
        have h1 := h b (List.mem_of_mem_erase hb)
        have h2 : b ≠ n := fun e => by subst e; exact hn.not_mem_erase hb
        omega
      rw [hs]; simp; omega
    · have := sum_perm_le w n o hn fun b hb => by
        have h1 := h b hb
        have h2 : b ≠ n := fun e => hm (e ▸ hb)
        omega
      simp; omega
theorem sum_one (o : List Nat) : (o.map fun _ => 1).sum = o.length := by
  induction o with
  | nil => rfl
  | cons a r ih => simp; omega
theorem total_range (bs : List (List Ins)) : ((List.range bs.length).map fun b => (bs.getD b []).length).sum = total bs := by
  unfold total
  congr 1
  apply List.ext_getElem?
  intro i
  simp only [List.getElem?_map]
  rcases Nat.lt_or_ge i bs.length with h | h
  · rw [List.getElem?_eq_getElem (by simpa using h), List.getElem?_eq_getElem h]
    simp [List.getD_eq_getElem?_getD, h]
  · rw [List.getElem?_eq_none (by simpa using h), List.getElem?_eq_none h]
    rfl
theorem Ord.short {f : Fn} {o : List Nat} (h : Ord f o) : o.length ≤ f.blocks.length := by
  have := sum_perm_le (fun _ => 1) f.blocks.length o h.nodup h.lt
  rw [sum_one, sum_one] at this
  simpa using this
theorem Ord.total {f : Fn} {o : List Nat} (h : Ord f o) : Ref.total (moved f o).blocks ≤ Ref.total f.blocks := by
  have := sum_perm_le (fun b => (f.blocks.getD b []).length) f.blocks.length o h.nodup h.lt
  rw [total_range] at this
  have e : Ref.total (moved f o).blocks = (o.map fun b => (f.blocks.getD b []).length).sum := by
    unfold Ref.total moved
    rw [List.map_map]
    congr 1
    exact List.map_congr_left fun b _ => by simp
  rw [e]; exact this
/-! ### Ways -/
/-- The nodes to which a way leads: the least set. -/
structure IsRc (g : List (List Int)) (but : Int) (R : Nat → Prop) : Prop where
  root : but ≠ 0 → R 0
  step : ∀ (b : Nat) (t : Int), R b → t ∈ g.getD b [] → (t.toNat : Int) ≠ but → R t.toNat
  least : ∀ S : Nat → Prop, (but ≠ 0 → S 0) → (∀ (b : Nat) (t : Int), R b → S b → t ∈ g.getD b [] → (t.toNat : Int) ≠ but → S t.toNat) → ∀ i, R i → S i
def rc (g : List (List Int)) (but : Int) (i : Nat) : Prop := (reached g but).getD i false = true
def RcAll : Prop := ∀ (g : List (List Int)) (but : Int), 1 ≤ g.length → (∀ l ∈ g, ∀ t ∈ l, 0 ≤ t ∧ t < (g.length : Int)) → IsRc g but (rc g but)
theorem Val.rc (h : RcAll) {f : Fn} (hv : Val f) (but : Int) : IsRc (graph f) but (Ref.rc (graph f) but) :=
  h _ _ (by rw [graph_len]; exact hv.size.2.2.1) (val_gok hv)
/-- What the blocks that are kept must be. -/
structure Keeps (f : Fn) (o : List Nat) : Prop extends Ord f o where
  closed : ∀ b ∈ o, ∀ t ∈ (graph f).getD b [], t.toNat ∈ o
  args : ∀ b ∈ o, ∀ l, f.blocks[b]? = some l → ∀ (i : Nat) x, l[i]? = some x → x.op ≠ 28 → ∀ v ∈ x.args, Kept f o v
  phiArgs : ∀ b ∈ o, ∀ l, f.blocks[b]? = some l → ∀ (i : Nat) x, l[i]? = some x → x.op = 28 → ∀ (j : Nat) t v, x.to[j]? = some t → x.args[j]? = some v → t.toNat ∈ o → Kept f o v
  phiSome : ∀ b ∈ o, ∀ l, f.blocks[b]? = some l → ∀ x ∈ l, x.op = 28 → ∃ t ∈ x.to, t.toNat ∈ o
/-! ### One instruction -/
theorem shape_congr (f f' : Fn) (x x' : Ins) (hs : f'.slots = f.slots) (hr : f'.ret = f.ret) (h1 : x'.op = x.op) (h2 : x'.width = x.width) (h3 : x'.flags = x.flags) (h4 : x'.imm = x.imm) (h5 : x.op = 28 → decide (0 < x'.args.length) = decide (0 < x.args.length)) : shape f' x' = shape f x := by
  by_cases ho : x.op = 28
  · have ho' : x'.op = 28 := h1.trans ho
    unfold shape
    simp only [ho, ho', h2, plain, plain0, h3, h4, h5 ho]
    simp
  · unfold shape
    simp only [h1, h2, h3, h4, hs, hr, plain, arith, if_neg ho]
theorem shape_phi (f : Fn) {x : Ins} (h : x.op = 28) : (shape f x).1 = -1 ∧ (shape f x).2.1 = -1 ∧ ((shape f x).2.2 = true → 0 < x.args.length) := by
  unfold shape
  simp [h]
theorem shape_to (f : Fn) {x : Ins} (h1 : x.op ≠ 28) (h2 : x.op ≠ 29) (h3 : x.op ≠ 30) : (shape f x).2.1 = 0 := by
  unfold shape
  simp only [if_neg h1, if_neg h2, if_neg h3, apply_ite Prod.snd, apply_ite Prod.fst, ite_self]
theorem counts_iff (s : Int × Int × Bool) (x : Ins) : counts s x = true ↔ (0 ≤ s.1 → (x.args.length : Int) = s.1) ∧ (s.1 < 0 → x.args.length = x.to.length) ∧ (0 ≤ s.2.1 → (x.to.length : Int) = s.2.1) := by
  unfold counts
  simp only [Bool.not_eq_true', Bool.or_eq_false_iff, Bool.and_eq_false_iff, decide_eq_false_iff_not, Decidable.not_not]
  constructor
  · rintro ⟨⟨h1, h2⟩, h3⟩
    exact ⟨fun h => h1.resolve_left (fun q => q h), fun h => h2.resolve_left (fun q => q h), fun h => h3.resolve_left (fun q => q h)⟩
  · rintro ⟨h1, h2, h3⟩
    refine ⟨⟨?_, ?_⟩, ?_⟩
    · by_cases h : 0 ≤ s.1
      · exact .inr (h1 h)
      · exact .inl h
    · by_cases h : s.1 < 0
      · exact .inr (h2 h)
      · exact .inl h
    · by_cases h : 0 ≤ s.2.1
      · exact .inr (h3 h)
      · exact .inl h
theorem argument_iff (f : Fn) (x : Ins) : argument f x = true ↔ (shape f x).2.2 = true ∧ counts (shape f x) x = true ∧ (∀ z ∈ x.to, 0 ≤ z ∧ z < f.blocks.length) ∧ (x.op = 30 → x.to.getD 0 0 ≠ x.to.getD 1 0) := by
  unfold argument
  simp only [Bool.and_eq_true, Bool.or_eq_true, List.all_eq_true, decide_eq_true_eq, and_assoc]
  constructor
  · rintro ⟨h1, h2, h3, h4⟩
    exact ⟨h1, h2, h3, fun e => h4.resolve_left (fun q => q e)⟩
  · rintro ⟨h1, h2, h3, h4⟩
    refine ⟨h1, h2, h3, ?_⟩
    by_cases e : x.op = 30
    · exact .inr (h4 e)
    · exact .inl e
theorem laid_at : ∀ (a : List Ins) (p : Bool) (x : Ins) (r : List Ins), laidFrom (a ++ x :: r) p = true → isLast x.op = r.isEmpty
  | [], p, x, r, h => by
    rw [List.nil_append, laidFrom] at h
    simp only [Bool.and_eq_true] at h
    simpa using h.1.1
  | y :: a, p, x, r, h => by
    rw [List.cons_append, laidFrom] at h
    simp only [Bool.and_eq_true] at h
    exact laid_at a _ x r h.2
/-- Only the last instruction and a Phi name blocks. -/
theorem to_last {f : Fn} (hv : Val f) {l : List Ins} (hl : l ∈ f.blocks) {x : Ins} (hx : x ∈ l) (ho : x.op ≠ 28) {t : Int} (ht : t ∈ x.to) : l.getLast? = some x := by
  have ha := (argument_iff f x).1 (hv.arg l hl x hx)
  have hop : x.op = 29 ∨ x.op = 30 := by
    rcases Decidable.em (x.op = 29) with h | h
    · exact .inl h
    rcases Decidable.em (x.op = 30) with h' | h'
    · exact .inr h'
    have h0 := shape_to f ho h h'
    have h1 := ((counts_iff _ _).1 ha.2.1).2.2 (by omega)
    rw [h0] at h1
    have : x.to = [] := List.eq_nil_of_length_eq_zero (by omega)
    rw [this] at ht; simp at ht
  have hla : isLast x.op = true := by unfold isLast; rcases hop with h | h <;> simp [h]
  obtain ⟨a, r, rfl⟩ := List.append_of_mem hx
  have hd := hv.laid _ hl
  unfold laid at hd
  rw [Bool.and_eq_true] at hd
  have := laid_at a true x r hd.2
  rw [hla] at this
  have hr : r = [] := by simpa using this.symm
  subst hr
  simp
theorem to_graph {f : Fn} (hv : Val f) {b : Nat} {l : List Ins} (hl : f.blocks[b]? = some l) {x : Ins} (hx : x ∈ l) (ho : x.op ≠ 28) {t : Int} (ht : t ∈ x.to) : t ∈ (graph f).getD b [] := by
  have h1 := to_last hv (List.mem_of_getElem? hl) hx ho ht
  rw [List.getD_eq_getElem?_getD, graph_at f hl, h1]
  exact ht
theorem toOf_inj {o : List Nat} {s t : Int} (h0 : 0 ≤ toOf o s) (h : toOf o s = toOf o t) : s = t := by
  obtain ⟨k, c, h1, h2, h3⟩ := toOf_some h0
  obtain ⟨j, d, h4, h5, h6⟩ := toOf_some (h ▸ h0)
  have e : k = j := by omega
  subst e
  rw [h1] at h4
  cases h4
  omega
theorem toOf_kept {o : List Nat} (hn : o.Nodup) {t : Int} (h0 : 0 ≤ t) (h : t.toNat ∈ o) : ∃ k : Nat, o[k]? = some t.toNat ∧ toOf o t = k := by
  obtain ⟨k, h1, h2⟩ := toOf_mem hn h
  exact ⟨k, h1, by rw [← h2]; congr 1; omega⟩
theorem renum_no (f : Fn) (o : List Nat) {x : Ins} (h : x.op ≠ 28) : renum f o x = ⟨x.op, x.width, x.flags, x.args.map (num f o), x.imm, x.to.map (toOf o)⟩ := by unfold renum; rw [if_neg h]
theorem renum_phi (f : Fn) (o : List Nat) {x : Ins} (h : x.op = 28) : renum f o x = ⟨x.op, x.width, x.flags, (sortP f.blocks.length (phiL f o x)).map (·.2), x.imm, (sortP f.blocks.length (phiL f o x)).map (·.1)⟩ := by unfold renum; rw [if_pos h]
theorem mem_phi {f : Fn} {o : List Nat} {x : Ins} {p : Int × Int} : p ∈ phiL f o x ↔ ∃ (j : Nat) (t v : Int), x.to[j]? = some t ∧ x.args[j]? = some v ∧ p = (toOf o t, num f o v) := by
  unfold phiL
  rw [List.mem_map]
  constructor
  · rintro ⟨⟨t, v⟩, hm, rfl⟩
    obtain ⟨j, hj⟩ := List.getElem?_of_mem hm
    rw [List.getElem?_zip_eq_some] at hj
    exact ⟨j, t, v, hj.1, hj.2, rfl⟩
  · rintro ⟨j, t, v, h1, h2, rfl⟩
    exact ⟨(t, v), List.mem_of_getElem? (List.getElem?_zip_eq_some.2 ⟨h1, h2⟩), rfl⟩
/-- A Phi's blocks are in ascending order, and there are as many values. -/
theorem phi_parts {f : Fn} (hv : Val f) {b : Nat} {l : List Ins} (hl : f.blocks[b]? = some l) {x : Ins} (hx : x ∈ l) (ho : x.op = 28) : x.args.length = x.to.length ∧ 0 < x.args.length ∧ x.to.Pairwise (fun a c => a < c) ∧ ∀ t ∈ x.to, 0 ≤ t ∧ t < f.blocks.length := by
  have ha := (argument_iff f x).1 (hv.arg l (List.mem_of_getElem? hl) x hx)
  obtain ⟨s1, s2, s3⟩ := shape_phi f ho
  refine ⟨((counts_iff _ _).1 ha.2.1).2.1 (by omega), s3 ha.1, ?_, ha.2.2.1⟩
  rw [hv.phi b l hl x hx ho]
  exact asc_before _ _
theorem apart_phi {f : Fn} {o : List Nat} {x : Ins} (h1 : x.args.length = x.to.length) (h2 : x.to.Pairwise (fun a c => a < c)) : Apart (phiL f o x) := by
  unfold Apart phiL
  rw [List.pairwise_map]
  have hz : (x.to.zip x.args).Pairwise (fun a c => a.1 < c.1) := by
    have : ((x.to.zip x.args).map Prod.fst).Pairwise (fun a c => a < c) := by rw [List.map_fst_zip (by omega)]; exact h2
    rwa [List.pairwise_map] at this
  refine hz.imp fun {a c} hac e => ?_
  rcases (by omega : toOf o a.1 < 0 ∨ 0 ≤ toOf o a.1) with q | q
  · exact q
  · have := toOf_inj q e; omega
theorem mem_sort_phi {f : Fn} {o : List Nat} (ho : Ord f o) {x : Ins} {p : Int × Int} : p ∈ sortP f.blocks.length (phiL f o x) ↔ ∃ (j : Nat) (t v : Int), x.to[j]? = some t ∧ x.args[j]? = some v ∧ p = (toOf o t, num f o v) ∧ 0 ≤ toOf o t := by
  rw [mem_sortP, mem_phi]
  constructor
  · rintro ⟨⟨j, t, v, h1, h2, rfl⟩, h3, -⟩
    exact ⟨j, t, v, h1, h2, rfl, h3⟩
  · rintro ⟨j, t, v, h1, h2, rfl, h3⟩
    have := toOf_lt (o := o) t
    have := ho.short
    exact ⟨⟨j, t, v, h1, h2, rfl⟩, h3, by show toOf o t < _; omega⟩
theorem arg_moved {f : Fn} {o : List Nat} (hv : Val f) (hk : Keeps f o) {b : Nat} (hb : b ∈ o) {l : List Ins} (hl : f.blocks[b]? = some l) {x : Ins} (hx : x ∈ l) : argument (moved f o) (renum f o x) = true := by
  have ha := (argument_iff f x).1 (hv.arg l (List.mem_of_getElem? hl) x hx)
  have hlen := moved_len f o
  by_cases ho : x.op = 28
  · obtain ⟨p1, p2, p3, p4⟩ := phi_parts hv hl hx ho
    obtain ⟨s1, s2, s3⟩ := shape_phi f ho
    obtain ⟨t, ht, hto⟩ := hk.phiSome b hb l hl x hx ho
    have hpos : 0 < (sortP f.blocks.length (phiL f o x)).length := by
      obtain ⟨j, hj⟩ := List.getElem?_of_mem ht
      have hj' := (List.getElem?_eq_some_iff.1 hj).1
      obtain ⟨k, -, hk2⟩ := toOf_kept hk.nodup (p4 t ht).1 hto
      exact List.length_pos_of_mem ((mem_sort_phi hk.toOrd).2 ⟨j, t, _, hj, List.getElem?_eq_getElem (by omega), rfl, by omega⟩)
    have hs : shape (moved f o) (renum f o x) = shape f x := by
      obtain ⟨r1, r2, r3, r4⟩ := renum_parts f o x
      refine shape_congr f (moved f o) x _ rfl rfl r1 r2 r3 r4 fun _ => ?_
      rw [renum_phi f o ho, List.length_map, decide_eq_true hpos, decide_eq_true p2]
    rw [argument_iff, hs]
    refine ⟨ha.1, ?_, ?_, ?_⟩
    · rw [counts_iff, renum_phi f o ho]
      exact ⟨fun h => by omega, fun _ => by simp, fun h => by omega⟩
    · rw [renum_phi f o ho, hlen]
      intro z hz
      obtain ⟨p, hp, rfl⟩ := List.mem_map.1 hz
      obtain ⟨j, t, v, -, -, rfl, h0⟩ := (mem_sort_phi hk.toOrd).1 hp
      exact ⟨h0, toOf_lt t⟩
    · intro e; rw [(renum_parts f o x).1] at e; omega
  · have hs : shape (moved f o) (renum f o x) = shape f x := by
      obtain ⟨r1, r2, r3, r4⟩ := renum_parts f o x
      exact shape_congr f (moved f o) x _ rfl rfl r1 r2 r3 r4 fun e => absurd e ho
    have hkept : ∀ t ∈ x.to, 0 ≤ t ∧ t.toNat ∈ o := fun t ht => ⟨(ha.2.2.1 t ht).1, hk.closed b hb t (to_graph hv hl hx ho ht)⟩
    rw [argument_iff, hs]
    refine ⟨ha.1, ?_, ?_, ?_⟩
    · have hc := (counts_iff _ _).1 ha.2.1
      rw [counts_iff, renum_no f o ho]
      simpa using hc
    · rw [renum_no f o ho, hlen]
      intro z hz
      obtain ⟨t, ht, rfl⟩ := List.mem_map.1 hz
      obtain ⟨h0, h1⟩ := hkept t ht
      obtain ⟨k, -, h2⟩ := toOf_kept hk.nodup h0 h1
      exact ⟨by omega, toOf_lt t⟩
    · intro e
      rw [(renum_parts f o x).1] at e
      have hne := ha.2.2.2 e
      have hs30 : (shape f x).2.1 = 2 := by unfold shape; simp [e]
      have h2 := ((counts_iff _ _).1 ha.2.1).2.2 (by omega)
      rw [hs30] at h2
      have h2' : x.to.length = 2 := by omega
      rw [renum_no f o ho]
      match hxt : x.to, h2' with
      | [s, t], _ =>
        rw [hxt] at hne hkept
        simp at hne ⊢
        obtain ⟨k, -, q⟩ := toOf_kept hk.nodup (hkept s (by simp)).1 (hkept s (by simp)).2
        intro e'
        exact hne (toOf_inj (by omega) e')
theorem laid_moved (f : Fn) (o : List Nat) : ∀ (l : List Ins) (p : Bool), laidFrom (l.map (renum f o)) p = laidFrom l p
  | [], p => rfl
  | x :: r, p => by
    rw [List.map_cons, laidFrom, laidFrom, laid_moved f o r, (renum_parts f o x).1]
    simp
theorem graph_moved {f : Fn} {o : List Nat} (hv : Val f) (ho : Ord f o) {k b : Nat} (hk : o[k]? = some b) : (graph (moved f o))[k]? = some (((graph f).getD b []).map (toOf o)) := by
  obtain ⟨l, hl, hm⟩ := moved_blk ho hk
  obtain ⟨x, hx, h28, hlast, hg⟩ := val_graph hv hl
  rw [graph_at _ hm, List.getLast?_map, hlast, List.getD_eq_getElem?_getD, hg]
  simp [renum_no f o h28]
theorem graph_moved' {f : Fn} {o : List Nat} (hv : Val f) (ho : Ord f o) {k : Nat} {e : List Int} (h : (graph (moved f o))[k]? = some e) : ∃ b, o[k]? = some b ∧ e = ((graph f).getD b []).map (toOf o) := by
  have hk : k < o.length := by have := (List.getElem?_eq_some_iff.1 h).1; rwa [graph_len, moved_len] at this
  have := graph_moved hv ho (List.getElem?_eq_getElem hk)
  rw [h] at this
  exact ⟨_, List.getElem?_eq_getElem hk, Option.some.inj this⟩
theorem getD_graph {f : Fn} (hv : Val f) {b : Nat} (hb : b < f.blocks.length) : (graph f)[b]? = some ((graph f).getD b []) := by
  rw [List.getD_eq_getElem?_getD, List.getElem?_eq_getElem (by rw [graph_len]; exact hb)]; rfl
theorem phi_moved {f : Fn} {o : List Nat} (hv : Val f) (hk : Keeps f o) {k b : Nat} (hb : o[k]? = some b) {l : List Ins} (hl : f.blocks[b]? = some l) {x : Ins} (hx : x ∈ l) (ho : x.op = 28) : (renum f o x).to = before (graph (moved f o)) (k : Int) := by
  obtain ⟨p1, p2, p3, p4⟩ := phi_parts hv hl hx ho
  rw [renum_phi f o ho]
  refine asc_ext id ?_ (asc_before _ _) fun z => ?_
  · show (List.map _ _).Pairwise _
    rw [List.pairwise_map]
    exact asc_sortP (apart_phi p1 p3) _
  · have hxt : x.to = before (graph f) (b : Int) := hv.phi b l hl x hx ho
    show z ∈ List.map _ _ ↔ _
    rw [mem_before, List.mem_map]
    constructor
    · rintro ⟨p, hp, rfl⟩
      obtain ⟨j, t, v, h1, h2, rfl, h0⟩ := (mem_sort_phi hk.toOrd).1 hp
      obtain ⟨m, c, hm, htc, he⟩ := toOf_some h0
      have ht : t ∈ before (graph f) (b : Int) := hxt ▸ List.mem_of_getElem? h1
      obtain ⟨c', e, hc, hbe, htc'⟩ := mem_before.1 ht
      have ecc : c' = c := by omega
      subst ecc
      refine ⟨m, _, graph_moved hv hk.toOrd hm, ?_, he⟩
      rw [List.mem_map]
      refine ⟨(b : Int), ?_, toOf_get hk.nodup hb⟩
      rw [List.getD_eq_getElem?_getD, hc]; exact hbe
    · rintro ⟨m, e, hm, hke, rfl⟩
      obtain ⟨c, hc, rfl⟩ := graph_moved' hv hk.toOrd hm
      obtain ⟨u, hu, hue⟩ := List.mem_map.1 hke
      have e1 := toOf_get hk.nodup hb
      have hub : u = (b : Int) := toOf_inj (by omega) (hue.trans e1.symm)
      subst hub
      have hcl := hk.lt c (List.mem_of_getElem? hc)
      have ht : (c : Int) ∈ x.to := by
        rw [hxt]; exact mem_before.2 ⟨c, _, getD_graph hv hcl, hu, rfl⟩
      obtain ⟨j, hj⟩ := List.getElem?_of_mem ht
      have hj' := (List.getElem?_eq_some_iff.1 hj).1
      have e2 := toOf_get hk.nodup hc
      exact ⟨(toOf o c, num f o (x.args[j]'(by omega))), (mem_sort_phi hk.toOrd).2 ⟨j, _, _, hj, List.getElem?_eq_getElem (by omega), rfl, by omega⟩, e2⟩
theorem entry_moved {f : Fn} {o : List Nat} (hv : Val f) (hk : Keeps f o) : before (graph (moved f o)) 0 = [] := by
  rw [List.eq_nil_iff_forall_not_mem]
  intro z hz
  obtain ⟨m, e, hm, h0, -⟩ := mem_before.1 hz
  obtain ⟨c, hc, rfl⟩ := graph_moved' hv hk.toOrd hm
  obtain ⟨u, hu, hue⟩ := List.mem_map.1 h0
  have e1 := toOf_get hk.nodup hk.first
  have hub : u = ((0 : Nat) : Int) := toOf_inj (by omega) (hue.trans (by omega))
  have hcl := hk.lt c (List.mem_of_getElem? hc)
  have : (c : Int) ∈ before (graph f) 0 := mem_before.2 ⟨c, _, getD_graph hv hcl, by rw [hub] at hu; exact hu, rfl⟩
  rw [hv.entry] at this
  simp at this
end Ref
end Go.Proofs.YtiadpjhlomhjeaaGreat

namespace Go.Proofs.YtiadpjhlomhjeaaGreat
set_option linter.unusedSimpArgs false
set_option linter.unusedVariables false
namespace Ref

theorem typed_iff (f : Fn) (x : Ins) : typed f x = true ↔ (∀ v ∈ x.args, 0 ≤ kind f v) ∧ typedKinds f x (x.args.map (kind f)) = true := by
  unfold typed
  rw [Bool.and_eq_true, List.all_eq_true]
  simp only [decide_eq_true_eq]
theorem typedKinds_congr (f f' : Fn) (x x' : Ins) (k : List Int) (hr : f'.ret = f.ret) (h1 : x'.op = x.op) (h2 : x'.width = x.width) : typedKinds f' x' k = typedKinds f x k := by
  unfold typedKinds
  simp only [h1, h2, hr]
theorem typedKinds_phi (f : Fn) {x : Ins} (h : x.op = 28) (k : List Int) : typedKinds f x k = k.all fun z => decide (z = x.width) := by
  unfold typedKinds
  simp [h]
/-- The arguments that are read are kept. -/
theorem typ_moved {f : Fn} {o : List Nat} (hv : Val f) (hk : Keeps f o) {b : Nat} (hb : b ∈ o) {l : List Ins} (hl : f.blocks[b]? = some l) {x : Ins} (hx : x ∈ l) : typed (moved f o) (renum f o x) = true := by
  have ht := (typed_iff f x).1 (hv.typ l (List.mem_of_getElem? hl) x hx)
  obtain ⟨i, hi⟩ := List.getElem?_of_mem hx
  obtain ⟨r1, r2, r3, r4⟩ := renum_parts f o x
  rw [typed_iff, typedKinds_congr f (moved f o) x _ _ rfl r1 r2]
  by_cases ho : x.op = 28
  · obtain ⟨p1, p2, p3, p4⟩ := phi_parts hv hl hx ho
    have key : ∀ v' ∈ (renum f o x).args, kind (moved f o) v' = x.width ∧ 0 ≤ kind (moved f o) v' := by
      rw [renum_phi f o ho]
      intro v' hv'
      obtain ⟨p, hp, rfl⟩ := List.mem_map.1 hv'
      obtain ⟨j, t, v, h1, h2, rfl, h0⟩ := (mem_sort_phi hk.toOrd).1 hp
      obtain ⟨m, c, hm, htc, he⟩ := toOf_some h0
      have hkept := hk.phiArgs b hb l hl i x hi ho j t v h1 h2 (by rw [htc, Int.toNat_natCast]; exact List.mem_of_getElem? hm)
      have hmem := List.mem_of_getElem? h2
      show kind (moved f o) (num f o v) = x.width ∧ _
      rw [kind_moved hk.toOrd hkept]
      have h3 := ht.2
      rw [typedKinds_phi f ho, List.all_eq_true] at h3
      have := h3 (kind f v) (List.mem_map_of_mem hmem)
      exact ⟨by simpa using this, ht.1 v hmem⟩
    refine ⟨fun v hv => (key v hv).2, ?_⟩
    rw [typedKinds_phi f ho, List.all_eq_true]
    intro z hz
    obtain ⟨v, hv, rfl⟩ := List.mem_map.1 hz
    simpa using (key v hv).1
  · have key : ∀ v ∈ x.args, kind (moved f o) (num f o v) = kind f v := fun v hvm => kind_moved hk.toOrd (hk.args b hb l hl i x hi ho v hvm)
    rw [renum_no f o ho]
    refine ⟨fun v hv => ?_, ?_⟩
    · obtain ⟨u, hu, rfl⟩ := List.mem_map.1 hv
      rw [key u hu]; exact ht.1 u hu
    · have e : (List.map (num f o) x.args).map (kind (moved f o)) = x.args.map (kind f) := by
        rw [List.map_map]
        exact List.map_congr_left fun v hv => key v hv
      rw [e]; exact ht.2
/-- The ways of the moved function are those of the function. -/
theorem rc_moved {f : Fn} {o : List Nat} (hv : Val f) (hk : Keeps f o) {but but' : Int} (hbut : ∀ k c : Nat, o[k]? = some c → ((c : Int) = but ↔ (k : Int) = but')) {R R' : Nat → Prop} (hR : IsRc (graph f) but R) (hR' : IsRc (graph (moved f o)) but' R') {k c : Nat} (hc : o[k]? = some c) : R' k ↔ R c := by
  have h0 := hbut 0 0 hk.first
  have uniq : ∀ {j k c : Nat}, o[j]? = some c → o[k]? = some c → j = k := fun {j k c} h1 h2 => by
    have e1 := toOf_get hk.nodup h1
    have e2 := toOf_get hk.nodup h2
    omega
  constructor
  · intro h
    have := hR'.least (fun i => ∃ d, o[i]? = some d ∧ R d) (fun hne => ⟨0, hk.first, hR.root (fun e => hne (by have := h0.1 (by omega); omega))⟩) (fun i t' _ ⟨d, hd, hRd⟩ ht' hne => by
      rw [List.getD_eq_getElem?_getD, graph_moved hv hk.toOrd hd, Option.getD_some] at ht'
      obtain ⟨t, ht, rfl⟩ := List.mem_map.1 ht'
      have hto := hk.closed d (List.mem_of_getElem? hd) t ht
      have htg : 0 ≤ t := by
        have hd' := hk.lt d (List.mem_of_getElem? hd)
        exact (val_gok hv _ (List.mem_of_getElem? (getD_graph hv hd')) t ht).1
      obtain ⟨m, hm, he⟩ := toOf_kept hk.nodup htg hto
      rw [he, Int.toNat_natCast] at hne ⊢
      exact ⟨_, hm, hR.step d t hRd ht (fun e => hne ((hbut m _ hm).1 e))⟩) k h
    obtain ⟨d, hd, hRd⟩ := this
    rw [hc] at hd
    cases hd
    exact hRd
  · intro h
    have := hR.least (fun d => ∃ i : Nat, o[i]? = some d ∧ R' i) (fun hne => ⟨0, hk.first, hR'.root (fun e => hne (by have := h0.2 (by omega); omega))⟩) (fun d t _ ⟨i, hd, hRi⟩ ht hne => by
      have hto := hk.closed d (List.mem_of_getElem? hd) t ht
      have htg : 0 ≤ t := by
        have hd' := hk.lt d (List.mem_of_getElem? hd)
        exact (val_gok hv _ (List.mem_of_getElem? (getD_graph hv hd')) t ht).1
      obtain ⟨m, hm, he⟩ := toOf_kept hk.nodup htg hto
      refine ⟨m, hm, ?_⟩
      have := hR'.step i (toOf o t) hRi (by
        rw [List.getD_eq_getElem?_getD, graph_moved hv hk.toOrd hd, Option.getD_some]
        exact List.mem_map_of_mem ht) (by
        rw [he, Int.toNat_natCast]
        exact fun e => hne ((hbut m _ hm).2 e))
      rwa [he, Int.toNat_natCast] at this) c h
    obtain ⟨i, hi, hRi⟩ := this
    rw [uniq hc hi]
    exact hRi
theorem bool_eq {a b : Bool} (h : a = true ↔ b = true) : a = b := by cases a <;> cases b <;> simp_all
/-- The moved function's graph is one of a function, whatever else. -/
theorem gok_moved {f : Fn} {o : List Nat} (hv : Val f) (hk : Keeps f o) : ∀ l ∈ graph (moved f o), ∀ t ∈ l, 0 ≤ t ∧ t < ((graph (moved f o)).length : Int) := by
  intro e he t ht
  obtain ⟨k, hm⟩ := List.getElem?_of_mem he
  obtain ⟨b, hb, rfl⟩ := graph_moved' hv hk.toOrd hm
  obtain ⟨u, hu, rfl⟩ := List.mem_map.1 ht
  have hb' := hk.lt b (List.mem_of_getElem? hb)
  have h0 := (val_gok hv _ (List.mem_of_getElem? (getD_graph hv hb')) u hu).1
  obtain ⟨m, hm', he⟩ := toOf_kept hk.nodup h0 (hk.closed b (List.mem_of_getElem? hb) u hu)
  have := toOf_lt (o := o) u
  rw [graph_len, moved_len]
  omega
theorem o_pos {f : Fn} {o : List Nat} (ho : Ord f o) : 1 ≤ o.length := by
  have := (List.getElem?_eq_some_iff.1 ho.first).1; omega
theorem isRc_moved (hA : RcAll) {f : Fn} {o : List Nat} (hv : Val f) (hk : Keeps f o) (but : Int) : IsRc (graph (moved f o)) but (Ref.rc (graph (moved f o)) but) :=
  hA _ _ (by rw [graph_len, moved_len]; exact o_pos hk.toOrd) (gok_moved hv hk)
theorem reached_moved (hA : RcAll) {f : Fn} {o : List Nat} (hv : Val f) (hk : Keeps f o) {k c : Nat} (hc : o[k]? = some c) : (reached (graph (moved f o)) (-1)).getD k false = (reached (graph f) (-1)).getD c false :=
  bool_eq (rc_moved hv hk (fun k c _ => by omega) (hv.rc hA (-1)) (isRc_moved hA hv hk (-1)) hc)
theorem get_uniq {o : List Nat} (hn : o.Nodup) {j k c : Nat} (h1 : o[j]? = some c) (h2 : o[k]? = some c) : j = k := by
  have e1 := toOf_get hn h1
  have e2 := toOf_get hn h2
  omega
theorem dom_moved (hA : RcAll) {f : Fn} {o : List Nat} (hv : Val f) (hk : Keeps f o) {j a k c : Nat} (ha : o[j]? = some a) (hc : o[k]? = some c) : dominates (graph (moved f o)) (j : Int) (k : Int) = dominates (graph f) (a : Int) (c : Int) := by
  have e1 : decide ((j : Int) = (k : Int)) = decide ((a : Int) = (c : Int)) := by
    apply decide_eq_decide.2
    constructor
    · intro e
      have : j = k := by omega
      subst this
      rw [ha] at hc; cases hc; rfl
    · intro e
      have : a = c := by omega
      subst this
      have := get_uniq hk.nodup ha hc
      omega
  have e2 : (reached (graph (moved f o)) (j : Int)).getD k false = (reached (graph f) (a : Int)).getD c false :=
    bool_eq (rc_moved hv hk (fun k' c' h' => by
      constructor
      · intro e
        have : c' = a := by omega
        subst this
        have := get_uniq hk.nodup h' ha; omega
      · intro e
        have : k' = j := by omega
        subst this
        rw [ha] at h'; cases h'; rfl) (hv.rc hA _) (isRc_moved hA hv hk _) hc)
  unfold dominates
  rw [Int.toNat_natCast, Int.toNat_natCast, e1, e2]
theorem there_moved (hA : RcAll) {f : Fn} {o : List Nat} (hv : Val f) (hk : Keeps f o) {v : Int} (hkept : Kept f o v) {k c : Nat} (hc : o[k]? = some c) (place : Int) : there (moved f o) (graph (moved f o)) (num f o v) (k : Int) place = there f (graph f) v (c : Int) place := by
  rcases hkept with ⟨h0, h1⟩ | ⟨j, b, i, l, x, hj, hl, hx, rfl⟩
  · unfold there
    rw [num_param h1, whereIs_param f h1, whereIs_param (moved f o) h1]
    rfl
  · unfold there
    rw [where_moved hk.toOrd hj hl hx, whereIs_at f hl (List.getElem?_eq_some_iff.1 hx).1]
    dsimp only
    rw [if_neg (show ¬ (j : Int) < 0 by omega), if_neg (show ¬ (b : Int) < 0 by omega)]
    have e : (j : Int) = (k : Int) ↔ (b : Int) = (c : Int) := by
      constructor
      · intro e
        have : j = k := by omega
        subst this
        rw [hj] at hc; cases hc; rfl
      · intro e
        have : b = c := by omega
        subst this
        have := get_uniq hk.nodup hj hc; omega
    by_cases hbc : (b : Int) = (c : Int)
    · rw [if_pos (e.2 hbc), if_pos hbc]
    · rw [if_neg (fun q => hbc (e.1 q)), if_neg hbc, dom_moved hA hv hk hj hc]
theorem st_moved (hA : RcAll) {f : Fn} {o : List Nat} (hv : Val f) (hk : Keeps f o) {k b : Nat} (hb : o[k]? = some b) {l : List Ins} (hl : f.blocks[b]? = some l) (hin : (reached (graph (moved f o)) (-1)).getD k false = true)
    {i : Nat} {x : Ins} (hx : l[i]? = some x) {j : Nat} {v' : Int} (hj : (renum f o x).args[j]? = some v') : argOk (moved f o) (graph (moved f o)) (reached (graph (moved f o)) (-1)) k i (renum f o x) v' ((renum f o x).to.getD j 0) = true := by
  rw [reached_moved hA hv hk hb] at hin
  have hbm := List.mem_of_getElem? hb
  by_cases ho : x.op = 28
  · have hr : (renum f o x).op = 28 := by rw [(renum_parts f o x).1]; exact ho
    unfold argOk
    rw [if_pos hr]
    rw [renum_phi f o ho] at hj ⊢
    simp only [List.getElem?_map] at hj
    obtain ⟨p, hp, rfl⟩ := Option.map_eq_some_iff.1 hj
    obtain ⟨m, t, v, h1, h2, rfl, h0⟩ := (mem_sort_phi hk.toOrd).1 (List.mem_of_getElem? hp)
    have et : ((sortP f.blocks.length (phiL f o x)).map (·.1)).getD j 0 = toOf o t := by
      rw [List.getD_eq_getElem?_getD, List.getElem?_map, hp]; rfl
    dsimp only
    rw [et]
    obtain ⟨q, c, hq, rfl, he⟩ := toOf_some h0
    rw [he, Int.toNat_natCast, reached_moved hA hv hk hq]
    have hkept := hk.phiArgs b hbm l hl i x hx ho m _ v h1 h2 (by rw [Int.toNat_natCast]; exact List.mem_of_getElem? hq)
    rw [there_moved hA hv hk hkept hq]
    have := hv.st b l hl hin i x hx m v h2
    unfold argOk at this
    rw [if_pos ho, show x.to.getD m 0 = (c : Int) by rw [List.getD_eq_getElem?_getD, h1]; rfl, Int.toNat_natCast] at this
    exact this
  · have hr : (renum f o x).op ≠ 28 := by rw [(renum_parts f o x).1]; exact ho
    unfold argOk
    rw [if_neg hr]
    rw [renum_no f o ho] at hj
    simp only [List.getElem?_map] at hj
    obtain ⟨v, hv', rfl⟩ := Option.map_eq_some_iff.1 hj
    have hkept := hk.args b hbm l hl i x hx ho v (List.mem_of_getElem? hv')
    rw [there_moved hA hv hk hkept hb]
    have := hv.st b l hl hin i x hx j v hv'
    unfold argOk at this
    rwa [if_neg ho] at this
/-- A valid function with its blocks moved, and some left out that are not needed, is valid. -/
theorem moved_val (hA : RcAll) {f : Fn} {o : List Nat} (hv : Val f) (hk : Keeps f o) : Val (moved f o) where
  size := by
    have h1 := hv.size
    have h2 := hk.toOrd.short
    have h3 := o_pos hk.toOrd
    have h4 := hk.toOrd.total
    have e1 : (moved f o).params = f.params := rfl
    have e2 : (moved f o).slots = f.slots := rfl
    rw [moved_len, e1, e2]
    omega
  ret := hv.ret
  head := hv.head
  arg := by
    intro l' hl' x' hx'
    obtain ⟨k, hk'⟩ := List.getElem?_of_mem hl'
    obtain ⟨b, l, hb, hl, rfl⟩ := moved_blk' hk.toOrd hk'
    obtain ⟨x, hx, rfl⟩ := List.mem_map.1 hx'
    exact arg_moved hv hk (List.mem_of_getElem? hb) hl hx
  laid := by
    intro l' hl'
    obtain ⟨k, hk'⟩ := List.getElem?_of_mem hl'
    obtain ⟨b, l, hb, hl, rfl⟩ := moved_blk' hk.toOrd hk'
    have := hv.laid l (List.mem_of_getElem? hl)
    unfold Ref.laid at this ⊢
    rw [laid_moved]
    simpa using this
  entry := entry_moved hv hk
  phi := by
    intro k l' hk' x' hx' ho
    obtain ⟨b, l, hb, hl, rfl⟩ := moved_blk' hk.toOrd hk'
    obtain ⟨x, hx, rfl⟩ := List.mem_map.1 hx'
    rw [(renum_parts f o x).1] at ho
    exact phi_moved hv hk hb hl hx ho
  typ := by
    intro l' hl' x' hx'
    obtain ⟨k, hk'⟩ := List.getElem?_of_mem hl'
    obtain ⟨b, l, hb, hl, rfl⟩ := moved_blk' hk.toOrd hk'
    obtain ⟨x, hx, rfl⟩ := List.mem_map.1 hx'
    exact typ_moved hv hk (List.mem_of_getElem? hb) hl hx
  st := by
    intro k l' hk' hin i x' hx' j v' hj
    obtain ⟨b, l, hb, hl, rfl⟩ := moved_blk' hk.toOrd hk'
    rw [List.getElem?_map] at hx'
    obtain ⟨x, hx, rfl⟩ := Option.map_eq_some_iff.1 hx'
    exact st_moved hA hv hk hb hl hin hx hj
end Ref
end Go.Proofs.YtiadpjhlomhjeaaGreat

namespace Go.Proofs.YtiadpjhlomhjeaaGreat
set_option linter.unusedSimpArgs false
set_option linter.unusedVariables false
namespace Ref

/-- A value of a valid function is a parameter or has a home. -/
theorem home_of (f : Fn) {v : Int} (h0 : 0 ≤ v) (h1 : v < count f) : (0 ≤ v ∧ v < f.params.length) ∨ ∃ (b i : Nat) (l : List Ins) (x : Ins), f.blocks[b]? = some l ∧ l[i]? = some x ∧ v = ((number f b + i : Nat) : Int) := by
  rcases (by omega : v < f.params.length ∨ (f.params.length : Int) ≤ v) with h | h
  · exact .inl ⟨h0, h⟩
  · obtain ⟨j, i, l, x, h3, h4, h5, h6⟩ := whereIs_some f v h h1
    exact .inr ⟨j, i, l, x, h4, h5, by unfold number; omega⟩
theorem kind_in {f : Fn} {v : Int} (h : 0 ≤ kind f v) : 0 ≤ v ∧ v < count f := by
  unfold kind at h
  split at h
  · omega
  · omega
theorem val_args {f : Fn} (hv : Val f) {l : List Ins} (hl : l ∈ f.blocks) {x : Ins} (hx : x ∈ l) {v : Int} (h : v ∈ x.args) : 0 ≤ v ∧ v < count f :=
  kind_in (((typed_iff f x).1 (hv.typ l hl x hx)).1 v h)
/-- All blocks, in a new order. -/
theorem keeps_all {f : Fn} {o : List Nat} (hv : Val f) (ho : Ord f o) (hall : ∀ b, b < f.blocks.length → b ∈ o) : Keeps f o := by
  have hk : ∀ {l : List Ins}, l ∈ f.blocks → ∀ {x : Ins}, x ∈ l → ∀ v ∈ x.args, Kept f o v := by
    intro l hl x hx v hvm
    obtain ⟨h0, h1⟩ := val_args hv hl hx hvm
    rcases home_of f h0 h1 with h | ⟨b, i, l, x, hb, hi, e⟩
    · exact .inl h
    · obtain ⟨k, hk⟩ := List.getElem?_of_mem (hall b (List.getElem?_eq_some_iff.1 hb).1)
      exact .inr ⟨k, b, i, l, x, hk, hb, hi, e⟩
  refine { toOrd := ho, closed := ?_, args := ?_, phiArgs := ?_, phiSome := ?_ }
  · intro b hb t ht
    have := val_gok hv _ (List.mem_of_getElem? (getD_graph hv (ho.lt b hb))) t ht
    rw [graph_len] at this
    exact hall _ (by omega)
  · intro b hb l hl i x hx ho v hvm
    exact hk (List.mem_of_getElem? hl) (List.mem_of_getElem? hx) v hvm
  · intro b hb l hl i x hx ho j t v h1 h2 h3
    exact hk (List.mem_of_getElem? hl) (List.mem_of_getElem? hx) v (List.mem_of_getElem? h2)
  · intro b hb l hl x hx ho
    obtain ⟨p1, p2, p3, p4⟩ := phi_parts hv hl hx ho
    obtain ⟨t, ht⟩ := List.exists_mem_of_length_pos (show 0 < x.to.length by omega)
    have := p4 t ht
    exact ⟨t, ht, hall _ (by omega)⟩
/-! ### Twice -/
/-- What a second order makes of the first one: the block b comes back to its place. -/
structure Back (f : Fn) (o p : List Nat) : Prop where
  all : ∀ b, b < f.blocks.length → b ∈ o
  len : p.length = f.blocks.length
  back : ∀ b k : Nat, p[b]? = some k → o[k]? = some b
theorem Back.at {f : Fn} {o p : List Nat} (h : Back f o p) (hn : o.Nodup) {b k : Nat} (hk : o[k]? = some b) (hb : b < f.blocks.length) : p[b]? = some k := by
  obtain ⟨j, h1⟩ : ∃ j, p[b]? = some j := ⟨_, List.getElem?_eq_getElem (by rw [h.len]; exact hb)⟩
  have h2 := h.back b _ h1
  rw [h1, get_uniq hn h2 hk]
theorem back_ord {f : Fn} {o p : List Nat} (ho : Ord f o) (h : Back f o p) : Ord (moved f o) p where
  nodup := by
    rw [List.nodup_iff_pairwise_ne, List.pairwise_iff_getElem]
    intro i j hi hj hij e
    have h1 := h.back i _ (List.getElem?_eq_getElem hi)
    have h2 := h.back j _ (List.getElem?_eq_getElem hj)
    rw [e, h2] at h1
    have := Option.some.inj h1
    omega
  lt := by
    intro k hk
    obtain ⟨b, hb⟩ := List.getElem?_of_mem hk
    have := (List.getElem?_eq_some_iff.1 (h.back b k hb)).1
    rwa [moved_len]
  first := h.at ho.nodup ho.first (by have := ho.lt 0 (List.mem_of_getElem? ho.first); exact this)
theorem start_back {f : Fn} {o p : List Nat} (ho : Ord f o) (h : Back f o p) (b : Nat) (hb : b ≤ f.blocks.length) : start (moved f o) (p.take b) = number f b := by
  induction b with
  | zero => simp [start, number, total, moved]
  | succ b ih =>
    have hb' : b < f.blocks.length := hb
    obtain ⟨k, hk⟩ := List.getElem?_of_mem (h.all b hb')
    have hp := h.at ho.nodup hk hb'
    obtain ⟨l, hl, hm⟩ := moved_blk ho hk
    have e1 : p.take (b + 1) = p.take b ++ [k] := by rw [List.take_add_one, hp]; rfl
    have e2 : start (moved f o) (p.take b ++ [k]) = start (moved f o) (p.take b) + l.length := by
      unfold start
      rw [List.map_append, List.sum_append]
      have e3 : (moved f o).blocks.getD k [] = l.map (renum f o) := by rw [List.getD_eq_getElem?_getD, hm]; rfl
      rw [List.map_singleton, e3, List.length_map, List.sum_singleton]; omega
    rw [e1, e2, ih (by omega), number_next f hl]
theorem num_back {f : Fn} {o p : List Nat} (ho : Ord f o) (h : Back f o p) {v : Int} (hv : Kept f o v) : num (moved f o) p (num f o v) = v := by
  rcases hv with ⟨h0, h1⟩ | ⟨k, b, i, l, x, hk, hl, hx, rfl⟩
  · rw [num_param h1, num_param (by exact h1)]
  · rw [num_kept ho hk hl hx]
    have hb := ho.lt b (List.mem_of_getElem? hk)
    have hp := h.at ho.nodup hk hb
    obtain ⟨l', hl', hm⟩ := moved_blk ho hk
    rw [hl] at hl'
    cases hl'
    rw [num_at (back_ord ho h) hm (by rw [List.length_map]; exact (List.getElem?_eq_some_iff.1 hx).1) hp, start_back ho h b (by omega)]
theorem to_back {f : Fn} {o p : List Nat} (ho : Ord f o) (h : Back f o p) {t : Int} (h0 : 0 ≤ t) (h1 : t < f.blocks.length) : toOf p (toOf o t) = t := by
  obtain ⟨k, hk, e⟩ := toOf_kept ho.nodup h0 (h.all t.toNat (by omega))
  rw [e, toOf_get (back_ord ho h).nodup (h.at ho.nodup hk (by omega))]
  omega
theorem zip_fst_snd : ∀ (S : List (Int × Int)), (S.map (·.1)).zip (S.map (·.2)) = S
  | [] => rfl
  | a :: r => by simp [zip_fst_snd r]
theorem renum_back {f : Fn} {o p : List Nat} (hv : Val f) (ho : Ord f o) (h : Back f o p) {b : Nat} {l : List Ins} (hl : f.blocks[b]? = some l) {x : Ins} (hx : x ∈ l) : renum (moved f o) p (renum f o x) = x := by
  have hk := keeps_all hv ho h.all
  have hb : b ∈ o := h.all b (List.getElem?_eq_some_iff.1 hl).1
  obtain ⟨i, hi⟩ := List.getElem?_of_mem hx
  have hr := (renum_parts f o x).1
  by_cases h28 : x.op = 28
  · obtain ⟨p1, p2, p3, p4⟩ := phi_parts hv hl hx h28
    have hzp : (x.to.zip x.args).Pairwise (fun a c => a.1 < c.1) := by
      have : ((x.to.zip x.args).map Prod.fst).Pairwise (fun a c => a < c) := by rw [List.map_fst_zip (by omega)]; exact p3
      rwa [List.pairwise_map] at this
    have hS := asc_sortP (apart_phi (f := f) (o := o) p1 p3) f.blocks.length
    obtain ⟨S, eS⟩ : ∃ S, sortP f.blocks.length (phiL f o x) = S := ⟨_, rfl⟩
    have hmem : ∀ q, q ∈ S ↔ ∃ (j : Nat) (t v : Int), x.to[j]? = some t ∧ x.args[j]? = some v ∧ q = (toOf o t, num f o v) ∧ 0 ≤ toOf o t := fun q => by rw [← eS]; exact mem_sort_phi ho
    have hx1 : renum f o x = ⟨x.op, x.width, x.flags, S.map (·.2), x.imm, S.map (·.1)⟩ := by rw [renum_phi f o h28, eS]
    rw [eS] at hS
    have hL : phiL (moved f o) p (renum f o x) = S.map fun q => (toOf p q.1, num (moved f o) p q.2) := by
      rw [hx1]; unfold phiL
      dsimp only
      rw [zip_fst_snd]
    have hgo : ∀ q ∈ S, ∃ (j : Nat) (t v : Int), x.to[j]? = some t ∧ x.args[j]? = some v ∧ (toOf p q.1, num (moved f o) p q.2) = (t, v) ∧ q = (toOf o t, num f o v) := by
      intro q hq
      obtain ⟨j, t, v, h1, h2, rfl, h3⟩ := (hmem q).1 hq
      have ht := p4 t (List.mem_of_getElem? h1)
      have hkp := hk.phiArgs b hb l hl i x hi h28 j t v h1 h2 (h.all _ (by omega))
      exact ⟨j, t, v, h1, h2, by dsimp only; rw [to_back ho h ht.1 ht.2, num_back ho h hkp], rfl⟩
    have hs : sortP (moved f o).blocks.length (phiL (moved f o) p (renum f o x)) = x.to.zip x.args := by
      rw [hL]
      refine sortP_eq ?_ hzp fun q => ?_
      · unfold Apart
        rw [List.pairwise_map]
        refine List.Pairwise.imp_of_mem ?_ hS
        intro a c ha hc hac e
        obtain ⟨j, t, v, -, -, e1, e2⟩ := hgo a ha
        obtain ⟨j', t', v', -, -, e3, e4⟩ := hgo c hc
        have e5 : toOf p a.1 = t := congrArg Prod.fst e1
        have e6 : toOf p c.1 = t' := congrArg Prod.fst e3
        have e7 : a.1 = toOf o t := congrArg Prod.fst e2
        have e8 : c.1 = toOf o t' := congrArg Prod.fst e4
        have : t = t' := by rw [← e5, ← e6]; exact e
        subst this
        omega
      · rw [List.mem_map]
        constructor
        · intro hq
          obtain ⟨j, hj⟩ := List.getElem?_of_mem hq
          rw [List.getElem?_zip_eq_some] at hj
          have ht := p4 q.1 (List.mem_of_getElem? hj.1)
          obtain ⟨m, hm, em⟩ := toOf_kept ho.nodup ht.1 (h.all _ (by omega))
          have hkp := hk.phiArgs b hb l hl i x hi h28 j _ _ hj.1 hj.2 (h.all _ (by omega))
          refine ⟨⟨(toOf o q.1, num f o q.2), (hmem _).2 ⟨j, _, _, hj.1, hj.2, rfl, by omega⟩, ?_⟩, ht.1, ?_⟩
          · dsimp only; rw [to_back ho h ht.1 ht.2, num_back ho h hkp]
          · have e1 : (moved f o).blocks.length = f.blocks.length := by
              rw [moved_len]
              have h1 := ho.short
              have h2 : f.blocks.length ≤ o.length := by
                have := (back_ord ho h).short
                rw [h.len, moved_len] at this; exact this
              omega
            omega
        · rintro ⟨⟨a, ha, rfl⟩, -⟩
          obtain ⟨j, t, v, h1, h2, e1, e2⟩ := hgo a ha
          rw [e1]
          exact List.mem_of_getElem? (List.getElem?_zip_eq_some.2 ⟨h1, h2⟩)
    rw [renum_phi _ _ (hr.trans h28), hs, hx1]
    dsimp only
    have e1 : (x.to.zip x.args).map (·.2) = x.args := List.map_snd_zip (by omega)
    have e2 : (x.to.zip x.args).map (·.1) = x.to := List.map_fst_zip (by omega)
    rw [e1, e2]
  · rw [renum_no _ _ (by rw [hr]; exact h28), renum_no _ _ h28]
    dsimp only
    have e1 : (x.args.map (num f o)).map (num (moved f o) p) = x.args := by
      rw [List.map_map]
      conv => rhs; rw [← List.map_id x.args]
      exact List.map_congr_left fun v hvm => num_back ho h (hk.args b hb l hl i x hi h28 v hvm)
    have e2 : (x.to.map (toOf o)).map (toOf p) = x.to := by
      rw [List.map_map]
      conv => rhs; rw [← List.map_id x.to]
      refine List.map_congr_left fun t ht => ?_
      have := arg_to (hv.arg l (List.mem_of_getElem? hl) x hx) t ht
      exact to_back ho h this.1 this.2
    rw [e1, e2]
/-- New numbers and back: the same function. -/
theorem moved_back {f : Fn} {o p : List Nat} (hv : Val f) (ho : Ord f o) (h : Back f o p) : moved (moved f o) p = f := by
  have hb : (moved (moved f o) p).blocks = f.blocks := by
    apply List.ext_getElem?
    intro b
    rcases Nat.lt_or_ge b f.blocks.length with hlt | hge
    · obtain ⟨k, hk⟩ := List.getElem?_of_mem (h.all b hlt)
      have hp := h.at ho.nodup hk hlt
      obtain ⟨l, hl, hm⟩ := moved_blk ho hk
      obtain ⟨l', hl', hm'⟩ := moved_blk (back_ord ho h) hp
      rw [hm] at hl'
      cases hl'
      rw [hm', hl, List.map_map]
      congr 1
      conv => rhs; rw [← List.map_id l]
      exact List.map_congr_left fun x hx => renum_back hv ho h hl hx
    · rw [List.getElem?_eq_none hge, List.getElem?_eq_none (by rw [moved_len, h.len]; exact hge)]
  have e : moved (moved f o) p = { f with blocks := (moved (moved f o) p).blocks } := rfl
  rw [e, hb]
/-! ### The blocks that are reached -/
def kept (f : Fn) : List Nat := (List.range f.blocks.length).filter fun b => (reached (graph f) (-1)).getD b false
theorem mem_kept {f : Fn} {b : Nat} : b ∈ kept f ↔ b < f.blocks.length ∧ rc (graph f) (-1) b := by
  unfold kept rc
  rw [List.mem_filter, List.mem_range]
theorem kept_ord (hA : RcAll) {f : Fn} (hv : Val f) : Ord f (kept f) := by
  have h0 : rc (graph f) (-1) 0 := (hv.rc hA (-1)).root (by decide)
  have hn := hv.size.2.2.1
  refine ⟨List.Nodup.sublist List.filter_sublist List.nodup_range, fun b hb => (mem_kept.1 hb).1, ?_⟩
  unfold kept
  obtain ⟨n, hn'⟩ : ∃ n, f.blocks.length = n + 1 := ⟨f.blocks.length - 1, by omega⟩
  have h0' : (reached (graph f) (-1)).getD 0 false = true := h0
  rw [hn', List.range_succ_eq_map, List.filter_cons]
  simp only [h0', if_true]
  rfl
theorem keeps_reached (hA : RcAll) {f : Fn} (hv : Val f) : Keeps f (kept f) := by
  have hR := hv.rc hA (-1)
  have ho := kept_ord hA hv
  have hg : ∀ b, b < f.blocks.length → ∀ t ∈ (graph f).getD b [], 0 ≤ t ∧ t < (f.blocks.length : Int) := fun b hb t ht => by
    have := val_gok hv _ (List.mem_of_getElem? (getD_graph hv hb)) t ht
    rwa [graph_len] at this
  have hclosed : ∀ b ∈ kept f, ∀ t ∈ (graph f).getD b [], t.toNat ∈ kept f := by
    intro b hb t ht
    obtain ⟨hb1, hb2⟩ := mem_kept.1 hb
    have := hg b hb1 t ht
    exact mem_kept.2 ⟨by omega, hR.step b t hb2 ht (by omega)⟩
  -- a value that is there is in a block that is reached
  have hthere : ∀ {b : Nat}, b ∈ kept f → ∀ {v : Int}, 0 ≤ v → v < count f → ∀ place, there f (graph f) v (b : Int) place = true → Kept f (kept f) v := by
    intro b hb v h0 h1 place ht
    rcases home_of f h0 h1 with h | ⟨a, i, l, x, ha, hi, rfl⟩
    · exact .inl h
    · have hb' := mem_kept.1 hb
      have ham : a ∈ kept f := by
        have hla := (List.getElem?_eq_some_iff.1 ha).1
        unfold there at ht
        rw [whereIs_at f ha (List.getElem?_eq_some_iff.1 hi).1] at ht
        dsimp only at ht
        rw [if_neg (by omega)] at ht
        by_cases e : (a : Int) = (b : Int)
        · have : a = b := by omega
          subst this; exact hb
        · rw [if_neg e] at ht
          refine mem_kept.2 ⟨hla, ?_⟩
          apply Classical.byContradiction
          intro hna
          have hRa := hv.rc hA (a : Int)
          have : rc (graph f) (a : Int) b := by
            have := hR.least (fun i => rc (graph f) (a : Int) i) (fun _ => hRa.root (fun e0 => hna ((show a = 0 by omega) ▸ hR.root (by decide)))) (fun c t hc hSc ht' hne => by
              refine hRa.step c t hSc ht' (fun e' => hna ?_)
              have e2 : t.toNat = a := by omega
              rw [← e2]
              exact hR.step c t hc ht' (by omega)) b hb'.2
            exact this
          unfold dominates at ht
          rw [decide_eq_false e, Int.toNat_natCast] at ht
          unfold rc at this
          rw [this] at ht
          exact absurd ht (by decide)
      obtain ⟨k, hk⟩ := List.getElem?_of_mem ham
      exact .inr ⟨k, a, i, l, x, hk, ha, hi, rfl⟩
  refine { toOrd := ho, closed := hclosed, args := ?_, phiArgs := ?_, phiSome := ?_ }
  · intro b hb l hl i x hx h28 v hvm
    obtain ⟨j, hj⟩ := List.getElem?_of_mem hvm
    obtain ⟨h0, h1⟩ := val_args hv (List.mem_of_getElem? hl) (List.mem_of_getElem? hx) hvm
    have := hv.st b l hl (mem_kept.1 hb).2 i x hx j v hj
    unfold argOk at this
    rw [if_neg h28] at this
    exact hthere hb h0 h1 _ this
  · intro b hb l hl i x hx h28 j t v hj1 hj2 htk
    obtain ⟨h0, h1⟩ := val_args hv (List.mem_of_getElem? hl) (List.mem_of_getElem? hx) (List.mem_of_getElem? hj2)
    have ht := arg_to (hv.arg l (List.mem_of_getElem? hl) x (List.mem_of_getElem? hx)) t (List.mem_of_getElem? hj1)
    have := hv.st b l hl (mem_kept.1 hb).2 i x hx j v hj2
    unfold argOk at this
    have htr : (reached (graph f) (-1)).getD t.toNat false = true := (mem_kept.1 htk).2
    rw [if_pos h28, show x.to.getD j 0 = t by rw [List.getD_eq_getElem?_getD, hj1]; rfl, htr, Bool.not_true, Bool.false_or] at this
    have et : t = ((t.toNat : Nat) : Int) := by omega
    rw [et] at this
    exact hthere htk h0 h1 _ this
  · intro b hb l hl x hx h28
    obtain ⟨p1, p2, p3, p4⟩ := phi_parts hv hl hx h28
    have hxt := hv.phi b l hl x hx h28
    have hb' := mem_kept.1 hb
    have hb0 : b ≠ 0 := by
      intro e
      subst e
      have := hv.entry
      rw [show ((0 : Nat) : Int) = 0 from rfl, this] at hxt
      rw [hxt] at p1; simp at p1; rw [p1] at p2; simp at p2
    have := hR.least (fun i => i = 0 ∨ ∃ c, c ∈ kept f ∧ (i : Int) ∈ (graph f).getD c []) (fun _ => .inl rfl) (fun c t hc _ ht _ => by
      have hcl : c < f.blocks.length := by
        apply Classical.byContradiction
        intro hge
        rw [List.getD_eq_getElem?_getD, List.getElem?_eq_none (by rw [graph_len]; omega)] at ht
        simp at ht
      have := hg c hcl t ht
      exact .inr ⟨c, mem_kept.2 ⟨hcl, hc⟩, by rw [show ((t.toNat : Nat) : Int) = t by omega]; exact ht⟩) b hb'.2
    rcases this with h | ⟨c, hc, hbc⟩
    · exact absurd h hb0
    · refine ⟨(c : Int), ?_, by simpa using hc⟩
      rw [hxt]
      exact mem_before.2 ⟨c, _, getD_graph hv (mem_kept.1 hc).1, hbc, rfl⟩
/-- The blocks in their own order: the same function. -/
theorem moved_id (hA : RcAll) {f : Fn} (hv : Val f) : moved f (List.range f.blocks.length) = f := by
  have hn := hv.size.2.2.1
  have hget : ∀ b, b < f.blocks.length → (List.range f.blocks.length)[b]? = some b := fun b hb => by
    rw [List.getElem?_eq_getElem (by simpa using hb)]; simp
  have ho : Ord f (List.range f.blocks.length) := ⟨List.nodup_range, fun b hb => by simpa using hb, hget 0 (by omega)⟩
  have hB : Back f (List.range f.blocks.length) (List.range f.blocks.length) := ⟨fun b hb => by simpa using hb, by simp, fun b k h => by
    have hb := (List.getElem?_eq_some_iff.1 h).1
    rw [List.length_range] at hb
    rw [hget b hb] at h
    cases h
    exact hget b hb⟩
  -- one order is enough: every number stays
  have hstart : ∀ b, b ≤ f.blocks.length → start f ((List.range f.blocks.length).take b) = number f b := by
    intro b hb
    induction b with
    | zero => simp [start, number, total]
    | succ b ih =>
      have e1 : (List.range f.blocks.length).take (b + 1) = (List.range f.blocks.length).take b ++ [b] := by rw [List.take_add_one, hget b hb]; rfl
      have hl : f.blocks[b]? = some f.blocks[b] := List.getElem?_eq_getElem hb
      have e2 : start f ((List.range f.blocks.length).take b ++ [b]) = start f ((List.range f.blocks.length).take b) + f.blocks[b].length := by
        unfold start
        have e3 : f.blocks.getD b [] = f.blocks[b] := getD_some hl
        rw [List.map_append, List.sum_append, List.map_singleton, e3, List.sum_singleton]; omega
      rw [e1, e2, ih (by omega), number_next f hl]
  have hnum : ∀ v : Int, 0 ≤ v → v < count f → num f (List.range f.blocks.length) v = v := by
    intro v h0 h1
    rcases home_of f h0 h1 with h | ⟨b, i, l, x, hb, hi, rfl⟩
    · exact num_param h.2
    · have hbl := (List.getElem?_eq_some_iff.1 hb).1
      rw [num_at ho hb (List.getElem?_eq_some_iff.1 hi).1 (hget b hbl), hstart b (by omega)]
  have hto : ∀ t : Int, 0 ≤ t → t < f.blocks.length → toOf (List.range f.blocks.length) t = t := by
    intro t h0 h1
    have := toOf_get List.nodup_range (hget t.toNat (by omega))
    rw [show ((t.toNat : Nat) : Int) = t by omega] at this
    exact this
  have hb : (moved f (List.range f.blocks.length)).blocks = f.blocks := by
    apply List.ext_getElem?
    intro b
    rcases Nat.lt_or_ge b f.blocks.length with hlt | hge
    · obtain ⟨l, hl, hm⟩ := moved_blk ho (hget b hlt)
      rw [hm, hl]
      congr 1
      conv => rhs; rw [← List.map_id l]
      refine List.map_congr_left fun x hx => ?_
      show renum _ _ x = x
      have hlm := List.mem_of_getElem? hl
      have hargs : x.args.map (num f (List.range f.blocks.length)) = x.args := by
        conv => rhs; rw [← List.map_id x.args]
        exact List.map_congr_left fun v hvm => hnum v (val_args hv hlm hx hvm).1 (val_args hv hlm hx hvm).2
      have htos : x.to.map (toOf (List.range f.blocks.length)) = x.to := by
        conv => rhs; rw [← List.map_id x.to]
        exact List.map_congr_left fun t ht => hto t (arg_to (hv.arg l hlm x hx) t ht).1 (arg_to (hv.arg l hlm x hx) t ht).2
      by_cases h28 : x.op = 28
      · obtain ⟨p1, p2, p3, p4⟩ := phi_parts hv hl hx h28
        have hL : phiL f (List.range f.blocks.length) x = x.to.zip x.args := by
          unfold phiL
          conv => rhs; rw [← hargs, ← htos]
          rw [List.zip_map]
          rfl
        have hzp : (x.to.zip x.args).Pairwise (fun a c => a.1 < c.1) := by
          have : ((x.to.zip x.args).map Prod.fst).Pairwise (fun a c => a < c) := by rw [List.map_fst_zip (by omega)]; exact p3
          rwa [List.pairwise_map] at this
        have hs : sortP f.blocks.length (phiL f (List.range f.blocks.length) x) = x.to.zip x.args := by
          rw [hL]
          refine sortP_eq (apart_of_asc hzp) hzp fun q => ⟨fun hq => ⟨hq, ?_⟩, fun hq => hq.1⟩
          exact p4 q.1 (List.of_mem_zip hq).1
        rw [renum_phi _ _ h28, hs]
        have e1 : (x.to.zip x.args).map (·.2) = x.args := List.map_snd_zip (by omega)
        have e2 : (x.to.zip x.args).map (·.1) = x.to := List.map_fst_zip (by omega)
        rw [e1, e2]
      · rw [renum_no _ _ h28, hargs, htos]
    · rw [List.getElem?_eq_none hge, List.getElem?_eq_none (by rw [moved_len]; simpa using hge)]
  have e : moved f (List.range f.blocks.length) = { f with blocks := (moved f (List.range f.blocks.length)).blocks } := rfl
  rw [e, hb]
/-- All blocks of a pruned function are reached. -/
theorem kept_again (hA : RcAll) {f : Fn} (hv : Val f) : kept (moved f (kept f)) = List.range (moved f (kept f)).blocks.length := by
  have hk := keeps_reached hA hv
  unfold kept
  rw [List.filter_eq_self]
  intro k hk'
  rw [List.mem_range] at hk'
  have hk'' : k < (kept f).length := by rwa [moved_len] at hk'
  have hg := List.getElem?_eq_getElem hk''
  have := reached_moved hA hv hk hg
  show (reached (graph (moved f (kept f))) (-1)).getD k false = true
  rw [this]
  exact (mem_kept.1 (List.mem_of_getElem? hg)).2
/-- Pruned again: the same. -/
theorem prune_again (hA : RcAll) {f : Fn} (hv : Val f) : moved (moved f (kept f)) (kept (moved f (kept f))) = moved f (kept f) := by
  rw [kept_again hA hv]
  exact moved_id hA (moved_val hA hv (keeps_reached hA hv))
end Ref
end Go.Proofs.YtiadpjhlomhjeaaGreat

namespace Go.Proofs.YtiadpjhlomhjeaaGreat
set_option linter.unusedSimpArgs false
set_option linter.unusedVariables false
namespace Ref

def at0 (l : List Int) (v : Int) : Int := l.getD v.toNat 0
def phiN (nums tos : List Int) (x : Ins) : List (Int × Int) := (x.to.zip x.args).map fun p => (at0 tos p.1, at0 nums p.2)
/-- An instruction with other numbers, which lists say. -/
def rn (nums tos : List Int) (x : Ins) : Ins :=
  if x.op = 28 then ⟨x.op, x.width, x.flags, (sortP tos.length (phiN nums tos x)).map (·.2), x.imm, (sortP tos.length (phiN nums tos x)).map (·.1)⟩
  else ⟨x.op, x.width, x.flags, x.args.map (at0 nums), x.imm, x.to.map (at0 tos)⟩
theorem sortP_congr {n : Nat} {L L' : List (Int × Int)} (h : ∀ b : Nat, b < n → (L.filter fun p => decide (p.1 = (b : Int))) = L'.filter fun p => decide (p.1 = (b : Int))) : sortP n L = sortP n L' := by
  unfold sortP
  rw [List.flatMap_def, List.flatMap_def]
  congr 1
  exact List.map_congr_left fun b hb => h b (List.mem_range.1 hb)
theorem filter_map_congr {α : Type} (g g' : α → Int × Int) (b : Nat) : ∀ (l : List α), (∀ p ∈ l, (g p).1 = (g' p).1 ∧ (0 ≤ (g p).1 → g p = g' p)) → ((l.map g).filter fun p => decide (p.1 = (b : Int))) = (l.map g').filter fun p => decide (p.1 = (b : Int))
  | [], _ => rfl
  | p :: r, h => by
    have ih := filter_map_congr g g' b r fun q hq => h q (List.mem_cons_of_mem _ hq)
    obtain ⟨h1, h2⟩ := h p (by simp)
    rw [List.map_cons, List.map_cons, List.filter_cons, List.filter_cons, ih]
    by_cases e : (g p).1 = (b : Int)
    · rw [← h2 (by omega)]
    · rw [if_neg (by simpa using e), if_neg (by rw [← h1]; simpa using e)]
/-- Lists that say the new numbers of what is kept, and of all blocks. -/
structure Says (f : Fn) (o : List Nat) (nums tos : List Int) : Prop where
  len : tos.length = f.blocks.length
  to : ∀ t : Int, 0 ≤ t → t < f.blocks.length → at0 tos t = toOf o t
  num : ∀ v : Int, Kept f o v → at0 nums v = num f o v
theorem rn_eq {f : Fn} {o : List Nat} {nums tos : List Int} (hv : Val f) (hk : Keeps f o) (hs : Says f o nums tos) {b : Nat} (hb : b ∈ o) {l : List Ins} (hl : f.blocks[b]? = some l) {i : Nat} {x : Ins} (hx : l[i]? = some x) : rn nums tos x = renum f o x := by
  have hxm := List.mem_of_getElem? hx
  have hto := arg_to (hv.arg l (List.mem_of_getElem? hl) x hxm)
  unfold rn renum
  by_cases h28 : x.op = 28
  · rw [if_pos h28, if_pos h28, hs.len]
    have e : sortP f.blocks.length (phiN nums tos x) = sortP f.blocks.length (phiL f o x) := by
      refine sortP_congr fun c _ => ?_
      unfold phiN phiL
      refine filter_map_congr _ _ c _ fun p hp => ?_
      obtain ⟨j, hj⟩ := List.getElem?_of_mem hp
      rw [List.getElem?_zip_eq_some] at hj
      have ht := hto p.1 (List.mem_of_getElem? hj.1)
      have e1 := hs.to p.1 ht.1 ht.2
      refine ⟨e1, fun h0 => ?_⟩
      dsimp only at h0
      rw [e1] at h0
      obtain ⟨k, d, hkd, hpd, -⟩ := toOf_some h0
      have := hk.phiArgs b hb l hl i x hx h28 j p.1 p.2 hj.1 hj.2 (by rw [hpd, Int.toNat_natCast]; exact List.mem_of_getElem? hkd)
      rw [e1, hs.num p.2 this]
    rw [e]
  · rw [if_neg h28, if_neg h28]
    congr 1
    · exact List.map_congr_left fun v hvm => hs.num v (hk.args b hb l hl i x hx h28 v hvm)
    · exact List.map_congr_left fun t ht => hs.to t (hto t ht).1 (hto t ht).2
/-! ### The document's loops over a Phi -/
/-- What has been appended ahead of place k in round b. -/
def phiPre (nums tos : List Int) (x : Ins) (b k : Nat) : List (Int × Int) := sortP b (phiN nums tos x) ++ ((phiN nums tos x).take k).filter fun p => decide (p.1 = (b : Int))
theorem phiPre_zero (nums tos : List Int) (x : Ins) : phiPre nums tos x 0 0 = [] := by simp [phiPre, sortP]
theorem phiN_len (nums tos : List Int) {x : Ins} (h : x.args.length = x.to.length) : (phiN nums tos x).length = x.to.length := by
  unfold phiN; rw [List.length_map, List.length_zip, h]; omega
theorem phiPre_next (nums tos : List Int) {x : Ins} (h : x.args.length = x.to.length) (b : Nat) : phiPre nums tos x b x.to.length = phiPre nums tos x (b + 1) 0 := by
  unfold phiPre
  rw [List.take_of_length_le (by rw [phiN_len _ _ h]; exact Nat.le_refl _), sortP_succ]
  simp
theorem phiPre_end (nums tos : List Int) (x : Ins) : phiPre nums tos x tos.length 0 = sortP tos.length (phiN nums tos x) := by simp [phiPre]
theorem phiPre_step (nums tos : List Int) {x : Ins} {b k : Nat} {t a : Int} (ht : x.to[k]? = some t) (ha : x.args[k]? = some a) : phiPre nums tos x b (k + 1) = if at0 tos t = b then phiPre nums tos x b k ++ [((b : Int), at0 nums a)] else phiPre nums tos x b k := by
  have e : (phiN nums tos x)[k]? = some (at0 tos t, at0 nums a) := by
    unfold phiN
    have hz : (x.to.zip x.args)[k]? = some (t, a) := List.getElem?_zip_eq_some.2 ⟨ht, ha⟩
    rw [List.getElem?_map, hz]; rfl
  unfold phiPre
  rw [List.take_add_one, e, List.filter_append]
  by_cases h : at0 tos t = b
  · rw [if_pos h, List.append_assoc]
    simp [h]
  · rw [if_neg h]
    simp [h]
theorem phiPre_le (nums tos : List Int) (x : Ins) (b k : Nat) (h : x.args.length = x.to.length) : (phiPre nums tos x b k).length ≤ (b + 1) * x.to.length := by
  unfold phiPre
  rw [List.length_append]
  have h1 : ((List.filter (fun p => decide (p.1 = (b : Int))) ((phiN nums tos x).take k))).length ≤ x.to.length := by
    refine Nat.le_trans (List.length_filter_le _ _) ?_
    rw [List.length_take, phiN_len _ _ h]; omega
  have h2 : (sortP b (phiN nums tos x)).length ≤ b * x.to.length := by
    clear h1
    induction b with
    | zero => simp [sortP]
    | succ b ih =>
      rw [sortP_succ, List.length_append, Nat.succ_mul]
      have := List.length_filter_le (fun p : Int × Int => decide (p.1 = (b : Int))) (phiN nums tos x)
      rw [phiN_len _ _ h] at this
      omega
  rw [Nat.succ_mul]; omega
/-! ### Which lists of numbers are right -/
/-- The places of a number in a list. -/
def placesFrom (b : Int) : List Int → Nat → List Nat
  | [], _ => []
  | t :: r, k => if t = b then k :: placesFrom b r (k + 1) else placesFrom b r (k + 1)
theorem placesFrom_len (b : Int) : ∀ (l : List Int) (k : Nat), (placesFrom b l k).length = l.count b
  | [], k => rfl
  | t :: r, k => by
    rw [placesFrom, List.count_cons]
    by_cases h : t = b
    · rw [if_pos h, List.length_cons, placesFrom_len b r]; simp [h]
    · rw [if_neg h, placesFrom_len b r]; simp [h]
theorem mem_placesFrom (b : Int) : ∀ (l : List Int) (k z : Nat), z ∈ placesFrom b l k ↔ ∃ j, l[j]? = some b ∧ z = k + j
  | [], k, z => by simp [placesFrom]
  | t :: r, k, z => by
    rw [placesFrom]
    have ih := mem_placesFrom b r (k + 1) z
    constructor
    · intro h
      split at h
      · next e =>
        rcases List.mem_cons.1 h with rfl | h
        · exact ⟨0, by rw [e]; rfl, by simp⟩
        · obtain ⟨j, h1, h2⟩ := ih.1 h; exact ⟨j + 1, by simpa using h1, by omega⟩
      · obtain ⟨j, h1, h2⟩ := ih.1 h; exact ⟨j + 1, by simpa using h1, by omega⟩
    · rintro ⟨j, h1, h2⟩
      cases j with
      | zero =>
        simp at h1
        rw [if_pos h1]; simp; omega
      | succ j =>
        have := ih.2 ⟨j, by simpa using h1, by omega⟩
        split
        · exact List.mem_cons_of_mem _ this
        · exact this
/-- The order that the document builds of a list of new numbers. -/
def orderTo (to : List Int) (n : Nat) : List Nat := (List.range n).flatMap fun b : Nat => placesFrom (b : Int) to 0
theorem orderTo_succ (to : List Int) (n : Nat) : orderTo to (n + 1) = orderTo to n ++ placesFrom (n : Int) to 0 := by
  unfold orderTo
  rw [List.range_succ, List.flatMap_append]
  simp
def permB (to : List Int) : Bool := (List.range to.length).all fun b => decide ((b : Int) ∈ to)
theorem sum_count_le : ∀ (to : List Int) (n : Nat), ((List.range n).map fun b => to.count ((b : Nat) : Int)).sum ≤ to.length
  | [], n => by
    have : ((List.range n).map fun b => ([] : List Int).count ((b : Nat) : Int)) = (List.range n).map fun _ => 0 := List.map_congr_left fun b _ => by simp
    rw [this]
    clear this
    induction n with
    | zero => simp
    | succ n ih => rw [List.range_succ, List.map_append, List.sum_append]; simpa using ih
  | t :: r, n => by
    have ih := sum_count_le r n
    have key : ((List.range n).map fun b => (t :: r).count ((b : Nat) : Int)).sum ≤ ((List.range n).map fun b => r.count ((b : Nat) : Int)).sum + 1 := by
      clear ih
      have two : ∀ n, ((List.range n).map fun b => (t :: r).count ((b : Nat) : Int)).sum = ((List.range n).map fun b => r.count ((b : Nat) : Int)).sum + (if 0 ≤ t ∧ t < n then 1 else 0) := by
        intro n
        induction n with
        | zero => simp <;> omega
        | succ n ih =>
          rw [List.range_succ, List.map_append, List.sum_append, ih, List.map_append, List.sum_append]
          simp only [List.map_cons, List.map_nil, List.sum_cons, List.sum_nil, List.count_cons]
          by_cases e : t = (n : Int)
          · have h1 : ¬ (0 ≤ t ∧ t < (n : Int)) := by omega
            have h2 : 0 ≤ t ∧ t < ((n + 1 : Nat) : Int) := by omega
            rw [if_neg h1, if_pos h2]
            simp [e]
            omega
          · have h3 : (0 ≤ t ∧ t < (n : Int)) ↔ (0 ≤ t ∧ t < ((n + 1 : Nat) : Int)) := by omega
            simp only [h3]
            have e' : ¬ (t == (n : Int)) = true := by simpa using e
            rw [if_neg e']
            omega
      rw [two n]
      split <;> omega
    rw [List.length_cons]; omega
theorem sum_ones (c : Nat → Nat) : ∀ n, (∀ b, b < n → 1 ≤ c b) → ((List.range n).map c).sum ≤ n → ∀ b, b < n → c b = 1
  | 0, _, _, b, hb => by omega
  | n + 1, h, hs, b, hb => by
    rw [List.range_succ, List.map_append, List.sum_append] at hs
    have hlow : ∀ m, m ≤ n → m ≤ ((List.range m).map c).sum := by
      intro m hm
      induction m with
      | zero => omega
      | succ m ih =>
        rw [List.range_succ, List.map_append, List.sum_append]
        have := ih (by omega); have := h m (by omega)
        simp; omega
    have h1 := hlow n (Nat.le_refl _)
    have h2 := h n (by omega)
    simp at hs
    rcases (by omega : b < n ∨ b = n) with e | e
    · exact sum_ones c n (fun d hd => h d (by omega)) (by omega) b e
    · subst e; omega
theorem perm_count {to : List Int} (h : permB to = true) : ∀ b : Nat, b < to.length → to.count (b : Int) = 1 := by
  unfold permB at h
  simp only [List.all_eq_true, List.mem_range, decide_eq_true_eq] at h
  exact sum_ones _ to.length (fun b hb => List.one_le_count_iff.2 (h b hb)) (sum_count_le to to.length)
theorem perm_of_count {to : List Int} (h : ∀ b : Nat, b < to.length → to.count (b : Int) = 1) : permB to = true := by
  unfold permB
  simp only [List.all_eq_true, List.mem_range, decide_eq_true_eq]
  intro b hb
  exact List.one_le_count_iff.1 (by rw [h b hb]; exact Nat.le_refl _)
/-- The order of a right list: the place of each number. -/
theorem order_perm {to : List Int} (h : permB to = true) : ∀ n, n ≤ to.length → (orderTo to n).length = n ∧ ∀ b k : Nat, (orderTo to n)[b]? = some k ↔ b < n ∧ to[k]? = some (b : Int)
  | 0, _ => ⟨by simp [orderTo], fun b k => by simp [orderTo]⟩
  | n + 1, hn => by
    obtain ⟨h1, h2⟩ := order_perm h n (by omega)
    have hc := perm_count h n (by omega)
    rw [← placesFrom_len (n : Int) to 0] at hc
    obtain ⟨z, hz⟩ := List.length_eq_one_iff.1 hc
    have hzm : ∀ k : Nat, k = z ↔ to[k]? = some (n : Int) := by
      intro k
      have := mem_placesFrom (n : Int) to 0 k
      rw [hz] at this
      simp only [List.mem_singleton, Nat.zero_add] at this
      rw [this]
      constructor
      · rintro ⟨j, h, rfl⟩; exact h
      · intro h; exact ⟨k, h, rfl⟩
    rw [orderTo_succ, hz]
    refine ⟨by simp [h1], fun b k => ?_⟩
    rcases Nat.lt_trichotomy b n with hb | hb | hb
    · rw [List.getElem?_append_left (by omega), h2]
      constructor
      · rintro ⟨_, q⟩; exact ⟨by omega, q⟩
      · rintro ⟨_, q⟩; exact ⟨hb, q⟩
    · subst hb
      rw [List.getElem?_append_right (by omega), h1]
      simp only [Nat.sub_self, List.getElem?_cons_zero, Option.some.injEq]
      rw [eq_comm, hzm k]
      exact ⟨fun q => ⟨by omega, q⟩, fun q => q.2⟩
    · rw [List.getElem?_eq_none (by simp; omega)]
      constructor
      · intro q; cases q
      · rintro ⟨q, -⟩; omega
/-- The document stops at the first number that has not just one place. -/
theorem order_fails {to : List Int} (h : permB to = false) : ∃ b, b < to.length ∧ (orderTo to (b + 1)).length ≠ b + 1 := by
  apply Classical.byContradiction
  intro hn
  have hall : ∀ b, b < to.length → (orderTo to (b + 1)).length = b + 1 := fun b hb => Classical.byContradiction fun q => hn ⟨b, hb, q⟩
  have hl : ∀ b, b ≤ to.length → (orderTo to b).length = b := fun b hb => by
    cases b with
    | zero => simp [orderTo]
    | succ b => exact hall b hb
  have : permB to = true := perm_of_count fun b hb => by
    have h1 := hl (b + 1) hb
    rw [orderTo_succ, List.length_append, hl b (by omega), placesFrom_len] at h1
    omega
  rw [h] at this
  cases this
theorem order_ord {f : Fn} {to : List Int} (h : permB to = true) (hl : to.length = f.blocks.length) (h0 : to[0]? = some 0) : Ord f (orderTo to to.length) ∧ (∀ b, b < f.blocks.length → b ∈ orderTo to to.length) ∧ (∀ t : Int, 0 ≤ t → t < f.blocks.length → at0 to t = toOf (orderTo to to.length) t) := by
  obtain ⟨h1, h2⟩ := order_perm h to.length (Nat.le_refl _)
  have hlt : ∀ b, b ∈ orderTo to to.length → b < f.blocks.length := by
    intro k hk
    obtain ⟨b, hb⟩ := List.getElem?_of_mem hk
    have := (List.getElem?_eq_some_iff.1 ((h2 b k).1 hb).2).1
    omega
  have hnd : (orderTo to to.length).Nodup := by
    rw [List.nodup_iff_pairwise_ne, List.pairwise_iff_getElem]
    intro i j hi hj hij e
    have q1 := ((h2 i _).1 (List.getElem?_eq_getElem hi)).2
    have q2 := ((h2 j _).1 (List.getElem?_eq_getElem hj)).2
    rw [e, q2] at q1
    have := Option.some.inj q1
    omega
  have hlen : 0 < to.length := by have := (List.getElem?_eq_some_iff.1 h0).1; omega
  -- every place has a number of its own
  have hall : ∀ b, b < f.blocks.length → ∃ c : Nat, c < to.length ∧ to[b]? = some (c : Int) := by
    intro b hb
    -- the order is a list without repetition of as many numbers as there are
    have hm : b ∈ orderTo to to.length := by
      apply Classical.byContradiction
      intro hnm
      have hs : ((orderTo to to.length)).length ≤ f.blocks.length - 1 := by
        have := sum_perm_le (fun i => if i = b then 0 else 1) f.blocks.length (orderTo to to.length) hnd hlt
        have e1 : ((orderTo to to.length).map fun i => if i = b then 0 else 1).sum = (orderTo to to.length).length := by
          rw [← sum_one]
          congr 1
          refine List.map_congr_left fun i hi => ?_
          have hne : i ≠ b := fun e => hnm (by rw [← e]; exact hi)
          simp [hne]
        have e2 : ∀ n, b < n → ((List.range n).map fun i => if i = b then 0 else 1).sum ≤ n - 1 := by
          intro n
          induction n with
          | zero => intro h; omega
          | succ n ih =>
            intro hbn
            rw [List.range_succ, List.map_append, List.sum_append]
            rcases (by omega : b < n ∨ b = n) with q | q
            · have := ih q
              simp; split <;> omega
            · subst q
              have : ∀ m, m ≤ b → ((List.range m).map fun i => if i = b then 0 else 1).sum ≤ m := by
                intro m hm
                induction m with
                | zero => simp
                | succ m ihm =>
                  rw [List.range_succ, List.map_append, List.sum_append]
                  have := ihm (by omega)
                  simp; split <;> omega
              have := this b (Nat.le_refl _)
              simp; omega
        have := e2 f.blocks.length hb
        omega
      omega
    obtain ⟨c, hc⟩ := List.getElem?_of_mem hm
    exact ⟨c, ((h2 c b).1 hc).1, ((h2 c b).1 hc).2⟩
  refine ⟨⟨hnd, hlt, (h2 0 0).2 ⟨hlen, h0⟩⟩, fun b hb => ?_, fun t t0 t1 => ?_⟩
  · obtain ⟨c, hc, hbc⟩ := hall b hb
    exact List.mem_of_getElem? ((h2 c b).2 ⟨hc, hbc⟩)
  · obtain ⟨c, hc, hbc⟩ := hall t.toNat (by omega)
    have := toOf_get hnd ((h2 c t.toNat).2 ⟨hc, hbc⟩)
    rw [show ((t.toNat : Nat) : Int) = t by omega] at this
    rw [this]
    unfold at0
    rw [List.getD_eq_getElem?_getD, hbc]; rfl
end Ref
end Go.Proofs.YtiadpjhlomhjeaaGreat

namespace Go.Proofs.YtiadpjhlomhjeaaGreat
set_option linter.unusedSimpArgs false
set_option linter.unusedVariables false
namespace Ref

def noFn : Fn := ⟨[], 0, [], []⟩
def renameE (f : Fn) (to : List Int) : Int := if validate f = 0 then (if to.length = f.blocks.length ∧ to.getD 0 0 = 0 then (if permB to = true then 0 else 1) else 1) else validate f
def renameF (f : Fn) (to : List Int) : Fn := if renameE f to = 0 then moved f (orderTo to to.length) else noFn
def pruneE (f : Fn) : Int := validate f
def pruneF (f : Fn) : Fn := if validate f = 0 then moved f (kept f) else noFn
theorem renameE_ok {f : Fn} {to : List Int} (h : renameE f to = 0) : Val f ∧ to.length = f.blocks.length ∧ to[0]? = some 0 ∧ permB to = true := by
  unfold renameE at h
  by_cases h1 : validate f = 0
  · rw [if_pos h1] at h
    by_cases h2 : to.length = f.blocks.length ∧ to.getD 0 0 = 0
    · rw [if_pos h2] at h
      by_cases h3 : permB to = true
      · have hv := (val_iff f).1 h1
        have hn := hv.size.2.2.1
        refine ⟨hv, h2.1, ?_, h3⟩
        have hlt : 0 < to.length := by omega
        have := h2.2
        rw [List.getD_eq_getElem?_getD, List.getElem?_eq_getElem hlt] at this
        rw [List.getElem?_eq_getElem hlt]
        simpa using this
      · rw [if_neg h3] at h; omega
    · rw [if_neg h2] at h; omega
  · rw [if_neg h1] at h; exact absurd h h1
theorem renameE_of {f : Fn} {to : List Int} (hv : Val f) (h1 : to.length = f.blocks.length) (h2 : to[0]? = some 0) (h3 : permB to = true) : renameE f to = 0 := by
  unfold renameE
  rw [if_pos ((val_iff f).2 hv), if_pos ⟨h1, by rw [List.getD_eq_getElem?_getD, h2]; rfl⟩, if_pos h3]
/-- What the law's loop makes of the numbers: the numbers back. -/
def backOf (to : List Int) : List Int := (orderTo to to.length).map fun k : Nat => (k : Int)
theorem backOf_at {to : List Int} (h : permB to = true) : (backOf to).length = to.length ∧ ∀ b k : Nat, (backOf to)[b]? = some (k : Int) ↔ b < to.length ∧ to[k]? = some (b : Int) := by
  obtain ⟨h1, h2⟩ := order_perm h to.length (Nat.le_refl _)
  refine ⟨by unfold backOf; rw [List.length_map, h1], fun b k => ?_⟩
  rw [← h2]
  unfold backOf
  rw [List.getElem?_map]
  constructor
  · intro q
    obtain ⟨c, hc, e⟩ := Option.map_eq_some_iff.1 q
    rw [hc]; congr 1; omega
  · intro q; rw [q]; rfl
theorem rename_law (hA : RcAll) {f : Fn} {to : List Int} (h : renameE f to = 0) : Val (renameF f to) ∧ renameE (renameF f to) (backOf to) = 0 ∧ renameF (renameF f to) (backOf to) = f := by
  obtain ⟨hv, h1, h2, h3⟩ := renameE_ok h
  have e : renameF f to = moved f (orderTo to to.length) := by unfold renameF; rw [if_pos h]
  obtain ⟨ho, hall, hto⟩ := order_ord h3 h1 h2
  have hk := keeps_all hv ho hall
  have hv' := moved_val hA hv hk
  obtain ⟨b1, b2⟩ := backOf_at h3
  have hol : (orderTo to to.length).length = f.blocks.length := by rw [(order_perm h3 to.length (Nat.le_refl _)).1, h1]
  have hbp : permB (backOf to) = true := by
    unfold permB
    simp only [List.all_eq_true, List.mem_range, decide_eq_true_eq]
    intro b hb
    rw [b1, h1] at hb
    unfold backOf
    exact List.mem_map.2 ⟨b, hall b hb, rfl⟩
  have hb0 : (backOf to)[0]? = some 0 := (b2 0 0).2 ⟨by have := hv.size.2.2.1; omega, h2⟩
  have hre : renameE (moved f (orderTo to to.length)) (backOf to) = 0 := renameE_of hv' (by rw [moved_len, hol, b1, h1]) hb0 hbp
  have hB : Back f (orderTo to to.length) (orderTo (backOf to) (backOf to).length) := by
    obtain ⟨p1, p2⟩ := order_perm hbp (backOf to).length (Nat.le_refl _)
    refine ⟨hall, by rw [p1, b1, h1], fun b k hbk => ?_⟩
    have q := ((p2 b k).1 hbk).2
    unfold backOf at q
    rw [List.getElem?_map] at q
    obtain ⟨c, hc, e⟩ := Option.map_eq_some_iff.1 q
    rw [hc]; congr 1; omega
  rw [e]
  refine ⟨hv', hre, ?_⟩
  unfold renameF
  rw [if_pos hre]
  exact moved_back hv ho hB
theorem prune_law (hA : RcAll) {f : Fn} (h : validate f = 0) : Val (pruneF f) ∧ pruneF (pruneF f) = pruneF f := by
  have hv := (val_iff f).1 h
  have e : pruneF f = moved f (kept f) := by unfold pruneF; rw [if_pos h]
  have hv' := moved_val hA hv (keeps_reached hA hv)
  rw [e]
  refine ⟨hv', ?_⟩
  unfold pruneF
  rw [if_pos ((val_iff _).2 hv')]
  exact prune_again hA hv
/-! ### The document's loops over the blocks that are reached -/
def keptTo (f : Fn) (b : Nat) : List Nat := (List.range b).filter fun c => (reached (graph f) (-1)).getD c false
theorem keptTo_succ (f : Fn) (b : Nat) : keptTo f (b + 1) = if (reached (graph f) (-1)).getD b false = true then keptTo f b ++ [b] else keptTo f b := by
  unfold keptTo
  rw [List.range_succ, List.filter_append]
  by_cases h : (reached (graph f) (-1)).getD b false = true
  · rw [if_pos h]; simp only [List.filter_cons, List.filter_nil, h, if_true]
  · rw [if_neg h]; simp only [List.filter_cons, List.filter_nil, if_neg h, List.append_nil]
theorem kept_at (f : Fn) : ∀ (n b : Nat), b < n → (reached (graph f) (-1)).getD b false = true → (keptTo f n)[(keptTo f b).length]? = some b
  | 0, b, h, _ => by omega
  | n + 1, b, h, hb => by
    rw [keptTo_succ]
    rcases (by omega : b < n ∨ b = n) with q | q
    · have ih := kept_at f n b q hb
      split
      · rw [List.getElem?_append_left (List.getElem?_eq_some_iff.1 ih).1]; exact ih
      · exact ih
    · subst q
      rw [if_pos hb]; simp
theorem kept_to (hA : RcAll) {f : Fn} (hv : Val f) {b : Nat} (hb : b < f.blocks.length) : toOf (kept f) b = if (reached (graph f) (-1)).getD b false = true then ((keptTo f b).length : Int) else -1 := by
  have ho := kept_ord hA hv
  split
  · next h => exact toOf_get ho.nodup (kept_at f f.blocks.length b hb h)
  · next h =>
    refine toOf_none fun c hc e => h ?_
    have : b = c := by omega
    subst this
    exact (mem_kept.1 hc).2
theorem moved_nums_start (f : Fn) (o : List Nat) (k b : Nat) (h : o[k]? = some b) : start f (o.take (k + 1)) = start f (o.take k) + (f.blocks.getD b []).length := by
  unfold start
  rw [List.take_add_one, h, List.map_append, List.sum_append]
  simp; omega
end Ref
end Go.Proofs.YtiadpjhlomhjeaaGreat

namespace Go.Proofs.YtiadpjhlomhjeaaGreat
set_option linter.unusedSimpArgs false
set_option linter.unusedVariables false
namespace Ref

theorem asc_len : ∀ (n : Nat) (l : List Int), l.Pairwise (fun a c => a < c) → (∀ t ∈ l, 0 ≤ t ∧ t < n) → l.length ≤ n := by
  intro n l hp hr
  have hnd : (l.map Int.toNat).Nodup := by
    rw [List.nodup_iff_pairwise_ne, List.pairwise_map]
    refine List.Pairwise.imp_of_mem (fun {a b} ha hb h => ?_) hp
    have := hr a ha; have := hr b hb; omega
  have h1 := sum_perm_le (fun _ => 1) n (l.map Int.toNat) hnd (fun b hb => by
    obtain ⟨t, ht, rfl⟩ := List.mem_map.1 hb
    have := hr t ht; omega)
  rw [sum_one, sum_one, List.length_map, List.length_range] at h1
  exact h1
def Small (s : Int × Int × Bool) : Prop := 0 ≤ s.1 ∧ s.1 ≤ 3 ∧ 0 ≤ s.2.1 ∧ s.2.1 ≤ 2
theorem small_ite {c : Prop} [Decidable c] {a b : Int × Int × Bool} (h1 : Small a) (h2 : Small b) : Small (if c then a else b) := by split <;> assumption
theorem small_mk (a c : Int) (b : Bool) (h : 0 ≤ a ∧ a ≤ 3 ∧ 0 ≤ c ∧ c ≤ 2) : Small (a, c, b) := h
theorem shape_small (f : Fn) (x : Ins) (h28 : x.op ≠ 28) : Small (shape f x) := by
  have h : ∀ b, Small (if 0 < f.ret then 1 else 0, 0, b) := fun b => by split <;> exact small_mk _ _ _ (by decide)
  unfold shape
  rw [if_neg h28]
  repeat' refine small_ite ?_ ?_
  all_goals (first | exact h _ | exact small_mk _ _ _ (by decide))
theorem ins_facts {f : Fn} (hv : Val f) {b : Nat} {l : List Ins} (hl : f.blocks[b]? = some l) {x : Ins} (hx : x ∈ l) :
    (x.op = 28 → x.args.length = x.to.length) ∧ (∀ z ∈ x.args, 0 ≤ z ∧ z < count f) ∧ (∀ z ∈ x.to, 0 ≤ z ∧ z < f.blocks.length) ∧ x.args.length ≤ 10 ∧ x.to.length ≤ 10 := by
  have hm := List.mem_of_getElem? hl
  have ha := (argument_iff f x).1 (hv.arg l hm x hx)
  have hc := (counts_iff _ _).1 ha.2.1
  obtain ⟨sz1, sz2, sz3, sz4, sz5⟩ := hv.size
  refine ⟨fun h => (phi_parts hv hl hx h).1, fun z hz => val_args hv hm hx hz, ha.2.2.1, ?_⟩
  by_cases h : x.op = 28
  · obtain ⟨p1, p2, p3, p4⟩ := phi_parts hv hl hx h
    have := asc_len f.blocks.length x.to p3 p4
    omega
  · obtain ⟨s1, s2, s3, s4⟩ := shape_small f x h
    have h1 := hc.1 s1
    have h2 := hc.2.2 s3
    omega
end Ref
end Go.Proofs.YtiadpjhlomhjeaaGreat

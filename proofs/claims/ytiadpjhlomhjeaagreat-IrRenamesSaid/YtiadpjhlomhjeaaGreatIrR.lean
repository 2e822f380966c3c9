/- The program's rules and ways against the document's: plain lists, no program in sight. -/
import Derived.Test.YtiadpjhlomhjeaaGreatIrQ
namespace Go.Proofs.YtiadpjhlomhjeaaGreat
open Go.RowKit

theorem itemsB_all2 (q : Ins → Nat → Bool) (l : List Ins) (n b : Nat) : (Ir.itemsB l n b).all (fun it => q it.ins it.blk) = l.all fun x => q x b := by
  have h : (Ir.itemsB l n b).map (fun it => (it.ins, it.blk)) = l.map fun x => (x, b) := by
    apply List.ext_getElem?
    intro i
    simp [Ir.itemsB]
    cases l[i]? <;> simp
  have h2 : (Ir.itemsB l n b).all (fun it => q it.ins it.blk) = ((Ir.itemsB l n b).map (fun it => (it.ins, it.blk))).all fun p => q p.1 p.2 := by rw [List.all_map]; rfl
  rw [h2, h, List.all_map]; rfl
/-- What the program asks of a Phi. -/
def Ir.phiOk (g : List (List Int)) (it : It) : Bool := decide (it.ins.op ≠ 28) || decide (Ref.before g it.blk = it.ins.to)
theorem phis_items (g : List (List Int)) : ∀ (bs : List (List Ins)) (n b : Nat), Ref.phisFrom g bs b = (Ir.itemsFrom bs n b).all (Ir.phiOk g)
  | [], _, _ => rfl
  | l :: r, n, b => by
    rw [Ir.itemsFrom, List.all_append, Ref.phisFrom, phis_items g r (n + l.length) (b + 1)]
    have := itemsB_all2 (fun x b => decide (x.op ≠ 28) || decide (Ref.before g b = x.to)) l n b
    unfold Ir.phiOk
    rw [this]
    congr 2
    funext x
    rw [Ref.sameInts_eq]
    congr 1
    exact decide_eq_decide.2 eq_comm
def Ir.isLaid (f : Fn) : Bool := f.blocks.all Ref.laid && (Ref.before (Ref.graph f) 0).isEmpty && (Ir.items f).all (Ir.phiOk (Ref.graph f))
theorem isLaid_eq (f : Fn) : Ir.isLaid f = Ref.rules f := by
  unfold Ir.isLaid Ref.rules Ir.items
  rw [phis_items]

/-- What the program asks of an instruction's Args. -/
def Ir.argsOk (f : Fn) (g : List (List Int)) (it : It) : Bool := !rb g it.blk || Ref.argsFrom f g (Ref.reached g (-1)) it.blk it.pos it.ins it.ins.args 0
theorem insFrom_items (f : Fn) (g : List (List Int)) (inn : List Bool) (b : Nat) : ∀ (l : List Ins) (n i : Nat),
    Ref.insFrom f g inn b l i = (l.mapIdx fun j x => (⟨x, n + j, b, i + j⟩ : It)).all fun it => Ref.argsFrom f g inn it.blk it.pos it.ins it.ins.args 0
  | [], _, _ => rfl
  | x :: r, n, i => by
    rw [Ref.insFrom, List.mapIdx_cons, List.all_cons, insFrom_items f g inn b r (n + 1) (i + 1)]
    congr 1
    congr 1
    apply List.ext_getElem?
    intro j
    simp only [List.getElem?_mapIdx]
    cases r[j]? with
    | none => rfl
    | some y => simp; omega
theorem blksFrom_items (f : Fn) (g : List (List Int)) : ∀ (bs : List (List Ins)) (n b : Nat), Ref.blksFrom f g (Ref.reached g (-1)) bs b = (Ir.itemsFrom bs n b).all (Ir.argsOk f g)
  | [], _, _ => rfl
  | l :: r, n, b => by
    rw [Ir.itemsFrom, List.all_append, Ref.blksFrom, blksFrom_items f g r (n + l.length) (b + 1)]
    congr 1
    rw [insFrom_items f g _ b l n 0]
    unfold Ir.itemsB
    have hb : ∀ it ∈ (l.mapIdx fun j x => (⟨x, n + j, b, j⟩ : It)), it.blk = b := by
      intro it hit
      obtain ⟨j, hj, e⟩ := List.mem_mapIdx.1 hit
      rw [← e]
    have hz : (l.mapIdx fun j x => (⟨x, n + j, b, 0 + j⟩ : It)) = l.mapIdx fun j x => (⟨x, n + j, b, j⟩ : It) := by simp
    rw [hz]
    generalize (l.mapIdx fun j x => (⟨x, n + j, b, j⟩ : It)) = L at hb ⊢
    induction L with
    | nil => simp
    | cons a t ih =>
      rw [List.all_cons, List.all_cons, ← ih fun it h => hb it (List.mem_cons_of_mem _ h)]
      unfold Ir.argsOk rb
      rw [hb a (List.mem_cons_self ..)]
      cases (Ref.reached g (-1)).getD b false <;> simp
theorem stated_eq (f : Fn) : (Ir.items f).all (Ir.argsOk f (Ref.graph f)) = Ref.stated f := by
  unfold Ref.stated Ir.items
  rw [blksFrom_items]

/-- What the program's isThere answers. -/
def Ir.isThere (f : Fn) (g : List (List Int)) (v block place : Int) : Bool :=
  if v < f.params.length then true else if (Ref.whereIs f v).1 = block then decide ((Ref.whereIs f v).2 < place) else Ref.dominates g (Ref.whereIs f v).1 block
theorem isThere_pos (f : Fn) (g : List (List Int)) (v block place : Int) (h1 : v < Ref.count f) (h2 : 0 ≤ place) : Ir.isThere f g v block place = Ref.there f g v block place := by
  unfold Ir.isThere Ref.there
  by_cases h : v < f.params.length
  · rw [if_pos h, Ref.whereIs, Ref.whereFrom_none v _ _ _ h, if_pos (by decide)]
  · obtain ⟨j, i, l, x, e, -⟩ := Ref.whereIs_some f v (by omega) h1
    rw [if_neg h, e, if_neg (show ¬ (j : Int) < 0 by omega)]
    by_cases hb : (j : Int) = block
    · simp only [hb, if_true, show decide (place < 0) = false by simp; omega, Bool.false_or]
    · simp only [hb, if_false]
theorem isThere_end (f : Fn) (g : List (List Int)) (v : Int) (t : Nat) (l : List Ins) (hl : f.blocks[t]? = some l) (h1 : v < Ref.count f) : Ir.isThere f g v t l.length = Ref.there f g v t (-1) := by
  unfold Ir.isThere Ref.there
  by_cases h : v < f.params.length
  · rw [if_pos h, Ref.whereIs, Ref.whereFrom_none v _ _ _ h, if_pos (by decide)]
  · obtain ⟨j, i, l', x, e, e2, e3, -⟩ := Ref.whereIs_some f v (by omega) h1
    rw [if_neg h, e, if_neg (show ¬ (j : Int) < 0 by omega)]
    by_cases hb : (j : Int) = t
    · have : j = t := by omega
      subst this
      rw [hl] at e2; cases e2
      have := (List.getElem?_eq_some_iff.1 e3).1
      simp [this]
    · simp only [hb, if_false]
end Go.Proofs.YtiadpjhlomhjeaaGreat

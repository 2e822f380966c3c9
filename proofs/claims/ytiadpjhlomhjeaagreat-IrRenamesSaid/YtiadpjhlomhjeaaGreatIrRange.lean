/- 'for x := range all(f)': one law for every caller. -/
import Derived.Test.YtiadpjhlomhjeaaGreatIrV
namespace Go.Proofs.YtiadpjhlomhjeaaGreat
open Go.RowKit Go.Shelf

attribute [local go_sem] Oper.semAt_some

/-- The value of an instruction with its number, block and place, and the cells of the box in which it is laid. -/
def encV (it : It) (aa ta : Option Addr) (ca ct : Nat) : Value := .agg #[.int .i64 it.ins.op, .int .i64 it.ins.width, .int .i64 it.ins.flags, .slice aa it.ins.args.length ca, .int .u32 it.ins.imm, .slice ta it.ins.to.length ct, .int .i64 it.num, .int .i64 it.blk, .int .i64 it.pos]
def rowV (it : It) (aa ta : Option Addr) (ca ct : Nat) : Array Value := #[.int .i64 it.ins.op, .int .i64 it.ins.width, .int .i64 it.ins.flags, .slice aa it.ins.args.length ca, .int .u32 it.ins.imm, .slice ta it.ins.to.length ct, .int .i64 it.num, .int .i64 it.blk, .int .i64 it.pos]

theorem range_all {g p q : Nat} {assign body : Code} {Q : Exit → Act → World → Prop} {a : Act} {w W0 : World} {f : Fn} {Bf : Nat} {vp vs vb : Value}
    (hg : a.eval (.tmp g) = .func (.func 52) #[] #[.pointer (some ⟨Bf, 0, none⟩)])
    (hf : FnAt w.heap.size w (.agg #[vp, .int .i64 f.ret, vs, vb]) f) (hgw : Gr w W0) (hs : f.blocks.length ≤ 100000) (hBf : Bf < W0.heap.size) (c0 : W0.cell? ⟨Bf, 0, none⟩ = some vp) (c3 : W0.cell? ⟨Bf, 3, none⟩ = some vb)
    (I : List It → World → Prop) (Ix : Code → List It → World → Prop) (hI : OwnFrom W0.heap.size I) (hIx : ∀ c, OwnFrom W0.heap.size (Ix c)) (hIw : ∀ pre W, I pre W → W0.heap.size ≤ W.heap.size) (h0 : I [] W0)
    (hassign : ∀ (l : Nat) (it : It) (aa ta : Option Addr) (ca ct : Nat) (W : World) (K : Act → World → Prop), K { tmps := (a.tmps.setIfInBounds p (encV it aa ta ca ct)).setIfInBounds q (.pointer (some ⟨W.heap.size, 0, none⟩)), defers := [] } (W.alloc (.cells (rowV it aa ta ca ct) 57)) →
      assign.wpIn (Fence.wide.inRound l) 3 Tryz.prog (Exit.then K (fun _ _ _ => False)) { tmps := a.tmps.setIfInBounds p (encV it aa ta ca ct), defers := [] } W)
    (hbody : ∀ (l : Nat) (pre : List It) (it : It) (aa ta : Option Addr) (ca ct : Nat) (W : World) (Bx : Nat), I pre W → IntsAt w.heap.size w (.slice aa it.ins.args.length ca) it.ins.args → IntsAt w.heap.size w (.slice ta it.ins.to.length ct) it.ins.to → it ∈ Ir.items f → pre.length < (Ir.items f).length + 1 →
      W0.heap.size ≤ Bx → W.heap[Bx]? = some (.cells (rowV it aa ta ca ct) 57 (0, 0)) →
      body.wpIn (Fence.wide.inRound l) 3 Tryz.prog (ownPostG W0.heap.size (Below w.heap.size) I Ix (pre ++ [it]) W) { tmps := (a.tmps.setIfInBounds p (encV it aa ta ca ct)).setIfInBounds q (.pointer (some ⟨Bx, 0, none⟩)), defers := [] } W)
    (hdone : ∀ (D : Nat) (W : World), W0.heap.size ≤ D → I (Ir.items f) W → W.heap[D]? = some (.deferred (some [])) → Q .normal { a with defers := { target := .collected D, args := #[] } :: a.defers } W)
    (hstop : ∀ (D : Nat) (c : Code) (pre : List It) (W : World), W0.heap.size ≤ D → pre <+: Ir.items f → Ix c pre W → W.heap[D]? = some (.deferred (some [])) → c.wp Tryz.prog Q { a with defers := { target := .collected D, args := #[] } :: a.defers } W) :
    (Code.rangeFunc (.tmp g) #[p] assign body).wp Tryz.prog Q a W0 := by
  have hsz := hgw.size
  have HS := all_stops (5 - 1) (by omega) Bf w.heap.size f vp vs vb w W0 hf (Nat.le_refl _) hgw hs hBf c0 c3
  refine (wpIn_wide (n := 5)).1 ?_
  refine wpIn_rangeFunc_ownH (n := 5) rfl (by omega) (gf := 52) (lb := #[.pointer (some ⟨Bf, 0, none⟩)]) hg trivial (enters_of Tryz.func52 (by kernel_rfl) rfl) HS belowK_t (belowK_b hsz) (Below.refl _ _) (fun _ => rfl)
    (fun pre W => I (prj pre) W) (fun c pre W => Ix c (prj pre) W) (fun s => hI (prj s)) (fun c s => hIx c (prj s)) h0
    (fun x a' W => ∃ Bx, W0.heap.size ≤ Bx ∧ W.heap[Bx]? = some (.cells (rowV x.1.it x.1.aa x.1.ta x.1.ca x.1.ct) 57 (0, 0)) ∧ a' = { tmps := (a.tmps.setIfInBounds p (encV x.1.it x.1.aa x.1.ta x.1.ca x.1.ct)).setIfInBounds q (.pointer (some ⟨Bx, 0, none⟩)), defers := [] })
    ?hAx ?assign ?body ?done ?stop
  case hAx =>
    intro x a' s X Y row h hg hr
    obtain ⟨Bx, h1, h2, h3⟩ := h
    refine ⟨Bx, h1, (hg.block Bx (Array.getElem?_eq_some_iff.1 h2).1 (fun e => ?_)).trans h2, h3⟩
    obtain ⟨-, o, ho, hc⟩ := hr Bx e.symm
    rw [h2] at ho; cases ho; cases hc
  case assign =>
    rintro l pre ⟨⟨it, aa, ca, ta, ct⟩, hgood⟩ W K hi hK
    have e : Array.foldl (fun (t : Array Value) (x : Nat × Value) => t.setIfInBounds x.1 x.2) a.tmps ((#[p] : Array Nat).zip #[encV it aa ta ca ct]) = a.tmps.setIfInBounds p (encV it aa ta ca ct) := by simp
    show Code.wpIn _ _ _ _ _ { tmps := Array.foldl (fun (t : Array Value) (x : Nat × Value) => t.setIfInBounds x.1 x.2) a.tmps ((#[p] : Array Nat).zip #[encV it aa ta ca ct]), defers := [] } W
    rw [e]
    refine hassign l it aa ta ca ct W K ?_
    have hwl := hIw _ _ hi
    exact hK _ _ ((KeepsOthers.alloc _ _).from _) ((Below.refl _ W).alloc (by omega) _) (hI.alloc _ hi) ⟨W.heap.size, hwl, heap_alloc_new W _, rfl⟩
  case body =>
    rintro l pre ⟨⟨it, aa, ca, ta, ct⟩, hgood⟩ a' W hl hr0 hi ⟨Bx, hBx, hrow, rfl⟩ hlt
    obtain ⟨g1, g2, g3⟩ := hgood
    refine wpIn_mono (hbody l (prj pre) it aa ta ca ct W Bx hi g1 g2 g3 (by rw [show (prj pre).length = pre.length by simp [prj]]; exact hlt) hBx hrow) ?_
    intro e a' W' h
    have e1 : prj (pre ++ [⟨⟨it, aa, ca, ta, ct⟩, g1, g2, g3⟩]) = prj pre ++ [it] := prj_snoc _ _
    cases e <;> simp only [ownPostG, e1] at h ⊢ <;> exact h
  case done =>
    intro D ys W hD hys hi hK
    rw [hys] at hi
    exact hdone D W hD hi hK
  case stop =>
    intro D c pre W hD hpre hi hK
    exact wpIn_wide.2 (hstop D c (prj pre) W hD hpre hi hK)

theorem ownFrom_gr {β : Type} (W0 : World) : OwnFrom W0.heap.size (fun (_ : β) W => Gr W0 W) := ownFrom_below (Nat.le_refl _) (Nat.le_refl _)
end Go.Proofs.YtiadpjhlomhjeaaGreat

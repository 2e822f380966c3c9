/- backstayref03.Same: which functions are equal. Printed by mkz.py. -/
import Derived.Test.YtiadpjhlomhjeaaGreatIrY
import Derived.Test.YtiadpjhlomhjeaaGreatRefA
import Derived.Test.YtiadpjhlomhjeaaGreatIrLast
namespace Go.Proofs.YtiadpjhlomhjeaaGreat
open Go.RowKit

theorem ins_eq (x y : Ins) : decide (x = y) = ((x.op == y.op) && (x.width == y.width) && (x.flags == y.flags) && (x.imm == y.imm) && decide (x.args = y.args) && decide (x.to = y.to)) := by
  obtain ⟨a, b, c, d, e, f⟩ := x
  obtain ⟨a', b', c', d', e', f'⟩ := y
  rw [Bool.eq_iff_iff]
  simp only [decide_eq_true_eq, Bool.and_eq_true, beq_iff_eq, Ins.mk.injEq]
  constructor
  · rintro ⟨h1, h2, h3, h4, h5, h6⟩; exact ⟨⟨⟨⟨⟨h1, h2⟩, h3⟩, h5⟩, h4⟩, h6⟩
  · rintro ⟨⟨⟨⟨⟨h1, h2⟩, h3⟩, h5⟩, h4⟩, h6⟩; exact ⟨h1, h2, h3, h4, h5, h6⟩

set_option maxRecDepth 100000 in
set_option maxHeartbeats 8000000 in
theorem SameInst_any (x y : Ins) (vx vy : Value) (w : World) (hx : InsV w.heap.size w vx x) (hy : InsV w.heap.size w vy y) :
    Calls Tryz.prog 22 #[vx, vy] w fun e w' => e = .returned (.bool (decide (x = y))) ∧ Gr w w' := by
  obtain ⟨va, vt, rfl, hxa, hxt⟩ := hx
  obtain ⟨ua, ut, rfl, hya, hyt⟩ := hy
  have HQ1 : Hid (∀ w1, Gr w w1 → Calls Tryz.prog 21 #[va, ua] w1 fun e w' => e = .returned (.bool (decide (x.args = y.args))) ∧ Gr w1 w') := fun w1 q => SameInts_any va ua _ _ w1 (hxa.gr q) (hya.gr q)
  have HQ2 : Hid (∀ w1, Gr w w1 → Calls Tryz.prog 21 #[vt, ut] w1 fun e w' => e = .returned (.bool (decide (x.to = y.to))) ∧ Gr w1 w') := fun w1 q => SameInts_any vt ut _ _ w1 (hxt.gr q) (hyt.gr q)
  have HE := Lib.hid (ins_eq x y)
  obtain ⟨Aa, ca, rfl, -, -, -⟩ := hxa
  obtain ⟨At, ct, rfl, -, -, -⟩ := hxt
  obtain ⟨Da, da, rfl, -, -, -⟩ := hya
  obtain ⟨Dt, dt, rfl, -, -, -⟩ := hyt
  obtain ⟨W, hW⟩ : ∃ W, (w.alloc (.cells #[.int .i64 x.op, .int .i64 x.width, .int .i64 x.flags, .slice Aa x.args.length ca, .int .u32 x.imm, .slice At x.to.length ct] 38)).alloc (.cells #[.int .i64 y.op, .int .i64 y.width, .int .i64 y.flags, .slice Da y.args.length da, .int .u32 y.imm, .slice Dt y.to.length dt] 38) = W := ⟨_, rfl⟩
  have hB0 : Gr w W := by rw [← hW]; exact ((Gr.refl w).alloc _).alloc _
  have hWs : W.heap.size = w.heap.size + 2 := by rw [← hW]; simp
  have B1 : Hid (∀ w' o, Gr W w' → w'.cell? ⟨w.heap.size, o, none⟩ = (#[.int .i64 x.op, .int .i64 x.width, .int .i64 x.flags, .slice Aa x.args.length ca, .int .u32 x.imm, .slice At x.to.length ct] : Array Value)[o]?) := by
    intro w' o g
    refine (g.cell w.heap.size o (by omega)).trans ?_
    rw [← hW]
    exact (((Gr.refl _).alloc _).cell w.heap.size o (by simp)).trans (cell_of_row _ _ _ _ _ _ (heap_alloc_new w _))
  have B2 : Hid (∀ w' o, Gr W w' → w'.cell? ⟨w.heap.size + 1, o, none⟩ = (#[.int .i64 y.op, .int .i64 y.width, .int .i64 y.flags, .slice Da y.args.length da, .int .u32 y.imm, .slice Dt y.to.length dt] : Array Value)[o]?) := by
    intro w' o g
    refine (g.cell (w.heap.size + 1) o (by omega)).trans ?_
    rw [← hW]
    exact cell_of_row _ _ _ _ _ _ (heap_alloc2_new w _ _)
  have KK : Hid (∀ w', Gr W w' → (w'.cell? ⟨w.heap.size, 0, none⟩ = some (.int .i64 x.op) ∧ w'.cell? ⟨w.heap.size, 1, none⟩ = some (.int .i64 x.width) ∧ w'.cell? ⟨w.heap.size, 2, none⟩ = some (.int .i64 x.flags) ∧ w'.cell? ⟨w.heap.size, 3, none⟩ = some (.slice Aa x.args.length ca) ∧ w'.cell? ⟨w.heap.size, 4, none⟩ = some (.int .u32 x.imm) ∧ w'.cell? ⟨w.heap.size, 5, none⟩ = some (.slice At x.to.length ct)) ∧
      (w'.cell? ⟨w.heap.size + 1, 0, none⟩ = some (.int .i64 y.op) ∧ w'.cell? ⟨w.heap.size + 1, 1, none⟩ = some (.int .i64 y.width) ∧ w'.cell? ⟨w.heap.size + 1, 2, none⟩ = some (.int .i64 y.flags) ∧ w'.cell? ⟨w.heap.size + 1, 3, none⟩ = some (.slice Da y.args.length da) ∧ w'.cell? ⟨w.heap.size + 1, 4, none⟩ = some (.int .u32 y.imm) ∧ w'.cell? ⟨w.heap.size + 1, 5, none⟩ = some (.slice Dt y.to.length dt))) :=
    fun w' g => ⟨⟨B1.out _ 0 g, B1.out _ 1 g, B1.out _ 2 g, B1.out _ 3 g, B1.out _ 4 g, B1.out _ 5 g⟩, ⟨B2.out _ 0 g, B2.out _ 1 g, B2.out _ 2 g, B2.out _ 3 g, B2.out _ 4 g, B2.out _ 5 g⟩⟩
  obtain ⟨⟨c0, c1, c2, c3, c4, c5⟩, ⟨d0, d1, d2, d3, d4, d5⟩⟩ := KK.out W (Gr.refl _)
  obtain ⟨b1, h1⟩ : ∃ b, (x.op == y.op) = b := ⟨_, rfl⟩
  obtain ⟨b2, h2⟩ : ∃ b, (x.width == y.width) = b := ⟨_, rfl⟩
  obtain ⟨b3, h3⟩ : ∃ b, (x.flags == y.flags) = b := ⟨_, rfl⟩
  obtain ⟨b4, h4⟩ : ∃ b, (x.imm == y.imm) = b := ⟨_, rfl⟩
  obtain ⟨b5, h5⟩ : ∃ b, decide (x.args = y.args) = b := ⟨_, rfl⟩
  obtain ⟨b6, h6⟩ : ∃ b, decide (x.to = y.to) = b := ⟨_, rfl⟩
  rw [h1, h2, h3, h4, h5, h6] at HE
  rw [h5] at HQ1
  rw [h6] at HQ2
  clear h5 h6 B1 B2
  unfold insVal
  rcases (by cases b1 <;> cases b2 <;> cases b3 <;> simp : b1 = false ∨ (b1 = true ∧ b2 = false) ∨ (b1 = true ∧ b2 = true ∧ b3 = false) ∨ (b1 = true ∧ b2 = true ∧ b3 = true)) with rfl | ⟨rfl, rfl⟩ | ⟨rfl, rfl, rfl⟩ | ⟨rfl, rfl, rfl⟩
  rotate_right 1
  · rcases (by cases b4 <;> cases b5 <;> simp : (b4 = false ∧ b5 = false) ∨ (b4 = false ∧ b5 = true) ∨ (b4 = true ∧ b5 = false) ∨ (b4 = true ∧ b5 = true)) with ⟨rfl, rfl⟩ | ⟨rfl, rfl⟩ | ⟨rfl, rfl⟩ | ⟨rfl, rfl⟩
    all_goals
      go_enter Tryz.func22, Tryz.ntmps22
      go_wp2_with (first
        | (go_at_call 21; with_reducible refine (HQ1.out _ hB0).mono ?_; rintro e w1 ⟨rfl, g1⟩; obtain ⟨⟨k0, k1, k2, k3, k4, k5⟩, ⟨m0, m1, m2, m3, m4, m5⟩⟩ := KK.out _ g1)
        | (go_at_call 21; with_reducible refine (HQ2.out _ (hB0.trans g1)).mono ?_; rintro e w2 ⟨rfl, g2⟩))
      go_ret
      first
        | exact ⟨ret_bool (by rw [HE.out]; simp), hB0.trans (g1.trans g2)⟩
        | exact ⟨ret_bool (by rw [HE.out]; simp), hB0.trans g1⟩
        | exact ⟨ret_bool (by rw [HE.out]; simp), hB0⟩
  all_goals
    go_enter Tryz.func22, Tryz.ntmps22
    go_wp2
    go_ret
    exact ⟨ret_bool (by rw [HE.out]; simp), hB0⟩

end Go.Proofs.YtiadpjhlomhjeaaGreat

namespace Go.Proofs.YtiadpjhlomhjeaaGreat
theorem take_step {α : Type} [DecidableEq α] {a b : List α} {k : Nat} {x y : α} (h : a.take k = b.take k) (hx : a[k]? = some x) (hy : b[k]? = some y) (e : x = y) : a.take (k + 1) = b.take (k + 1) := by
  rw [List.take_add_one, List.take_add_one, h, hx, hy, e]
theorem ne_step {α : Type} {a b : List α} {k : Nat} {x y : α} (hx : a[k]? = some x) (hy : b[k]? = some y) (e : x ≠ y) : a ≠ b := by
  intro h; rw [h, hy] at hx; exact e (Option.some.inj hx).symm
theorem take_end {α : Type} {a b : List α} (h : a.take a.length = b.take a.length) (hl : a.length = b.length) : a = b := by
  rwa [List.take_length, hl, List.take_length] at h
end Go.Proofs.YtiadpjhlomhjeaaGreat

namespace Go.Proofs.YtiadpjhlomhjeaaGreat
open Go.RowKit

/-- ONE WALK IN THE ORDER OF THE TEXT, for operations that yield the same in every world that has grown from this one. -/
theorem wp_region_quietGr {P : Program} {id : Nat} {Q : Exit → Act → World → Prop} {a : Act} {w : World} {l : List Oper} (hm : P.follows .mixedOrders = true) (hB : Region.lexB .any l.toArray = true)
    (h : wpQuiet P l.toArray (fun w' => ∃ u : GrW w, w' = u.val) (fun a' => ∀ w', (∃ u : GrW w, w' = u.val) → Q .normal a' w') l a) : (Code.region id l.toArray true).wp P Q a w :=
  wp_region_quiet (C := fun w' => ∃ u : GrW w, w' = u.val) hm hB ⟨⟨w.drew, (Gr.refl w).drew⟩, rfl⟩ (by simpa using h)
instance (w : World) : Nonempty (GrW w) := ⟨⟨w, Gr.refl w⟩⟩
theorem grW_call {P : Program} {f : FuncId} {args : Array Value} {w : World} {v : Value} (u : GrW w)
    (h : Calls P f args u.val fun e w' => e = .returned v ∧ Gr u.val w') : Calls P f args u.val fun e w'' => e = .returned v ∧ ∃ u' : GrW w, w'' = u'.val :=
  h.mono fun _ w' ⟨he, hm⟩ => ⟨he, ⟨w', u.gr.trans hm⟩, rfl⟩

theorem fn_eq (f g : Fn) : decide (f = g) = (decide (f.params = g.params) && (f.ret == g.ret) && decide (f.slots = g.slots) && decide (f.blocks = g.blocks)) := by
  obtain ⟨a, b, c, d⟩ := f
  obtain ⟨a', b', c', d'⟩ := g
  rw [Bool.eq_iff_iff]
  simp only [decide_eq_true_eq, Bool.and_eq_true, beq_iff_eq, Fn.mk.injEq]
  constructor
  · rintro ⟨h1, h2, h3, h4⟩; exact ⟨⟨⟨h1, h2⟩, h3⟩, h4⟩
  · rintro ⟨⟨⟨h1, h2⟩, h3⟩, h4⟩; exact ⟨h1, h2, h3, h4⟩

/-- The four cells of a function's box. -/
abbrev FBox (B : Nat) (w : World) (f : Fn) (Ap As Ab : Option Addr) (cp cs cb : Nat) : Prop :=
  w.cell? ⟨B, 0, none⟩ = some (.slice Ap f.params.length cp) ∧ w.cell? ⟨B, 1, none⟩ = some (.int .i64 f.ret) ∧ w.cell? ⟨B, 2, none⟩ = some (.slice As f.slots.length cs) ∧ w.cell? ⟨B, 3, none⟩ = some (.slice Ab f.blocks.length cb)
theorem FBox.gr {B : Nat} {w w' : World} {f : Fn} {Ap As Ab : Option Addr} {cp cs cb : Nat} (h : FBox B w f Ap As Ab cp cs cb) (hB : B < w.heap.size) (q : Gr w w') : FBox B w' f Ap As Ab cp cs cb :=
  ⟨(q.cell _ _ hB).trans h.1, (q.cell _ _ hB).trans h.2.1, (q.cell _ _ hB).trans h.2.2.1, (q.cell _ _ hB).trans h.2.2.2⟩
theorem FBox.new {B : Nat} {V W : World} {f : Fn} {Ap As Ab : Option Addr} {cp cs cb : Nat} (g : Gr (V.alloc (.cells #[.slice Ap f.params.length cp, .int .i64 f.ret, .slice As f.slots.length cs, .slice Ab f.blocks.length cb] 25)) W) (hB : V.heap.size = B) : FBox B W f Ap As Ab cp cs cb :=
  ⟨cell_box _ _ 0 g hB, cell_box _ _ 1 g hB, cell_box _ _ 2 g hB, cell_box _ _ 3 g hB⟩

end Go.Proofs.YtiadpjhlomhjeaaGreat

namespace Go.Proofs.YtiadpjhlomhjeaaGreat
open Go.RowKit

set_option maxRecDepth 100000 in
set_option maxHeartbeats 16000000 in
theorem rSame_any (vf vg : Value) (f g : Fn) (w : World) (hf : FnAt w.heap.size w vf f) (hg : FnAt w.heap.size w vg g) :
    Calls Tryz.prog 9 #[vf, vg] w fun e w' => e = .returned (.bool (decide (f = g))) ∧ Gr w w' := by
  obtain ⟨vp, vs, vb, rfl, hp, hsl, hb⟩ := hf
  obtain ⟨up, us, ub, rfl, gp, gsl, gb⟩ := hg
  have HQ1 : Hid (∀ w1, Gr w w1 → Calls Tryz.prog 21 #[vp, up] w1 fun e w' => e = .returned (.bool (decide (f.params = g.params))) ∧ Gr w1 w') := fun w1 q => SameInts_any vp up _ _ w1 (hp.gr q) (gp.gr q)
  have HQ2 : Hid (∀ w1, Gr w w1 → Calls Tryz.prog 21 #[vs, us] w1 fun e w' => e = .returned (.bool (decide (f.slots = g.slots))) ∧ Gr w1 w') := fun w1 q => SameInts_any vs us _ _ w1 (hsl.gr q) (gsl.gr q)
  have HE := Lib.hid (fn_eq f g)
  obtain ⟨Ap, cp, rfl, -, -, -⟩ := hp
  obtain ⟨As, cs, rfl, -, -, -⟩ := hsl
  obtain ⟨Ab, cb, rfl, -, hb2, hb3⟩ := hb
  obtain ⟨Dp, dp, rfl, -, -, -⟩ := gp
  obtain ⟨Ds, ds, rfl, -, -, -⟩ := gsl
  obtain ⟨Db, db, rfl, -, gb2, gb3⟩ := gb
  have H3 : Hid (0 < f.blocks.length → ∃ b off, Ab = some ⟨b, off, none⟩ ∧ b < w.heap.size ∧ ∀ j l, f.blocks[j]? = some l → ∃ u, w.cell? ⟨b, off + j, none⟩ = some u ∧ BlkAt w.heap.size w u l) := hb3
  have J3 : Hid (0 < g.blocks.length → ∃ b off, Db = some ⟨b, off, none⟩ ∧ b < w.heap.size ∧ ∀ j l, g.blocks[j]? = some l → ∃ u, w.cell? ⟨b, off + j, none⟩ = some u ∧ BlkAt w.heap.size w u l) := gb3
  clear hb3 gb3
  obtain ⟨W, hW⟩ : ∃ W, (w.alloc (.cells #[.slice Ap f.params.length cp, .int .i64 f.ret, .slice As f.slots.length cs, .slice Ab f.blocks.length cb] 25)).alloc (.cells #[.slice Dp g.params.length dp, .int .i64 g.ret, .slice Ds g.slots.length ds, .slice Db g.blocks.length db] 25) = W := ⟨_, rfl⟩
  have hB0 : Gr w W := by rw [← hW]; exact ((Gr.refl w).alloc _).alloc _
  have hWs : W.heap.size = w.heap.size + 2 := by rw [← hW]; simp
  have B0 : Hid (∀ w', Gr W w' → FBox w.heap.size w' f Ap As Ab cp cs cb ∧ FBox (w.heap.size + 1) w' g Dp Ds Db dp ds db) := by
    intro w' q
    refine ⟨(FBox.new (V := w) (by rw [← hW]; exact (Gr.refl _).alloc _) rfl).gr (by omega) q, (FBox.new (V := w.alloc _) (by rw [hW]; exact Gr.refl _) (by simp)).gr (by omega) q⟩
  obtain ⟨⟨c0, c1, c2, c3⟩, ⟨d0, d1, d2, d3⟩⟩ := B0.out W (Gr.refl _)
  obtain ⟨b1, h1⟩ : ∃ b, decide (f.params = g.params) = b := ⟨_, rfl⟩
  obtain ⟨b2, h2⟩ : ∃ b, (f.ret == g.ret) = b := ⟨_, rfl⟩
  obtain ⟨b2', h2'⟩ : ∃ b, (f.ret != g.ret) = b := ⟨_, rfl⟩
  have e2 : b2' = !b2 := by rw [← h2, ← h2']; rfl
  obtain ⟨b3, h3⟩ : ∃ b, decide (f.slots = g.slots) = b := ⟨_, rfl⟩
  rw [h1, h2, h3] at HE
  rw [h1] at HQ1
  rw [h3] at HQ2
  clear h1 h3
  cases b1 with
  | false =>
    go_enter Tryz.func9, Tryz.ntmps9
    go_wp2_with (go_at_call 21; with_reducible refine (HQ1.out _ hB0).mono ?_; rintro e w1 ⟨rfl, g1⟩; obtain ⟨⟨k0, k1, k2, k3⟩, ⟨m0, m1, m2, m3⟩⟩ := B0.out _ g1)
    go_ret
    exact ⟨ret_bool (by rw [HE.out]; simp), hB0.trans g1⟩
  | true =>
    cases b2 with
    | false =>
      subst e2
      go_enter Tryz.func9, Tryz.ntmps9
      go_wp2_with (go_at_call 21; with_reducible refine (HQ1.out _ hB0).mono ?_; rintro e w1 ⟨rfl, g1⟩; obtain ⟨⟨k0, k1, k2, k3⟩, ⟨m0, m1, m2, m3⟩⟩ := B0.out _ g1)
      go_ret
      exact ⟨ret_bool (by rw [HE.out]; simp), hB0.trans g1⟩
    | true =>
      subst e2
      cases b3 with
      | false =>
        go_enter Tryz.func9, Tryz.ntmps9
        go_wp2_with (first
          | (go_at_call 21; with_reducible refine (HQ1.out _ hB0).mono ?_; rintro e w1 ⟨rfl, g1⟩; obtain ⟨⟨k0, k1, k2, k3⟩, ⟨m0, m1, m2, m3⟩⟩ := B0.out _ g1)
          | (go_at_call 21; with_reducible refine (HQ2.out _ (hB0.trans g1)).mono ?_; rintro e w2 ⟨rfl, g2⟩; have q2 := g1.trans g2; obtain ⟨⟨i0, i1, i2, i3⟩, ⟨j0, j1, j2, j3⟩⟩ := B0.out _ q2))
        go_ret
        exact ⟨ret_bool (by rw [HE.out]; simp), hB0.trans q2⟩
      | true =>
        have HE2 : Hid (decide (f = g) = decide (f.blocks = g.blocks)) := by show _ = _; rw [HE.out]; simp
        clear HE
        by_cases hlen : f.blocks.length = g.blocks.length
        · have hl1 : ((f.blocks.length : Int) != (g.blocks.length : Int)) = false := by rw [hlen]; simp
          have HL : Hid (f.blocks.length = g.blocks.length) := hlen
          clear hlen
          go_enter Tryz.func9, Tryz.ntmps9
          go_wp2_with (first
            | (go_at_call 21; with_reducible refine (HQ1.out _ hB0).mono ?_; rintro e w1 ⟨rfl, g1⟩; obtain ⟨⟨k0, k1, k2, k3⟩, ⟨m0, m1, m2, m3⟩⟩ := B0.out _ g1)
            | (go_at_call 21; with_reducible refine (HQ2.out _ (hB0.trans g1)).mono ?_; rintro e w2 ⟨rfl, g2⟩; have q2 := g1.trans g2; obtain ⟨⟨i0, i1, i2, i3⟩, ⟨j0, j1, j2, j3⟩⟩ := B0.out _ q2))
          clear c0 c1 c2 c3 d0 d1 d2 d3 k0 k1 k2 k3 m0 m1 m2 m3 i0 i1 i2 i3 j0 j1 j2 j3
          go_loopw [5, 6] (fun i _ wr => ∃ k : Nat, k ≤ f.blocks.length ∧ i = .int .i64 k ∧ Hid (f.blocks.take k = g.blocks.take k) ∧ Gr W wr) (fun i _ _ => f.blocks.length - (intOf i).toNat)
          case atStart => exact ⟨0, Nat.zero_le _, rfl, rfl, q2⟩
          case round =>
            obtain ⟨k, hk, rfl, hrest, hgr⟩ := hrel
            obtain ⟨⟨-, -, -, c3⟩, ⟨-, -, -, d3⟩⟩ := B0.out _ hgr
            by_cases hlt : k < f.blocks.length
            · have hltb : k < g.blocks.length := by have := HL.out; omega
              obtain ⟨ba, oa, rfl, hba, hca⟩ := H3.out (by omega)
              obtain ⟨bb, ob, rfl, hbb, hcb⟩ := J3.out (by omega)
              obtain ⟨l, hl⟩ : ∃ x, f.blocks[k]? = some x := ⟨_, List.getElem?_eq_getElem hlt⟩
              obtain ⟨m, hm⟩ : ∃ x, g.blocks[k]? = some x := ⟨_, List.getElem?_eq_getElem hltb⟩
              obtain ⟨u1, x1, i1⟩ := hca k l hl
              obtain ⟨u2, x2, i2⟩ := hcb k m hm
              obtain ⟨Al, al, rfl, -, hl40, I3⟩ := i1
              obtain ⟨Bl, bl, rfl, -, hm40, K3⟩ := i2
              have I4 : Hid (0 < l.length → ∃ b off, Al = some ⟨b, off, none⟩ ∧ b < w.heap.size ∧ ∀ j x, l[j]? = some x → InsAt w.heap.size w b (off + j * 6) x) := I3
              have K4 : Hid (0 < m.length → ∃ b off, Bl = some ⟨b, off, none⟩ ∧ b < w.heap.size ∧ ∀ j x, m[j]? = some x → InsAt w.heap.size w b (off + j * 6) x) := K3
              have U12 : Hid (∀ w', Gr W w' → w'.cell? ⟨ba, oa + k, none⟩ = some (.slice Al l.length al) ∧ w'.cell? ⟨bb, ob + k, none⟩ = some (.slice Bl m.length bl)) := fun w' q => ⟨((hB0.trans q).cell _ _ hba).trans x1, ((hB0.trans q).cell _ _ hbb).trans x2⟩
              have HX := Lib.hid hl
              have HY := Lib.hid hm
              have z1 : (0 : Int) ≤ (k : Int) := by omega
              have z2 : (k : Int) < (f.blocks.length : Int) := by omega
              have z3 : (k : Int) < (g.blocks.length : Int) := by omega
              obtain ⟨y1, y2⟩ := U12.out _ hgr
              clear hl hm hca hcb hlt hltb x1 x2 I3 K3
              by_cases hlm : l.length = m.length
              · have hl2 : ((l.length : Int) != (m.length : Int)) = false := by rw [hlm]; simp
                have HLM : Hid (l.length = m.length) := hlm
                clear hlm
                go_wp2
                go_quiet (fail)
                go_wp2
                go_loopw [6] (fun i wr => ∃ j : Nat, j ≤ l.length ∧ i = .int .i64 j ∧ Hid (l.take j = m.take j) ∧ Gr W wr) (fun i _ => l.length - (intOf i).toNat)
                case atStart => exact ⟨0, Nat.zero_le _, rfl, rfl, hgr.drewN _⟩
                case round =>
                  obtain ⟨j, hj, rfl, hrest2, hgr2⟩ := hrel
                  obtain ⟨⟨-, -, -, c3⟩, ⟨-, -, -, d3⟩⟩ := B0.out _ hgr2
                  obtain ⟨y1, y2⟩ := U12.out _ hgr2
                  by_cases hlt2 : j < l.length
                  · have hltb2 : j < m.length := by have := HLM.out; omega
                    obtain ⟨pa, qa, rfl, hpa, hpca⟩ := I4.out (by omega)
                    obtain ⟨pb, qb, rfl, hpb, hpcb⟩ := K4.out (by omega)
                    obtain ⟨x, hx⟩ : ∃ x, l[j]? = some x := ⟨_, List.getElem?_eq_getElem hlt2⟩
                    obtain ⟨y, hy⟩ : ∃ x, m[j]? = some x := ⟨_, List.getElem?_eq_getElem hltb2⟩
                    obtain ⟨va, vt, a0, a1, a2, a3, a4, a5, hxa, hxt⟩ := hpca j x hx
                    obtain ⟨ua, ut, e0, e1, e2, e3, e4, e5, hya, hyt⟩ := hpcb j y hy
                    have HC : Hid (∀ w1, Gr w w1 → Calls Tryz.prog 22 #[insVal x va vt, insVal y ua ut] w1 fun e w' => e = .returned (.bool (decide (x = y))) ∧ Gr w1 w') :=
                      fun w1 q => SameInst_any x y _ _ w1 ⟨va, vt, rfl, hxa.gr q, hxt.gr q⟩ ⟨ua, ut, rfl, hya.gr q, hyt.gr q⟩
                    obtain ⟨Aa, caa, rfl, -, -, -⟩ := hxa
                    obtain ⟨At, cat, rfl, -, -, -⟩ := hxt
                    obtain ⟨Da, daa, rfl, -, -, -⟩ := hya
                    obtain ⟨Dt, dat, rfl, -, -, -⟩ := hyt
                    unfold insVal at HC
                    obtain ⟨ev, hev⟩ : ∃ ev, decide (x = y) = ev := ⟨_, rfl⟩
                    rw [hev] at HC
                    have HEV := Lib.hid hev
                    have HX2 := Lib.hid hx
                    have HY2 := Lib.hid hy
                    have z4 : (0 : Int) ≤ (j : Int) := by omega
                    have z5 : (j : Int) < (l.length : Int) := by omega
                    have z6 : (j : Int) < (m.length : Int) := by omega
                    have hgw2 : Gr w wr := hB0.trans hgr2
                    have U1 : ∀ u : GrW wr, u.val.cell? ⟨w.heap.size, 3, none⟩ = some (.slice (some ⟨ba, oa, none⟩) f.blocks.length cb) := fun u => (B0.out _ (hgr2.trans u.gr)).1.2.2.2
                    have U2 : ∀ u : GrW wr, u.val.cell? ⟨w.heap.size + 1, 3, none⟩ = some (.slice (some ⟨bb, ob, none⟩) g.blocks.length db) := fun u => (B0.out _ (hgr2.trans u.gr)).2.2.2.2
                    have U3 : ∀ u : GrW wr, u.val.cell? ⟨ba, oa + k, none⟩ = some (.slice (some ⟨pa, qa, none⟩) l.length al) := fun u => (U12.out _ (hgr2.trans u.gr)).1
                    have U4 : ∀ u : GrW wr, u.val.cell? ⟨bb, ob + k, none⟩ = some (.slice (some ⟨pb, qb, none⟩) m.length bl) := fun u => (U12.out _ (hgr2.trans u.gr)).2
                    have V0 : ∀ u : GrW wr, u.val.cell? ⟨pa, qa + j * 6, none⟩ = some (.int .i64 x.op) := fun u => ((hgw2.trans u.gr).cell _ _ hpa).trans a0
                    have V1 : ∀ u : GrW wr, u.val.cell? ⟨pa, qa + j * 6 + 1, none⟩ = some (.int .i64 x.width) := fun u => ((hgw2.trans u.gr).cell _ _ hpa).trans a1
                    have V2 : ∀ u : GrW wr, u.val.cell? ⟨pa, qa + j * 6 + 2, none⟩ = some (.int .i64 x.flags) := fun u => ((hgw2.trans u.gr).cell _ _ hpa).trans a2
                    have V3 : ∀ u : GrW wr, u.val.cell? ⟨pa, qa + j * 6 + 3, none⟩ = some (.slice Aa x.args.length caa) := fun u => ((hgw2.trans u.gr).cell _ _ hpa).trans a3
                    have V4 : ∀ u : GrW wr, u.val.cell? ⟨pa, qa + j * 6 + 4, none⟩ = some (.int .u32 x.imm) := fun u => ((hgw2.trans u.gr).cell _ _ hpa).trans a4
                    have V5 : ∀ u : GrW wr, u.val.cell? ⟨pa, qa + j * 6 + 5, none⟩ = some (.slice At x.to.length cat) := fun u => ((hgw2.trans u.gr).cell _ _ hpa).trans a5
                    have X0 : ∀ u : GrW wr, u.val.cell? ⟨pb, qb + j * 6, none⟩ = some (.int .i64 y.op) := fun u => ((hgw2.trans u.gr).cell _ _ hpb).trans e0
                    have X1 : ∀ u : GrW wr, u.val.cell? ⟨pb, qb + j * 6 + 1, none⟩ = some (.int .i64 y.width) := fun u => ((hgw2.trans u.gr).cell _ _ hpb).trans e1
                    have X2 : ∀ u : GrW wr, u.val.cell? ⟨pb, qb + j * 6 + 2, none⟩ = some (.int .i64 y.flags) := fun u => ((hgw2.trans u.gr).cell _ _ hpb).trans e2
                    have X3 : ∀ u : GrW wr, u.val.cell? ⟨pb, qb + j * 6 + 3, none⟩ = some (.slice Da y.args.length daa) := fun u => ((hgw2.trans u.gr).cell _ _ hpb).trans e3
                    have X4 : ∀ u : GrW wr, u.val.cell? ⟨pb, qb + j * 6 + 4, none⟩ = some (.int .u32 y.imm) := fun u => ((hgw2.trans u.gr).cell _ _ hpb).trans e4
                    have X5 : ∀ u : GrW wr, u.val.cell? ⟨pb, qb + j * 6 + 5, none⟩ = some (.slice Dt y.to.length dat) := fun u => ((hgw2.trans u.gr).cell _ _ hpb).trans e5
                    clear hx hy hpca hpcb hev hlt2 hltb2 a0 a1 a2 a3 a4 a5 e0 e1 e2 e3 e4 e5
                    have HGW := Lib.hid hgw2
                    go_wp2
                    refine wp_region_quietGr (by kernel_rfl) (by kernel_rfl) ?_
                    repeat (go_big_quiet_step ((rename_i u; go_at_call 22; exact grW_call u (HC.out _ (HGW.out.trans u.gr)))))
                    refine wpQuiet_nil ?_
                    intro w9 hw9
                    obtain ⟨u9, rfl⟩ := hw9
                    have g6 := u9.gr
                    clear U1 U2 U3 U4 V0 V1 V2 V3 V4 V5 X0 X1 X2 X3 X4 X5
                    cases ev with
                    | true =>
                      go_wp2
                      go_roundw
                      case rel => exact ⟨j + 1, by omega, by go_num, take_step hrest2.out HX2.out HY2.out (of_decide_eq_true HEV.out), hgr2.trans g6⟩
                      case measure => simp [intOf]; omega
                    | false =>
                      go_wp2
                      go_ret
                      exact ⟨ret_bool (by rw [HE2.out]; exact (decide_eq_false (ne_step HX.out HY.out (ne_step HX2.out HY2.out (of_decide_eq_false HEV.out)))).symm), hgw2.trans g6⟩
                  · obtain rfl : j = l.length := by omega
                    go_wp2
                    go_roundw
                    case rel => exact ⟨k + 1, by omega, by go_num, take_step hrest.out HX.out HY.out (take_end hrest2.out HLM.out), hgr2⟩
                    case measure => simp [intOf]; omega
              · have hl2 : ((l.length : Int) != (m.length : Int)) = true := by simp; omega
                have HLM : Hid (l ≠ m) := fun h => hlm (by rw [h])
                clear hlm
                go_wp2
                go_quiet (fail)
                go_wp2
                go_ret
                exact ⟨ret_bool (by rw [HE2.out]; exact (decide_eq_false (ne_step HX.out HY.out HLM.out)).symm), (hB0.trans hgr).drewN _⟩
            · obtain rfl : k = f.blocks.length := by omega
              go_wp2
              go_ret
              exact ⟨ret_bool (by rw [HE2.out]; exact (decide_eq_true (take_end hrest.out HL.out)).symm), hB0.trans hgr⟩
        · have hl1 : ((f.blocks.length : Int) != (g.blocks.length : Int)) = true := by simp; omega
          have HL : Hid (f.blocks ≠ g.blocks) := fun h => hlen (by rw [h])
          clear hlen
          go_enter Tryz.func9, Tryz.ntmps9
          go_wp2_with (first
            | (go_at_call 21; with_reducible refine (HQ1.out _ hB0).mono ?_; rintro e w1 ⟨rfl, g1⟩; obtain ⟨⟨k0, k1, k2, k3⟩, ⟨m0, m1, m2, m3⟩⟩ := B0.out _ g1)
            | (go_at_call 21; with_reducible refine (HQ2.out _ (hB0.trans g1)).mono ?_; rintro e w2 ⟨rfl, g2⟩; have q2 := g1.trans g2; obtain ⟨⟨i0, i1, i2, i3⟩, ⟨j0, j1, j2, j3⟩⟩ := B0.out _ q2))
          go_ret
          exact ⟨ret_bool (by rw [HE2.out]; exact (decide_eq_false HL.out).symm), hB0.trans q2⟩
end Go.Proofs.YtiadpjhlomhjeaaGreat

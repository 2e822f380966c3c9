/- The law backstaylaw03.IrCopies returns true at every input, and the input reads as it did. -/
import Derived.Test.YtiadpjhlomhjeaaIrY
import Derived.Test.YtiadpjhlomhjeaaRefA
import Derived.Test.YtiadpjhlomhjeaaIrLast
import Derived.Test.YtiadpjhlomhjeaaGr
import Derived.Orders
import Derived.Test.YtiadpjhlomhjeaaIrMainM

namespace Go.Proofs.Ytiadpjhlomhjeaa
open Go.RowKit

theorem ins_eq (x y : Ins) : decide (x = y) = ((x.op == y.op) && (x.width == y.width) && (x.flags == y.flags) && (x.imm == y.imm) && decide (x.args = y.args) && decide (x.to = y.to)) := by
  obtain ⟨a, b, c, d, e, f⟩ := x
  obtain ⟨a', b', c', d', e', f'⟩ := y
  rw [Bool.eq_iff_iff]
  simp only [decide_eq_true_eq, Bool.and_eq_true, beq_iff_eq, Ins.mk.injEq]
  constructor
  · rintro ⟨h1, h2, h3, h4, h5, h6⟩; exact ⟨⟨⟨⟨⟨h1, h2⟩, h3⟩, h5⟩, h4⟩, h6⟩
  · rintro ⟨⟨⟨⟨⟨h1, h2⟩, h3⟩, h5⟩, h4⟩, h6⟩; exact ⟨h1, h2, h3, h4, h5, h6⟩

set_option maxRecDepth 100000 in
set_option maxHeartbeats 8000000 in
theorem SameInst_any (x y : Ins) (vx vy : Value) (w : World) (hx : InsV w.heap.size w vx x) (hy : InsV w.heap.size w vy y) :
    Calls Try.prog 60 #[vx, vy] w fun e w' => e = .returned (.bool (decide (x = y))) ∧ Gr w w' := by
  obtain ⟨va, vt, rfl, hxa, hxt⟩ := hx
  obtain ⟨ua, ut, rfl, hya, hyt⟩ := hy
  have HQ1 : Hid (∀ w1, Gr w w1 → Calls Try.prog 25 #[va, ua] w1 fun e w' => e = .returned (.bool (decide (x.args = y.args))) ∧ Gr w1 w') := fun w1 q => SameInts_any va ua _ _ w1 (hxa.gr q) (hya.gr q)
  have HQ2 : Hid (∀ w1, Gr w w1 → Calls Try.prog 25 #[vt, ut] w1 fun e w' => e = .returned (.bool (decide (x.to = y.to))) ∧ Gr w1 w') := fun w1 q => SameInts_any vt ut _ _ w1 (hxt.gr q) (hyt.gr q)
  have HE := Lib.hid (ins_eq x y)
  obtain ⟨Aa, ca, rfl, -, -, -⟩ := hxa
  obtain ⟨At, ct, rfl, -, -, -⟩ := hxt
  obtain ⟨Da, da, rfl, -, -, -⟩ := hya
  obtain ⟨Dt, dt, rfl, -, -, -⟩ := hyt
  obtain ⟨W, hW⟩ : ∃ W, (w.alloc (.cells #[.int .i64 x.op, .int .i64 x.width, .int .i64 x.flags, .slice Aa x.args.length ca, .int .u32 x.imm, .slice At x.to.length ct] 51)).alloc (.cells #[.int .i64 y.op, .int .i64 y.width, .int .i64 y.flags, .slice Da y.args.length da, .int .u32 y.imm, .slice Dt y.to.length dt] 51) = W := ⟨_, rfl⟩
  have hB0 : Gr w W := by rw [← hW]; exact ((Gr.refl w).alloc _).alloc _
  have hWs : W.heap.size = w.heap.size + 2 := by rw [← hW]; simp
  have B1 : Hid (∀ w' o, Gr W w' → w'.cell? ⟨w.heap.size, o, none⟩ = (#[.int .i64 x.op, .int .i64 x.width, .int .i64 x.flags, .slice Aa x.args.length ca, .int .u32 x.imm, .slice At x.to.length ct] : Array Value)[o]?) := by
    intro w' o g
    refine (g.cell w.heap.size o (by omega)).trans ?_
    rw [← hW]
    exact (((Gr.refl _).alloc _).cell w.heap.size o (by simp)).trans (cell_of_row _ _ _ _ _ _ (heap_alloc_new w _))
  have B2 : Hid (∀ w' o, Gr W w' → w'.cell? ⟨w.heap.size + 1, o, none⟩ = (#[.int .i64 y.op, .int .i64 y.width, .int .i64 y.flags, .slice Da y.args.length da, .int .u32 y.imm, .slice Dt y.to.length dt] : Array Value)[o]?) := by
    intro w' o g
    refine (g.cell (w.heap.size + 1) o (by omega)).trans ?_
    rw [← hW]
    exact cell_of_row _ _ _ _ _ _ (heap_alloc2_new w _ _)
  have KK : Hid (∀ w', Gr W w' → (w'.cell? ⟨w.heap.size, 0, none⟩ = some (.int .i64 x.op) ∧ w'.cell? ⟨w.heap.size, 1, none⟩ = some (.int .i64 x.width) ∧ w'.cell? ⟨w.heap.size, 2, none⟩ = some (.int .i64 x.flags) ∧ w'.cell? ⟨w.heap.size, 3, none⟩ = some (.slice Aa x.args.length ca) ∧ w'.cell? ⟨w.heap.size, 4, none⟩ = some (.int .u32 x.imm) ∧ w'.cell? ⟨w.heap.size, 5, none⟩ = some (.slice At x.to.length ct)) ∧
      (w'.cell? ⟨w.heap.size + 1, 0, none⟩ = some (.int .i64 y.op) ∧ w'.cell? ⟨w.heap.size + 1, 1, none⟩ = some (.int .i64 y.width) ∧ w'.cell? ⟨w.heap.size + 1, 2, none⟩ = some (.int .i64 y.flags) ∧ w'.cell? ⟨w.heap.size + 1, 3, none⟩ = some (.slice Da y.args.length da) ∧ w'.cell? ⟨w.heap.size + 1, 4, none⟩ = some (.int .u32 y.imm) ∧ w'.cell? ⟨w.heap.size + 1, 5, none⟩ = some (.slice Dt y.to.length dt))) :=
    fun w' g => ⟨⟨B1.out _ 0 g, B1.out _ 1 g, B1.out _ 2 g, B1.out _ 3 g, B1.out _ 4 g, B1.out _ 5 g⟩, ⟨B2.out _ 0 g, B2.out _ 1 g, B2.out _ 2 g, B2.out _ 3 g, B2.out _ 4 g, B2.out _ 5 g⟩⟩
  obtain ⟨⟨c0, c1, c2, c3, c4, c5⟩, ⟨d0, d1, d2, d3, d4, d5⟩⟩ := KK.out W (Gr.refl _)
  obtain ⟨b1, h1⟩ : ∃ b, (x.op == y.op) = b := ⟨_, rfl⟩
  obtain ⟨b2, h2⟩ : ∃ b, (x.width == y.width) = b := ⟨_, rfl⟩
  obtain ⟨b3, h3⟩ : ∃ b, (x.flags == y.flags) = b := ⟨_, rfl⟩
  obtain ⟨b4, h4⟩ : ∃ b, (x.imm == y.imm) = b := ⟨_, rfl⟩
  obtain ⟨b5, h5⟩ : ∃ b, decide (x.args = y.args) = b := ⟨_, rfl⟩
  obtain ⟨b6, h6⟩ : ∃ b, decide (x.to = y.to) = b := ⟨_, rfl⟩
  rw [h1, h2, h3, h4, h5, h6] at HE
  rw [h5] at HQ1
  rw [h6] at HQ2
  clear h5 h6 B1 B2
  unfold insVal
  rcases (by cases b1 <;> cases b2 <;> cases b3 <;> simp : b1 = false ∨ (b1 = true ∧ b2 = false) ∨ (b1 = true ∧ b2 = true ∧ b3 = false) ∨ (b1 = true ∧ b2 = true ∧ b3 = true)) with rfl | ⟨rfl, rfl⟩ | ⟨rfl, rfl, rfl⟩ | ⟨rfl, rfl, rfl⟩
  rotate_right 1
  · rcases (by cases b4 <;> cases b5 <;> simp : (b4 = false ∧ b5 = false) ∨ (b4 = false ∧ b5 = true) ∨ (b4 = true ∧ b5 = false) ∨ (b4 = true ∧ b5 = true)) with ⟨rfl, rfl⟩ | ⟨rfl, rfl⟩ | ⟨rfl, rfl⟩ | ⟨rfl, rfl⟩
    all_goals
      go_enter Try.func60, Try.ntmps60
      go_wp2_with (first
        | (go_at_call 25; with_reducible refine (HQ1.out _ hB0).mono ?_; rintro e w1 ⟨rfl, g1⟩; obtain ⟨⟨k0, k1, k2, k3, k4, k5⟩, ⟨m0, m1, m2, m3, m4, m5⟩⟩ := KK.out _ g1)
        | (go_at_call 25; with_reducible refine (HQ2.out _ (hB0.trans g1)).mono ?_; rintro e w2 ⟨rfl, g2⟩))
      go_ret
      first
        | exact ⟨ret_bool (by rw [HE.out]; simp), hB0.trans (g1.trans g2)⟩
        | exact ⟨ret_bool (by rw [HE.out]; simp), hB0.trans g1⟩
        | exact ⟨ret_bool (by rw [HE.out]; simp), hB0⟩
  all_goals
    go_enter Try.func60, Try.ntmps60
    go_wp2
    go_ret
    exact ⟨ret_bool (by rw [HE.out]; simp), hB0⟩

set_option maxRecDepth 100000 in
set_option maxHeartbeats 8000000 in
theorem iSame1_any (x y : Ins) (vx vy : Value) (w : World) (hx : InsV w.heap.size w vx x) (hy : InsV w.heap.size w vy y) :
    Calls Try.prog 56 #[vx, vy] w fun e w' => e = .returned (.bool (decide (x = y))) ∧ Gr w w' := by
  obtain ⟨va, vt, rfl, hxa, hxt⟩ := hx
  obtain ⟨ua, ut, rfl, hya, hyt⟩ := hy
  have HQ1 : Hid (∀ w1, Gr w w1 → Calls Try.prog 55 #[va, ua] w1 fun e w' => e = .returned (.bool (decide (x.args = y.args))) ∧ Gr w1 w') := fun w1 q => Equal_any va ua _ _ w1 (hxa.gr q) (hya.gr q)
  have HQ2 : Hid (∀ w1, Gr w w1 → Calls Try.prog 55 #[vt, ut] w1 fun e w' => e = .returned (.bool (decide (x.to = y.to))) ∧ Gr w1 w') := fun w1 q => Equal_any vt ut _ _ w1 (hxt.gr q) (hyt.gr q)
  have HE := Lib.hid (ins_eq x y)
  obtain ⟨Aa, ca, rfl, -, -, -⟩ := hxa
  obtain ⟨At, ct, rfl, -, -, -⟩ := hxt
  obtain ⟨Da, da, rfl, -, -, -⟩ := hya
  obtain ⟨Dt, dt, rfl, -, -, -⟩ := hyt
  obtain ⟨W, hW⟩ : ∃ W, (w.alloc (.cells #[.int .i64 x.op, .int .i64 x.width, .int .i64 x.flags, .slice Aa x.args.length ca, .int .u32 x.imm, .slice At x.to.length ct] 51)).alloc (.cells #[.int .i64 y.op, .int .i64 y.width, .int .i64 y.flags, .slice Da y.args.length da, .int .u32 y.imm, .slice Dt y.to.length dt] 51) = W := ⟨_, rfl⟩
  have hB0 : Gr w W := by rw [← hW]; exact ((Gr.refl w).alloc _).alloc _
  have hWs : W.heap.size = w.heap.size + 2 := by rw [← hW]; simp
  have B1 : Hid (∀ w' o, Gr W w' → w'.cell? ⟨w.heap.size, o, none⟩ = (#[.int .i64 x.op, .int .i64 x.width, .int .i64 x.flags, .slice Aa x.args.length ca, .int .u32 x.imm, .slice At x.to.length ct] : Array Value)[o]?) := by
    intro w' o g
    refine (g.cell w.heap.size o (by omega)).trans ?_
    rw [← hW]
    exact (((Gr.refl _).alloc _).cell w.heap.size o (by simp)).trans (cell_of_row _ _ _ _ _ _ (heap_alloc_new w _))
  have B2 : Hid (∀ w' o, Gr W w' → w'.cell? ⟨w.heap.size + 1, o, none⟩ = (#[.int .i64 y.op, .int .i64 y.width, .int .i64 y.flags, .slice Da y.args.length da, .int .u32 y.imm, .slice Dt y.to.length dt] : Array Value)[o]?) := by
    intro w' o g
    refine (g.cell (w.heap.size + 1) o (by omega)).trans ?_
    rw [← hW]
    exact cell_of_row _ _ _ _ _ _ (heap_alloc2_new w _ _)
  have KK : Hid (∀ w', Gr W w' → (w'.cell? ⟨w.heap.size, 0, none⟩ = some (.int .i64 x.op) ∧ w'.cell? ⟨w.heap.size, 1, none⟩ = some (.int .i64 x.width) ∧ w'.cell? ⟨w.heap.size, 2, none⟩ = some (.int .i64 x.flags) ∧ w'.cell? ⟨w.heap.size, 3, none⟩ = some (.slice Aa x.args.length ca) ∧ w'.cell? ⟨w.heap.size, 4, none⟩ = some (.int .u32 x.imm) ∧ w'.cell? ⟨w.heap.size, 5, none⟩ = some (.slice At x.to.length ct)) ∧
      (w'.cell? ⟨w.heap.size + 1, 0, none⟩ = some (.int .i64 y.op) ∧ w'.cell? ⟨w.heap.size + 1, 1, none⟩ = some (.int .i64 y.width) ∧ w'.cell? ⟨w.heap.size + 1, 2, none⟩ = some (.int .i64 y.flags) ∧ w'.cell? ⟨w.heap.size + 1, 3, none⟩ = some (.slice Da y.args.length da) ∧ w'.cell? ⟨w.heap.size + 1, 4, none⟩ = some (.int .u32 y.imm) ∧ w'.cell? ⟨w.heap.size + 1, 5, none⟩ = some (.slice Dt y.to.length dt))) :=
    fun w' g => ⟨⟨B1.out _ 0 g, B1.out _ 1 g, B1.out _ 2 g, B1.out _ 3 g, B1.out _ 4 g, B1.out _ 5 g⟩, ⟨B2.out _ 0 g, B2.out _ 1 g, B2.out _ 2 g, B2.out _ 3 g, B2.out _ 4 g, B2.out _ 5 g⟩⟩
  obtain ⟨⟨c0, c1, c2, c3, c4, c5⟩, ⟨d0, d1, d2, d3, d4, d5⟩⟩ := KK.out W (Gr.refl _)
  obtain ⟨b1, h1⟩ : ∃ b, (x.op == y.op) = b := ⟨_, rfl⟩
  obtain ⟨b2, h2⟩ : ∃ b, (x.width == y.width) = b := ⟨_, rfl⟩
  obtain ⟨b3, h3⟩ : ∃ b, (x.flags == y.flags) = b := ⟨_, rfl⟩
  obtain ⟨b4, h4⟩ : ∃ b, (x.imm == y.imm) = b := ⟨_, rfl⟩
  obtain ⟨b5, h5⟩ : ∃ b, decide (x.args = y.args) = b := ⟨_, rfl⟩
  obtain ⟨b6, h6⟩ : ∃ b, decide (x.to = y.to) = b := ⟨_, rfl⟩
  rw [h1, h2, h3, h4, h5, h6] at HE
  rw [h5] at HQ1
  rw [h6] at HQ2
  clear h5 h6 B1 B2
  unfold insVal
  rcases (by cases b1 <;> cases b2 <;> cases b3 <;> simp : b1 = false ∨ (b1 = true ∧ b2 = false) ∨ (b1 = true ∧ b2 = true ∧ b3 = false) ∨ (b1 = true ∧ b2 = true ∧ b3 = true)) with rfl | ⟨rfl, rfl⟩ | ⟨rfl, rfl, rfl⟩ | ⟨rfl, rfl, rfl⟩
  rotate_right 1
  · rcases (by cases b4 <;> cases b5 <;> simp : (b4 = false ∧ b5 = false) ∨ (b4 = false ∧ b5 = true) ∨ (b4 = true ∧ b5 = false) ∨ (b4 = true ∧ b5 = true)) with ⟨rfl, rfl⟩ | ⟨rfl, rfl⟩ | ⟨rfl, rfl⟩ | ⟨rfl, rfl⟩
    all_goals
      go_enter Try.func56, Try.ntmps56
      go_wp2_with (first
        | (go_at_call 55; with_reducible refine (HQ1.out _ hB0).mono ?_; rintro e w1 ⟨rfl, g1⟩; obtain ⟨⟨k0, k1, k2, k3, k4, k5⟩, ⟨m0, m1, m2, m3, m4, m5⟩⟩ := KK.out _ g1)
        | (go_at_call 55; with_reducible refine (HQ2.out _ (hB0.trans g1)).mono ?_; rintro e w2 ⟨rfl, g2⟩))
      go_ret
      first
        | exact ⟨ret_bool (by rw [HE.out]; simp), hB0.trans (g1.trans g2)⟩
        | exact ⟨ret_bool (by rw [HE.out]; simp), hB0.trans g1⟩
        | exact ⟨ret_bool (by rw [HE.out]; simp), hB0⟩
  all_goals
    go_enter Try.func56, Try.ntmps56
    go_wp2
    go_ret
    exact ⟨ret_bool (by rw [HE.out]; simp), hB0⟩

end Go.Proofs.Ytiadpjhlomhjeaa

namespace Go.Proofs.Ytiadpjhlomhjeaa
open Go.RowKit

theorem take_step {α : Type} [DecidableEq α] {a b : List α} {k : Nat} {x y : α} (h : a.take k = b.take k) (hx : a[k]? = some x) (hy : b[k]? = some y) (e : x = y) : a.take (k + 1) = b.take (k + 1) := by
  rw [List.take_add_one, List.take_add_one, h, hx, hy, e]
theorem ne_step {α : Type} {a b : List α} {k : Nat} {x y : α} (hx : a[k]? = some x) (hy : b[k]? = some y) (e : x ≠ y) : a ≠ b := by
  intro h; rw [h, hy] at hx; exact e (Option.some.inj hx).symm
theorem take_end {α : Type} {a b : List α} (h : a.take a.length = b.take a.length) (hl : a.length = b.length) : a = b := by
  rwa [List.take_length, hl, List.take_length] at h

set_option maxRecDepth 100000 in
set_option maxHeartbeats 8000000 in
theorem EqI_any (va vb : Value) (a b : List Ins) (w : World) (ha : BlkAt w.heap.size w va a) (hb : BlkAt w.heap.size w vb b) :
    Calls Try.prog 59 #[va, vb, .func (.func 56) #[] #[]] w fun e w' => e = .returned (.bool (decide (a = b))) ∧ Gr w w' := by
  obtain ⟨A, ca, rfl, ha1, ha2, ha3⟩ := ha
  obtain ⟨A', cb, rfl, hb1, hb2, hb3⟩ := hb
  have HA3 : Hid (0 < a.length → ∃ b_1 off, A = some ⟨b_1, off, none⟩ ∧ b_1 < w.heap.size ∧ ∀ j x, a[j]? = some x → InsAt w.heap.size w b_1 (off + j * 6) x) := ha3
  have HB3 : Hid (0 < b.length → ∃ b_1 off, A' = some ⟨b_1, off, none⟩ ∧ b_1 < w.heap.size ∧ ∀ j x, b[j]? = some x → InsAt w.heap.size w b_1 (off + j * 6) x) := hb3
  clear ha3 hb3
  by_cases hlen : a.length = b.length
  · have hl1 : ((a.length : Int) != (b.length : Int)) = false := by rw [hlen]; simp
    have HL : Hid (a.length = b.length) := hlen
    clear hlen
    go_enter Try.func59, Try.ntmps59
    go_wp2
    go_loopw [7, 8, 9, 17] (fun _ _ _ i wr => ∃ k : Nat, k ≤ a.length ∧ i = .int .i64 k ∧ Hid (a.take k = b.take k) ∧ Gr w wr) (fun _ _ _ i _ => a.length - (intOf i).toNat)
    case atStart => exact ⟨0, Nat.zero_le _, rfl, rfl, Gr.refl _⟩
    case round =>
      obtain ⟨k, hk, rfl, hrest, hg⟩ := hrel
      by_cases hlt : k < a.length
      · have hltb : k < b.length := by have := HL.out; omega
        obtain ⟨ba, oa, rfl, hba, hca⟩ := HA3.out (by omega)
        obtain ⟨bb, ob, rfl, hbb, hcb⟩ := HB3.out (by omega)
        obtain ⟨x, hx⟩ : ∃ x, a[k]? = some x := ⟨_, List.getElem?_eq_getElem hlt⟩
        obtain ⟨y, hy⟩ : ∃ y, b[k]? = some y := ⟨_, List.getElem?_eq_getElem hltb⟩
        obtain ⟨va, vt, x0, x1, x2, x3, x4, x5, hxa, hxt⟩ := hca k x hx
        obtain ⟨ua, ut, y0, y1, y2, y3, y4, y5, hya, hyt⟩ := hcb k y hy
        have IX : InsV w.heap.size w (insVal x va vt) x := ⟨va, vt, rfl, hxa, hxt⟩
        have IY : InsV w.heap.size w (insVal y ua ut) y := ⟨ua, ut, rfl, hya, hyt⟩
        have HC : Hid (∀ w1, Gr w w1 → Calls Try.prog 56 #[insVal x va vt, insVal y ua ut] w1 fun e w' => e = .returned (.bool (decide (x = y))) ∧ Gr w1 w') :=
          fun w1 q => iSame1_any x y _ _ w1 ⟨va, vt, rfl, hxa.gr q, hxt.gr q⟩ ⟨ua, ut, rfl, hya.gr q, hyt.gr q⟩
        obtain ⟨Aa, caa, rfl, -, -, -⟩ := hxa
        obtain ⟨At, cat, rfl, -, -, -⟩ := hxt
        obtain ⟨Da, daa, rfl, -, -, -⟩ := hya
        obtain ⟨Dt, dat, rfl, -, -, -⟩ := hyt
        unfold insVal at HC
        replace x0 := (hg.cell _ _ hba).trans x0
        replace x1 := (hg.cell _ _ hba).trans x1
        replace x2 := (hg.cell _ _ hba).trans x2
        replace x3 := (hg.cell _ _ hba).trans x3
        replace x4 := (hg.cell _ _ hba).trans x4
        replace x5 := (hg.cell _ _ hba).trans x5
        replace y0 : ∀ o, (wr.alloc o).cell? ⟨bb, ob + k * 6, none⟩ = some (.int .i64 y.op) := fun o => ((hg.alloc o).cell _ _ hbb).trans y0
        replace y1 : ∀ o, (wr.alloc o).cell? ⟨bb, ob + k * 6 + 1, none⟩ = some (.int .i64 y.width) := fun o => ((hg.alloc o).cell _ _ hbb).trans y1
        replace y2 : ∀ o, (wr.alloc o).cell? ⟨bb, ob + k * 6 + 2, none⟩ = some (.int .i64 y.flags) := fun o => ((hg.alloc o).cell _ _ hbb).trans y2
        replace y3 : ∀ o, (wr.alloc o).cell? ⟨bb, ob + k * 6 + 3, none⟩ = some (.slice Da y.args.length daa) := fun o => ((hg.alloc o).cell _ _ hbb).trans y3
        replace y4 : ∀ o, (wr.alloc o).cell? ⟨bb, ob + k * 6 + 4, none⟩ = some (.int .u32 y.imm) := fun o => ((hg.alloc o).cell _ _ hbb).trans y4
        replace y5 : ∀ o, (wr.alloc o).cell? ⟨bb, ob + k * 6 + 5, none⟩ = some (.slice Dt y.to.length dat) := fun o => ((hg.alloc o).cell _ _ hbb).trans y5
        have HX := Lib.hid hx
        have HY := Lib.hid hy
        obtain ⟨ev, hev⟩ : ∃ ev, decide (x = y) = ev := ⟨_, rfl⟩
        rw [hev] at HC
        have HE := Lib.hid hev
        have z2 : (k : Int) < (a.length : Int) := by omega
        have z3 : (k : Int) < (b.length : Int) := by omega
        clear hx hy hca hcb IX IY hev hlt hltb
        cases ev with
        | true =>
          go_wp2_with (go_at_call 56; refine (HC.out _ ((hg.alloc _).alloc _)).mono ?_; rintro e w1 ⟨rfl, g1⟩)
          go_roundw
          case rel => exact ⟨k + 1, by omega, by go_num, take_step hrest.out HX.out HY.out (of_decide_eq_true HE.out), ((hg.alloc _).alloc _).trans g1⟩
          case measure => simp [intOf]; omega
        | false =>
          go_wp2_with (go_at_call 56; refine (HC.out _ ((hg.alloc _).alloc _)).mono ?_; rintro e w1 ⟨rfl, g1⟩)
          go_ret
          exact ⟨ret_bool (decide_eq_false (ne_step HX.out HY.out (of_decide_eq_false HE.out))).symm, ((hg.alloc _).alloc _).trans g1⟩
      · obtain rfl : k = a.length := by omega
        go_wp2
        go_ret
        exact ⟨ret_bool (decide_eq_true (take_end hrest.out HL.out)).symm, hg⟩
  · have hl1 : ((a.length : Int) != (b.length : Int)) = true := by simp; omega
    have HL : Hid (a ≠ b) := fun h => hlen (by rw [h])
    clear hlen
    go_enter Try.func59, Try.ntmps59
    go_wp2
    go_ret
    exact ⟨ret_bool (decide_eq_false HL.out).symm, Gr.refl _⟩

set_option maxHeartbeats 2000000 in
theorem iSame2_any (va vb : Value) (a b : List Ins) (B : Nat) (w : World) (ha : BlkAt w.heap.size w va a) (hb : BlkAt w.heap.size w vb b) (hB : w.cell? ⟨B, 0, none⟩ = some (.func (.func 56) #[] #[])) :
    Calls Try.prog 58 #[va, vb, .pointer (some ⟨B, 0, none⟩)] w fun e w' => e = .returned (.bool (decide (a = b))) ∧ Gr w w' := by
  have HC := Lib.hid (EqI_any va vb a b w ha hb)
  obtain ⟨A, ca, rfl, -, -, -⟩ := ha
  obtain ⟨A', cb, rfl, -, -, -⟩ := hb
  go_enter Try.func58, Try.ntmps58
  go_wp2_with (go_at_call 59; refine HC.out.mono ?_; rintro e w1 ⟨rfl, g1⟩)
  go_ret
  exact ⟨rfl, g1⟩

set_option maxRecDepth 100000 in
set_option maxHeartbeats 8000000 in
theorem EqB_any (va vb : Value) (a b : List (List Ins)) (B : Nat) (w : World) (ha : BlksAt w.heap.size w va a) (hb : BlksAt w.heap.size w vb b) (hB : B < w.heap.size) (hBc : w.cell? ⟨B, 0, none⟩ = some (.func (.func 56) #[] #[])) :
    Calls Try.prog 57 #[va, vb, .func (.func 58) #[] #[.pointer (some ⟨B, 0, none⟩)]] w fun e w' => e = .returned (.bool (decide (a = b))) ∧ Gr w w' := by
  obtain ⟨A, ca, rfl, ha1, ha2, ha3⟩ := ha
  obtain ⟨A', cb, rfl, hb1, hb2, hb3⟩ := hb
  by_cases hlen : a.length = b.length
  · have hl1 : ((a.length : Int) != (b.length : Int)) = false := by rw [hlen]; simp
    have HL : Hid (a.length = b.length) := hlen
    clear hlen
    go_enter Try.func57, Try.ntmps57
    go_wp2
    go_loopw [7, 8, 9, 17] (fun _ _ _ i wr => ∃ k : Nat, k ≤ a.length ∧ i = .int .i64 k ∧ Hid (a.take k = b.take k) ∧ Gr w wr) (fun _ _ _ i _ => a.length - (intOf i).toNat)
    case atStart => exact ⟨0, Nat.zero_le _, rfl, rfl, Gr.refl _⟩
    case round =>
      obtain ⟨k, hk, rfl, hrest, hg⟩ := hrel
      by_cases hlt : k < a.length
      · have hltb : k < b.length := by have := HL.out; omega
        obtain ⟨ba, oa, rfl, hba, hca⟩ := ha3 (by omega)
        obtain ⟨bb, ob, rfl, hbb, hcb⟩ := hb3 (by omega)
        obtain ⟨x, hx⟩ : ∃ x, a[k]? = some x := ⟨_, List.getElem?_eq_getElem hlt⟩
        obtain ⟨y, hy⟩ : ∃ y, b[k]? = some y := ⟨_, List.getElem?_eq_getElem hltb⟩
        obtain ⟨u1, c1, i1⟩ := hca k x hx
        obtain ⟨u2, c2, i2⟩ := hcb k y hy
        replace c1 := (hg.cell _ _ hba).trans c1
        replace c2 := (hg.cell _ _ hbb).trans c2
        have HC : Hid (∀ w1, Gr w w1 → Calls Try.prog 58 #[u1, u2, .pointer (some ⟨B, 0, none⟩)] w1 fun e w' => e = .returned (.bool (decide (x = y))) ∧ Gr w1 w') :=
          fun w1 q => iSame2_any u1 u2 x y B w1 (i1.gr q) (i2.gr q) ((q.cell _ _ hB).trans hBc)
        have HX := Lib.hid hx
        have HY := Lib.hid hy
        obtain ⟨ev, hev⟩ : ∃ ev, decide (x = y) = ev := ⟨_, rfl⟩
        rw [hev] at HC
        have HE := Lib.hid hev
        have z2 : (k : Int) < (a.length : Int) := by omega
        have z3 : (k : Int) < (b.length : Int) := by omega
        clear hx hy hca hcb hev hlt hltb ha3 hb3 i1 i2
        cases ev with
        | true =>
          go_wp2_with (go_at_call 58; refine (HC.out _ hg).mono ?_; rintro e w1 ⟨rfl, g1⟩)
          go_roundw
          case rel => exact ⟨k + 1, by omega, by go_num, take_step hrest.out HX.out HY.out (of_decide_eq_true HE.out), hg.trans g1⟩
          case measure => simp [intOf]; omega
        | false =>
          go_wp2_with (go_at_call 58; refine (HC.out _ hg).mono ?_; rintro e w1 ⟨rfl, g1⟩)
          go_ret
          exact ⟨ret_bool (decide_eq_false (ne_step HX.out HY.out (of_decide_eq_false HE.out))).symm, hg.trans g1⟩
      · obtain rfl : k = a.length := by omega
        clear ha3 hb3
        go_wp2
        go_ret
        exact ⟨ret_bool (decide_eq_true (take_end hrest.out HL.out)).symm, hg⟩
  · have hl1 : ((a.length : Int) != (b.length : Int)) = true := by simp; omega
    have HL : Hid (a ≠ b) := fun h => hlen (by rw [h])
    clear hlen ha3 hb3
    go_enter Try.func57, Try.ntmps57
    go_wp2
    go_ret
    exact ⟨ret_bool (decide_eq_false HL.out).symm, Gr.refl _⟩
end Go.Proofs.Ytiadpjhlomhjeaa

namespace Go.Proofs.Ytiadpjhlomhjeaa
open Go.RowKit

/-- ONE WALK IN THE ORDER OF THE TEXT, for operations that yield the same in every world that has grown from this one. -/
theorem wp_region_quietGr {P : Program} {id : Nat} {Q : Exit → Act → World → Prop} {a : Act} {w : World} {l : List Oper} (hm : P.follows .mixedOrders = true) (hB : Region.lexB .any l.toArray = true)
    (h : wpQuiet P l.toArray (fun w' => ∃ u : GrW w, w' = u.val) (fun a' => ∀ w', (∃ u : GrW w, w' = u.val) → Q .normal a' w') l a) : (Code.region id l.toArray true).wp P Q a w :=
  wp_region_quiet (C := fun w' => ∃ u : GrW w, w' = u.val) hm hB ⟨⟨w.drew, (Gr.refl w).drew⟩, rfl⟩ (by simpa using h)
instance (w : World) : Nonempty (GrW w) := ⟨⟨w, Gr.refl w⟩⟩
theorem grW_call {P : Program} {f : FuncId} {args : Array Value} {w : World} {v : Value} (u : GrW w)
    (h : Calls P f args u.val fun e w' => e = .returned v ∧ Gr u.val w') : Calls P f args u.val fun e w'' => e = .returned v ∧ ∃ u' : GrW w, w'' = u'.val :=
  h.mono fun _ w' ⟨he, hm⟩ => ⟨he, ⟨w', u.gr.trans hm⟩, rfl⟩

theorem fn_eq (f g : Fn) : decide (f = g) = (decide (f.params = g.params) && (f.ret == g.ret) && decide (f.slots = g.slots) && decide (f.blocks = g.blocks)) := by
  obtain ⟨a, b, c, d⟩ := f
  obtain ⟨a', b', c', d'⟩ := g
  rw [Bool.eq_iff_iff]
  simp only [decide_eq_true_eq, Bool.and_eq_true, beq_iff_eq, Fn.mk.injEq]
  constructor
  · rintro ⟨h1, h2, h3, h4⟩; exact ⟨⟨⟨h1, h2⟩, h3⟩, h4⟩
  · rintro ⟨⟨⟨h1, h2⟩, h3⟩, h4⟩; exact ⟨h1, h2, h3, h4⟩

/-- The four cells of a function's box. -/
abbrev FBox (B : Nat) (w : World) (f : Fn) (Ap As Ab : Option Addr) (cp cs cb : Nat) : Prop :=
  w.cell? ⟨B, 0, none⟩ = some (.slice Ap f.params.length cp) ∧ w.cell? ⟨B, 1, none⟩ = some (.int .i64 f.ret) ∧ w.cell? ⟨B, 2, none⟩ = some (.slice As f.slots.length cs) ∧ w.cell? ⟨B, 3, none⟩ = some (.slice Ab f.blocks.length cb)
theorem FBox.gr {B : Nat} {w w' : World} {f : Fn} {Ap As Ab : Option Addr} {cp cs cb : Nat} (h : FBox B w f Ap As Ab cp cs cb) (hB : B < w.heap.size) (q : Gr w w') : FBox B w' f Ap As Ab cp cs cb :=
  ⟨(q.cell _ _ hB).trans h.1, (q.cell _ _ hB).trans h.2.1, (q.cell _ _ hB).trans h.2.2.1, (q.cell _ _ hB).trans h.2.2.2⟩
theorem FBox.new {B : Nat} {V W : World} {f : Fn} {Ap As Ab : Option Addr} {cp cs cb : Nat} (g : Gr (V.alloc (.cells #[.slice Ap f.params.length cp, .int .i64 f.ret, .slice As f.slots.length cs, .slice Ab f.blocks.length cb] 25)) W) (hB : V.heap.size = B) : FBox B W f Ap As Ab cp cs cb :=
  ⟨cell_box _ _ 0 g hB, cell_box _ _ 1 g hB, cell_box _ _ 2 g hB, cell_box _ _ 3 g hB⟩

set_option maxRecDepth 100000 in
set_option maxHeartbeats 8000000 in
theorem iSame_any (vf vg : Value) (f g : Fn) (w : World) (hf : FnAt w.heap.size w vf f) (hg : FnAt w.heap.size w vg g) :
    Calls Try.prog 28 #[vf, vg] w fun e w' => e = .returned (.bool (decide (f = g))) ∧ Gr w w' := by
  obtain ⟨vp, vs, vb, rfl, hp, hsl, hb⟩ := hf
  obtain ⟨up, us, ub, rfl, gp, gsl, gb⟩ := hg
  have HQ1 : Hid (∀ w1, Gr w w1 → Calls Try.prog 55 #[vp, up] w1 fun e w' => e = .returned (.bool (decide (f.params = g.params))) ∧ Gr w1 w') := fun w1 q => Equal_any vp up _ _ w1 (hp.gr q) (gp.gr q)
  have HQ2 : Hid (∀ w1, Gr w w1 → Calls Try.prog 55 #[vs, us] w1 fun e w' => e = .returned (.bool (decide (f.slots = g.slots))) ∧ Gr w1 w') := fun w1 q => Equal_any vs us _ _ w1 (hsl.gr q) (gsl.gr q)
  have HQ3 : Hid (∀ w1 B, Gr w w1 → B < w1.heap.size → w1.cell? ⟨B, 0, none⟩ = some (.func (.func 56) #[] #[]) → Calls Try.prog 57 #[vb, ub, .func (.func 58) #[] #[.pointer (some ⟨B, 0, none⟩)]] w1 fun e w' => e = .returned (.bool (decide (f.blocks = g.blocks))) ∧ Gr w1 w') :=
    fun w1 B q h1 h2 => EqB_any vb ub _ _ B w1 (hb.gr q) (gb.gr q) h1 h2
  have HE := Lib.hid (fn_eq f g)
  obtain ⟨Ap, cp, rfl, -, -, -⟩ := hp
  obtain ⟨As, cs, rfl, -, -, -⟩ := hsl
  obtain ⟨Ab, cb, rfl, -, -, -⟩ := hb
  obtain ⟨Dp, dp, rfl, -, -, -⟩ := gp
  obtain ⟨Ds, ds, rfl, -, -, -⟩ := gsl
  obtain ⟨Db, db, rfl, -, -, -⟩ := gb
  obtain ⟨W, hW⟩ : ∃ W, (w.alloc (.cells #[.slice Ap f.params.length cp, .int .i64 f.ret, .slice As f.slots.length cs, .slice Ab f.blocks.length cb] 25)).alloc (.cells #[.slice Dp g.params.length dp, .int .i64 g.ret, .slice Ds g.slots.length ds, .slice Db g.blocks.length db] 25) = W := ⟨_, rfl⟩
  have hB0 : Gr w W := by rw [← hW]; exact ((Gr.refl w).alloc _).alloc _
  have hWs : W.heap.size = w.heap.size + 2 := by rw [← hW]; simp
  have B0 : Hid (∀ w', Gr W w' → FBox w.heap.size w' f Ap As Ab cp cs cb ∧ FBox (w.heap.size + 1) w' g Dp Ds Db dp ds db) := by
    intro w' q
    refine ⟨(FBox.new (V := w) (by rw [← hW]; exact (Gr.refl _).alloc _) rfl).gr (by omega) q, (FBox.new (V := w.alloc _) (by rw [hW]; exact Gr.refl _) (by simp)).gr (by omega) q⟩
  obtain ⟨⟨c0, c1, c2, c3⟩, ⟨d0, d1, d2, d3⟩⟩ := B0.out W (Gr.refl _)
  obtain ⟨b1, h1⟩ : ∃ b, decide (f.params = g.params) = b := ⟨_, rfl⟩
  obtain ⟨b2, h2⟩ : ∃ b, (f.ret == g.ret) = b := ⟨_, rfl⟩
  obtain ⟨b2', h2'⟩ : ∃ b, (f.ret != g.ret) = b := ⟨_, rfl⟩
  have e2 : b2' = !b2 := by rw [← h2, ← h2']; rfl
  obtain ⟨b3, h3⟩ : ∃ b, decide (f.slots = g.slots) = b := ⟨_, rfl⟩
  obtain ⟨b4, h4⟩ : ∃ b, decide (f.blocks = g.blocks) = b := ⟨_, rfl⟩
  rw [h1, h2, h3, h4] at HE
  rw [h1] at HQ1
  rw [h3] at HQ2
  rw [h4] at HQ3
  clear h1 h3 h4
  cases b1 with
  | false =>
    go_enter Try.func28, Try.ntmps28
    go_wp2_with (go_at_call 55; (with_reducible refine (HQ1.out _ hB0).mono ?_; rintro e w1 ⟨rfl, g1⟩; obtain ⟨⟨k0, k1, k2, k3⟩, ⟨m0, m1, m2, m3⟩⟩ := B0.out _ g1))
    go_ret
    exact ⟨ret_bool (by rw [HE.out]; simp), hB0.trans g1⟩
  | true =>
    cases b2 with
    | false =>
      subst e2
      go_enter Try.func28, Try.ntmps28
      go_wp2_with (go_at_call 55; with_reducible refine (HQ1.out _ hB0).mono ?_; rintro e w1 ⟨rfl, g1⟩; obtain ⟨⟨k0, k1, k2, k3⟩, ⟨m0, m1, m2, m3⟩⟩ := B0.out _ g1)
      go_ret
      exact ⟨ret_bool (by rw [HE.out]; simp), hB0.trans g1⟩
    | true =>
      subst e2
      cases b3 with
      | false =>
        go_enter Try.func28, Try.ntmps28
        go_wp2_with (first
          | (go_at_call 55; with_reducible refine (HQ1.out _ hB0).mono ?_; rintro e w1 ⟨rfl, g1⟩; obtain ⟨⟨k0, k1, k2, k3⟩, ⟨m0, m1, m2, m3⟩⟩ := B0.out _ g1)
          | (go_at_call 55; with_reducible refine (HQ2.out _ (hB0.trans g1)).mono ?_; rintro e w2 ⟨rfl, g2⟩; have q2 := g1.trans g2; obtain ⟨⟨i0, i1, i2, i3⟩, ⟨j0, j1, j2, j3⟩⟩ := B0.out _ q2))
        go_ret
        exact ⟨ret_bool (by rw [HE.out]; simp), hB0.trans q2⟩
      | true =>
        go_enter Try.func28, Try.ntmps28
        go_wp2_with (first
          | (go_at_call 55; with_reducible refine (HQ1.out _ hB0).mono ?_; rintro e w1 ⟨rfl, g1⟩; obtain ⟨⟨k0, k1, k2, k3⟩, ⟨m0, m1, m2, m3⟩⟩ := B0.out _ g1)
          | (go_at_call 55; with_reducible refine (HQ2.out _ (hB0.trans g1)).mono ?_; rintro e w2 ⟨rfl, g2⟩; have hst := store_new w2 (.func (.func 56) #[] #[]) .nilFunc 71 w2.heap.size rfl rfl; have q2 := g1.trans g2; obtain ⟨⟨i0, i1, i2, i3⟩, ⟨j0, j1, j2, j3⟩⟩ := B0.out _ (q2.alloc (.cells #[.func (.func 56) #[] #[]] 71)))
          | (go_at_call 57; with_reducible refine (HQ3.out _ _ (hB0.trans (q2.alloc _)) (by simp) (cell_of_row _ _ 0 _ _ _ (heap_alloc_new _ _))).mono ?_; rintro e w3 ⟨rfl, g3⟩; have q3 := (q2.alloc _).trans g3))
        go_ret
        exact ⟨ret_bool (by rw [HE.out]; simp), hB0.trans q3⟩
end Go.Proofs.Ytiadpjhlomhjeaa

namespace Go.Proofs.Ytiadpjhlomhjeaa
open Go.RowKit

set_option maxRecDepth 100000 in
set_option maxHeartbeats 16000000 in
theorem rSame_any (vf vg : Value) (f g : Fn) (w : World) (hf : FnAt w.heap.size w vf f) (hg : FnAt w.heap.size w vg g) :
    Calls Try.prog 29 #[vf, vg] w fun e w' => e = .returned (.bool (decide (f = g))) ∧ Gr w w' := by
  obtain ⟨vp, vs, vb, rfl, hp, hsl, hb⟩ := hf
  obtain ⟨up, us, ub, rfl, gp, gsl, gb⟩ := hg
  have HQ1 : Hid (∀ w1, Gr w w1 → Calls Try.prog 25 #[vp, up] w1 fun e w' => e = .returned (.bool (decide (f.params = g.params))) ∧ Gr w1 w') := fun w1 q => SameInts_any vp up _ _ w1 (hp.gr q) (gp.gr q)
  have HQ2 : Hid (∀ w1, Gr w w1 → Calls Try.prog 25 #[vs, us] w1 fun e w' => e = .returned (.bool (decide (f.slots = g.slots))) ∧ Gr w1 w') := fun w1 q => SameInts_any vs us _ _ w1 (hsl.gr q) (gsl.gr q)
  have HE := Lib.hid (fn_eq f g)
  obtain ⟨Ap, cp, rfl, -, -, -⟩ := hp
  obtain ⟨As, cs, rfl, -, -, -⟩ := hsl
  obtain ⟨Ab, cb, rfl, -, hb2, hb3⟩ := hb
  obtain ⟨Dp, dp, rfl, -, -, -⟩ := gp
  obtain ⟨Ds, ds, rfl, -, -, -⟩ := gsl
  obtain ⟨Db, db, rfl, -, gb2, gb3⟩ := gb
  have H3 : Hid (0 < f.blocks.length → ∃ b off, Ab = some ⟨b, off, none⟩ ∧ b < w.heap.size ∧ ∀ j l, f.blocks[j]? = some l → ∃ u, w.cell? ⟨b, off + j, none⟩ = some u ∧ BlkAt w.heap.size w u l) := hb3
  have J3 : Hid (0 < g.blocks.length → ∃ b off, Db = some ⟨b, off, none⟩ ∧ b < w.heap.size ∧ ∀ j l, g.blocks[j]? = some l → ∃ u, w.cell? ⟨b, off + j, none⟩ = some u ∧ BlkAt w.heap.size w u l) := gb3
  clear hb3 gb3
  obtain ⟨W, hW⟩ : ∃ W, (w.alloc (.cells #[.slice Ap f.params.length cp, .int .i64 f.ret, .slice As f.slots.length cs, .slice Ab f.blocks.length cb] 25)).alloc (.cells #[.slice Dp g.params.length dp, .int .i64 g.ret, .slice Ds g.slots.length ds, .slice Db g.blocks.length db] 25) = W := ⟨_, rfl⟩
  have hB0 : Gr w W := by rw [← hW]; exact ((Gr.refl w).alloc _).alloc _
  have hWs : W.heap.size = w.heap.size + 2 := by rw [← hW]; simp
  have B0 : Hid (∀ w', Gr W w' → FBox w.heap.size w' f Ap As Ab cp cs cb ∧ FBox (w.heap.size + 1) w' g Dp Ds Db dp ds db) := by
    intro w' q
    refine ⟨(FBox.new (V := w) (by rw [← hW]; exact (Gr.refl _).alloc _) rfl).gr (by omega) q, (FBox.new (V := w.alloc _) (by rw [hW]; exact Gr.refl _) (by simp)).gr (by omega) q⟩
  obtain ⟨⟨c0, c1, c2, c3⟩, ⟨d0, d1, d2, d3⟩⟩ := B0.out W (Gr.refl _)
  obtain ⟨b1, h1⟩ : ∃ b, decide (f.params = g.params) = b := ⟨_, rfl⟩
  obtain ⟨b2, h2⟩ : ∃ b, (f.ret == g.ret) = b := ⟨_, rfl⟩
  obtain ⟨b2', h2'⟩ : ∃ b, (f.ret != g.ret) = b := ⟨_, rfl⟩
  have e2 : b2' = !b2 := by rw [← h2, ← h2']; rfl
  obtain ⟨b3, h3⟩ : ∃ b, decide (f.slots = g.slots) = b := ⟨_, rfl⟩
  rw [h1, h2, h3] at HE
  rw [h1] at HQ1
  rw [h3] at HQ2
  clear h1 h3
  cases b1 with
  | false =>
    go_enter Try.func29, Try.ntmps29
    go_wp2_with (go_at_call 25; with_reducible refine (HQ1.out _ hB0).mono ?_; rintro e w1 ⟨rfl, g1⟩; obtain ⟨⟨k0, k1, k2, k3⟩, ⟨m0, m1, m2, m3⟩⟩ := B0.out _ g1)
    go_ret
    exact ⟨ret_bool (by rw [HE.out]; simp), hB0.trans g1⟩
  | true =>
    cases b2 with
    | false =>
      subst e2
      go_enter Try.func29, Try.ntmps29
      go_wp2_with (go_at_call 25; with_reducible refine (HQ1.out _ hB0).mono ?_; rintro e w1 ⟨rfl, g1⟩; obtain ⟨⟨k0, k1, k2, k3⟩, ⟨m0, m1, m2, m3⟩⟩ := B0.out _ g1)
      go_ret
      exact ⟨ret_bool (by rw [HE.out]; simp), hB0.trans g1⟩
    | true =>
      subst e2
      cases b3 with
      | false =>
        go_enter Try.func29, Try.ntmps29
        go_wp2_with (first
          | (go_at_call 25; with_reducible refine (HQ1.out _ hB0).mono ?_; rintro e w1 ⟨rfl, g1⟩; obtain ⟨⟨k0, k1, k2, k3⟩, ⟨m0, m1, m2, m3⟩⟩ := B0.out _ g1)
          | (go_at_call 25; with_reducible refine (HQ2.out _ (hB0.trans g1)).mono ?_; rintro e w2 ⟨rfl, g2⟩; have q2 := g1.trans g2; obtain ⟨⟨i0, i1, i2, i3⟩, ⟨j0, j1, j2, j3⟩⟩ := B0.out _ q2))
        go_ret
        exact ⟨ret_bool (by rw [HE.out]; simp), hB0.trans q2⟩
      | true =>
        have HE2 : Hid (decide (f = g) = decide (f.blocks = g.blocks)) := by show _ = _; rw [HE.out]; simp
        clear HE
        by_cases hlen : f.blocks.length = g.blocks.length
        · have hl1 : ((f.blocks.length : Int) != (g.blocks.length : Int)) = false := by rw [hlen]; simp
          have HL : Hid (f.blocks.length = g.blocks.length) := hlen
          clear hlen
          go_enter Try.func29, Try.ntmps29
          go_wp2_with (first
            | (go_at_call 25; with_reducible refine (HQ1.out _ hB0).mono ?_; rintro e w1 ⟨rfl, g1⟩; obtain ⟨⟨k0, k1, k2, k3⟩, ⟨m0, m1, m2, m3⟩⟩ := B0.out _ g1)
            | (go_at_call 25; with_reducible refine (HQ2.out _ (hB0.trans g1)).mono ?_; rintro e w2 ⟨rfl, g2⟩; have q2 := g1.trans g2; obtain ⟨⟨i0, i1, i2, i3⟩, ⟨j0, j1, j2, j3⟩⟩ := B0.out _ q2))
          clear c0 c1 c2 c3 d0 d1 d2 d3 k0 k1 k2 k3 m0 m1 m2 m3 i0 i1 i2 i3 j0 j1 j2 j3
          go_loopw [5, 6] (fun i _ wr => ∃ k : Nat, k ≤ f.blocks.length ∧ i = .int .i64 k ∧ Hid (f.blocks.take k = g.blocks.take k) ∧ Gr W wr) (fun i _ _ => f.blocks.length - (intOf i).toNat)
          case atStart => exact ⟨0, Nat.zero_le _, rfl, rfl, q2⟩
          case round =>
            obtain ⟨k, hk, rfl, hrest, hgr⟩ := hrel
            obtain ⟨⟨-, -, -, c3⟩, ⟨-, -, -, d3⟩⟩ := B0.out _ hgr
            by_cases hlt : k < f.blocks.length
            · have hltb : k < g.blocks.length := by have := HL.out; omega
              obtain ⟨ba, oa, rfl, hba, hca⟩ := H3.out (by omega)
              obtain ⟨bb, ob, rfl, hbb, hcb⟩ := J3.out (by omega)
              obtain ⟨l, hl⟩ : ∃ x, f.blocks[k]? = some x := ⟨_, List.getElem?_eq_getElem hlt⟩
              obtain ⟨m, hm⟩ : ∃ x, g.blocks[k]? = some x := ⟨_, List.getElem?_eq_getElem hltb⟩
              obtain ⟨u1, x1, i1⟩ := hca k l hl
              obtain ⟨u2, x2, i2⟩ := hcb k m hm
              obtain ⟨Al, al, rfl, -, hl40, I3⟩ := i1
              obtain ⟨Bl, bl, rfl, -, hm40, K3⟩ := i2
              have I4 : Hid (0 < l.length → ∃ b off, Al = some ⟨b, off, none⟩ ∧ b < w.heap.size ∧ ∀ j x, l[j]? = some x → InsAt w.heap.size w b (off + j * 6) x) := I3
              have K4 : Hid (0 < m.length → ∃ b off, Bl = some ⟨b, off, none⟩ ∧ b < w.heap.size ∧ ∀ j x, m[j]? = some x → InsAt w.heap.size w b (off + j * 6) x) := K3
              have U12 : Hid (∀ w', Gr W w' → w'.cell? ⟨ba, oa + k, none⟩ = some (.slice Al l.length al) ∧ w'.cell? ⟨bb, ob + k, none⟩ = some (.slice Bl m.length bl)) := fun w' q => ⟨((hB0.trans q).cell _ _ hba).trans x1, ((hB0.trans q).cell _ _ hbb).trans x2⟩
              have HX := Lib.hid hl
              have HY := Lib.hid hm
              have z1 : (0 : Int) ≤ (k : Int) := by omega
              have z2 : (k : Int) < (f.blocks.length : Int) := by omega
              have z3 : (k : Int) < (g.blocks.length : Int) := by omega
              obtain ⟨y1, y2⟩ := U12.out _ hgr
              clear hl hm hca hcb hlt hltb x1 x2 I3 K3
              by_cases hlm : l.length = m.length
              · have hl2 : ((l.length : Int) != (m.length : Int)) = false := by rw [hlm]; simp
                have HLM : Hid (l.length = m.length) := hlm
                clear hlm
                go_wp2
                go_quiet (fail)
                go_wp2
                go_loopw [6] (fun i wr => ∃ j : Nat, j ≤ l.length ∧ i = .int .i64 j ∧ Hid (l.take j = m.take j) ∧ Gr W wr) (fun i _ => l.length - (intOf i).toNat)
                case atStart => exact ⟨0, Nat.zero_le _, rfl, rfl, hgr.drewN _⟩
                case round =>
                  obtain ⟨j, hj, rfl, hrest2, hgr2⟩ := hrel
                  obtain ⟨⟨-, -, -, c3⟩, ⟨-, -, -, d3⟩⟩ := B0.out _ hgr2
                  obtain ⟨y1, y2⟩ := U12.out _ hgr2
                  by_cases hlt2 : j < l.length
                  · have hltb2 : j < m.length := by have := HLM.out; omega
                    obtain ⟨pa, qa, rfl, hpa, hpca⟩ := I4.out (by omega)
                    obtain ⟨pb, qb, rfl, hpb, hpcb⟩ := K4.out (by omega)
                    obtain ⟨x, hx⟩ : ∃ x, l[j]? = some x := ⟨_, List.getElem?_eq_getElem hlt2⟩
                    obtain ⟨y, hy⟩ : ∃ x, m[j]? = some x := ⟨_, List.getElem?_eq_getElem hltb2⟩
                    obtain ⟨va, vt, a0, a1, a2, a3, a4, a5, hxa, hxt⟩ := hpca j x hx
                    obtain ⟨ua, ut, e0, e1, e2, e3, e4, e5, hya, hyt⟩ := hpcb j y hy
                    have HC : Hid (∀ w1, Gr w w1 → Calls Try.prog 60 #[insVal x va vt, insVal y ua ut] w1 fun e w' => e = .returned (.bool (decide (x = y))) ∧ Gr w1 w') :=
                      fun w1 q => SameInst_any x y _ _ w1 ⟨va, vt, rfl, hxa.gr q, hxt.gr q⟩ ⟨ua, ut, rfl, hya.gr q, hyt.gr q⟩
                    obtain ⟨Aa, caa, rfl, -, -, -⟩ := hxa
                    obtain ⟨At, cat, rfl, -, -, -⟩ := hxt
                    obtain ⟨Da, daa, rfl, -, -, -⟩ := hya
                    obtain ⟨Dt, dat, rfl, -, -, -⟩ := hyt
                    unfold insVal at HC
                    obtain ⟨ev, hev⟩ : ∃ ev, decide (x = y) = ev := ⟨_, rfl⟩
                    rw [hev] at HC
                    have HEV := Lib.hid hev
                    have HX2 := Lib.hid hx
                    have HY2 := Lib.hid hy
                    have z4 : (0 : Int) ≤ (j : Int) := by omega
                    have z5 : (j : Int) < (l.length : Int) := by omega
                    have z6 : (j : Int) < (m.length : Int) := by omega
                    have hgw2 : Gr w wr := hB0.trans hgr2
                    have U1 : ∀ u : GrW wr, u.val.cell? ⟨w.heap.size, 3, none⟩ = some (.slice (some ⟨ba, oa, none⟩) f.blocks.length cb) := fun u => (B0.out _ (hgr2.trans u.gr)).1.2.2.2
                    have U2 : ∀ u : GrW wr, u.val.cell? ⟨w.heap.size + 1, 3, none⟩ = some (.slice (some ⟨bb, ob, none⟩) g.blocks.length db) := fun u => (B0.out _ (hgr2.trans u.gr)).2.2.2.2
                    have U3 : ∀ u : GrW wr, u.val.cell? ⟨ba, oa + k, none⟩ = some (.slice (some ⟨pa, qa, none⟩) l.length al) := fun u => (U12.out _ (hgr2.trans u.gr)).1
                    have U4 : ∀ u : GrW wr, u.val.cell? ⟨bb, ob + k, none⟩ = some (.slice (some ⟨pb, qb, none⟩) m.length bl) := fun u => (U12.out _ (hgr2.trans u.gr)).2
                    have V0 : ∀ u : GrW wr, u.val.cell? ⟨pa, qa + j * 6, none⟩ = some (.int .i64 x.op) := fun u => ((hgw2.trans u.gr).cell _ _ hpa).trans a0
                    have V1 : ∀ u : GrW wr, u.val.cell? ⟨pa, qa + j * 6 + 1, none⟩ = some (.int .i64 x.width) := fun u => ((hgw2.trans u.gr).cell _ _ hpa).trans a1
                    have V2 : ∀ u : GrW wr, u.val.cell? ⟨pa, qa + j * 6 + 2, none⟩ = some (.int .i64 x.flags) := fun u => ((hgw2.trans u.gr).cell _ _ hpa).trans a2
                    have V3 : ∀ u : GrW wr, u.val.cell? ⟨pa, qa + j * 6 + 3, none⟩ = some (.slice Aa x.args.length caa) := fun u => ((hgw2.trans u.gr).cell _ _ hpa).trans a3
                    have V4 : ∀ u : GrW wr, u.val.cell? ⟨pa, qa + j * 6 + 4, none⟩ = some (.int .u32 x.imm) := fun u => ((hgw2.trans u.gr).cell _ _ hpa).trans a4
                    have V5 : ∀ u : GrW wr, u.val.cell? ⟨pa, qa + j * 6 + 5, none⟩ = some (.slice At x.to.length cat) := fun u => ((hgw2.trans u.gr).cell _ _ hpa).trans a5
                    have X0 : ∀ u : GrW wr, u.val.cell? ⟨pb, qb + j * 6, none⟩ = some (.int .i64 y.op) := fun u => ((hgw2.trans u.gr).cell _ _ hpb).trans e0
                    have X1 : ∀ u : GrW wr, u.val.cell? ⟨pb, qb + j * 6 + 1, none⟩ = some (.int .i64 y.width) := fun u => ((hgw2.trans u.gr).cell _ _ hpb).trans e1
                    have X2 : ∀ u : GrW wr, u.val.cell? ⟨pb, qb + j * 6 + 2, none⟩ = some (.int .i64 y.flags) := fun u => ((hgw2.trans u.gr).cell _ _ hpb).trans e2
                    have X3 : ∀ u : GrW wr, u.val.cell? ⟨pb, qb + j * 6 + 3, none⟩ = some (.slice Da y.args.length daa) := fun u => ((hgw2.trans u.gr).cell _ _ hpb).trans e3
                    have X4 : ∀ u : GrW wr, u.val.cell? ⟨pb, qb + j * 6 + 4, none⟩ = some (.int .u32 y.imm) := fun u => ((hgw2.trans u.gr).cell _ _ hpb).trans e4
                    have X5 : ∀ u : GrW wr, u.val.cell? ⟨pb, qb + j * 6 + 5, none⟩ = some (.slice Dt y.to.length dat) := fun u => ((hgw2.trans u.gr).cell _ _ hpb).trans e5
                    clear hx hy hpca hpcb hev hlt2 hltb2 a0 a1 a2 a3 a4 a5 e0 e1 e2 e3 e4 e5
                    have HGW := Lib.hid hgw2
                    go_wp2
                    refine wp_region_quietGr (by kernel_rfl) (by kernel_rfl) ?_
                    repeat (go_big_quiet_step ((rename_i u; go_at_call 60; exact grW_call u (HC.out _ (HGW.out.trans u.gr)))))
                    refine wpQuiet_nil ?_
                    intro w9 hw9
                    obtain ⟨u9, rfl⟩ := hw9
                    have g6 := u9.gr
                    clear U1 U2 U3 U4 V0 V1 V2 V3 V4 V5 X0 X1 X2 X3 X4 X5
                    cases ev with
                    | true =>
                      go_wp2
                      go_roundw
                      case rel => exact ⟨j + 1, by omega, by go_num, take_step hrest2.out HX2.out HY2.out (of_decide_eq_true HEV.out), hgr2.trans g6⟩
                      case measure => simp [intOf]; omega
                    | false =>
                      go_wp2
                      go_ret
                      exact ⟨ret_bool (by rw [HE2.out]; exact (decide_eq_false (ne_step HX.out HY.out (ne_step HX2.out HY2.out (of_decide_eq_false HEV.out)))).symm), hgw2.trans g6⟩
                  · obtain rfl : j = l.length := by omega
                    go_wp2
                    go_roundw
                    case rel => exact ⟨k + 1, by omega, by go_num, take_step hrest.out HX.out HY.out (take_end hrest2.out HLM.out), hgr2⟩
                    case measure => simp [intOf]; omega
              · have hl2 : ((l.length : Int) != (m.length : Int)) = true := by simp; omega
                have HLM : Hid (l ≠ m) := fun h => hlm (by rw [h])
                clear hlm
                go_wp2
                go_quiet (fail)
                go_wp2
                go_ret
                exact ⟨ret_bool (by rw [HE2.out]; exact (decide_eq_false (ne_step HX.out HY.out HLM.out)).symm), (hB0.trans hgr).drewN _⟩
            · obtain rfl : k = f.blocks.length := by omega
              go_wp2
              go_ret
              exact ⟨ret_bool (by rw [HE2.out]; exact (decide_eq_true (take_end hrest.out HL.out)).symm), hB0.trans hgr⟩
        · have hl1 : ((f.blocks.length : Int) != (g.blocks.length : Int)) = true := by simp; omega
          have HL : Hid (f.blocks ≠ g.blocks) := fun h => hlen (by rw [h])
          clear hlen
          go_enter Try.func29, Try.ntmps29
          go_wp2_with (first
            | (go_at_call 25; with_reducible refine (HQ1.out _ hB0).mono ?_; rintro e w1 ⟨rfl, g1⟩; obtain ⟨⟨k0, k1, k2, k3⟩, ⟨m0, m1, m2, m3⟩⟩ := B0.out _ g1)
            | (go_at_call 25; with_reducible refine (HQ2.out _ (hB0.trans g1)).mono ?_; rintro e w2 ⟨rfl, g2⟩; have q2 := g1.trans g2; obtain ⟨⟨i0, i1, i2, i3⟩, ⟨j0, j1, j2, j3⟩⟩ := B0.out _ q2))
          go_ret
          exact ⟨ret_bool (by rw [HE2.out]; exact (decide_eq_false HL.out).symm), hB0.trans q2⟩
end Go.Proofs.Ytiadpjhlomhjeaa

namespace Go.Proofs.Ytiadpjhlomhjeaa
open Go.RowKit

/-- Rows of numbers and of instructions lie as they lay. -/
def Kt (w w' : World) : Prop := ∀ (k : Nat) (c : Array Value) (t : TypeId), w.heap[k]? = some (Obj.cells c t (0, 0)) → (t = 3 ∨ t = 51) → w'.heap[k]? = some (Obj.cells c t (0, 0))
theorem Kt.refl (w : World) : Kt w w := fun _ _ _ h _ => h
theorem Kt.trans {a b c : World} (h : Kt a b) (k : Kt b c) : Kt a c := fun _ _ _ q t => k _ _ _ (h _ _ _ q t) t
theorem Gr.kt {a b : World} (h : Gr a b) : Kt a b := fun k _ _ q _ => (h.heap k (Array.getElem?_eq_some_iff.1 q).1).trans q

/-- v is a slice of the numbers zs in a row of its own from block n₀ on. -/
def TI (n₀ : Nat) (w : World) (v : Value) (zs : List Int) : Prop :=
  ∃ A c, v = .slice A zs.length c ∧ zs.length ≤ c ∧ zs.length ≤ 17592186044416 ∧ (0 < zs.length → ∃ (b : Nat) (cur : Array Value), A = some ⟨b, 0, none⟩ ∧ n₀ ≤ b ∧ w.heap[b]? = some (.cells cur 3 (0, 0)) ∧ ∀ (j : Nat) (z : Int), zs[j]? = some z → cur[j]? = some (.int .i64 z))
theorem TI.kt {n₀ : Nat} {w w' : World} {v : Value} {zs : List Int} (h : TI n₀ w v zs) (k : Kt w w') : TI n₀ w' v zs := by
  obtain ⟨A, c, rfl, h1, h2, h3⟩ := h
  refine ⟨A, c, rfl, h1, h2, fun hp => ?_⟩
  obtain ⟨b, cur, e, hb, hc, hz⟩ := h3 hp
  exact ⟨b, cur, e, hb, k _ _ _ hc (.inl rfl), hz⟩
theorem TI.gr {n₀ : Nat} {w w' : World} {v : Value} {zs : List Int} (h : TI n₀ w v zs) (k : Gr w w') : TI n₀ w' v zs := h.kt k.kt
theorem TI.lower {n₀ n₁ : Nat} {w : World} {v : Value} {zs : List Int} (h : TI n₁ w v zs) (k : n₀ ≤ n₁) : TI n₀ w v zs := by
  obtain ⟨A, c, rfl, h1, h2, h3⟩ := h
  refine ⟨A, c, rfl, h1, h2, fun hp => ?_⟩
  obtain ⟨b, cur, e, hb, hc⟩ := h3 hp
  exact ⟨b, cur, e, Nat.le_trans k hb, hc⟩
theorem TI.ints {n₀ : Nat} {w : World} {v : Value} {zs : List Int} (h : TI n₀ w v zs) : IntsAt w.heap.size w v zs := by
  obtain ⟨A, c, rfl, h1, h2, h3⟩ := h
  refine ⟨A, c, rfl, h1, h2, fun hp => ?_⟩
  obtain ⟨b, cur, rfl, hb, hc, hz⟩ := h3 hp
  exact ⟨b, 0, rfl, (Array.getElem?_eq_some_iff.1 hc).1, fun j z hj => by rw [Nat.zero_add, cell_of_row w b j cur _ _ hc]; exact hz j z hj⟩
theorem take_get {cur : Array Value} {n j : Nat} {xs : List Value} (h : cur.toList.take n = xs) (hj : j < n) : cur[j]? = xs[j]? := by
  rw [← h, List.getElem?_take, if_pos hj]; simp
theorem Own1.ti {B : Nat} {w : World} {v : Value} {zs : List Int} (h : Own1 B 3 w v (zs.map (Value.int .i64))) (hn : zs.length ≤ 17592186044416) : TI B w v zs := by
  rcases h.2 with ⟨rfl, h0⟩ | ⟨g, cap, cur, rfl, hb, hg, hnc, _, _, ht⟩
  · rw [List.length_map] at h0
    obtain rfl := List.eq_nil_of_length_eq_zero h0
    exact ⟨none, 0, rfl, by simp, by simp, by simp⟩
  · rw [List.length_map] at hnc ht
    refine ⟨_, cap, by rw [List.length_map], hnc, hn, fun hp => ⟨g, cur, rfl, hb, hg, fun j z hj => ?_⟩⟩
    have hjl := (List.getElem?_eq_some_iff.1 hj).1
    rw [take_get ht (by omega), List.getElem?_map, hj]; rfl

/-- The six cells of an instruction in a row. -/
def Six (n₀ : Nat) (w : World) (g : Nat → Option Value) (x : Ins) : Prop :=
  ∃ va vt, g 0 = some (.int .i64 x.op) ∧ g 1 = some (.int .i64 x.width) ∧ g 2 = some (.int .i64 x.flags) ∧ g 3 = some va ∧ g 4 = some (.int .u32 x.imm) ∧ g 5 = some vt ∧ TI n₀ w va x.args ∧ TI n₀ w vt x.to
theorem Six.kt {n₀ : Nat} {w w' : World} {g : Nat → Option Value} {x : Ins} (h : Six n₀ w g x) (k : Kt w w') : Six n₀ w' g x := by
  obtain ⟨va, vt, h0, h1, h2, h3, h4, h5, ha, ht⟩ := h
  exact ⟨va, vt, h0, h1, h2, h3, h4, h5, ha.kt k, ht.kt k⟩
theorem Six.lower {n₀ n₁ : Nat} {w : World} {g : Nat → Option Value} {x : Ins} (h : Six n₁ w g x) (k : n₀ ≤ n₁) : Six n₀ w g x := by
  obtain ⟨va, vt, h0, h1, h2, h3, h4, h5, ha, ht⟩ := h
  exact ⟨va, vt, h0, h1, h2, h3, h4, h5, ha.lower k, ht.lower k⟩
theorem Six.to {n₀ : Nat} {w : World} {g g' : Nat → Option Value} {x : Ins} (h : Six n₀ w g x) (k : ∀ i, i < 6 → g' i = g i) : Six n₀ w g' x := by
  obtain ⟨va, vt, h0, h1, h2, h3, h4, h5, ha, ht⟩ := h
  exact ⟨va, vt, (k 0 (by omega)).trans h0, (k 1 (by omega)).trans h1, (k 2 (by omega)).trans h2, (k 3 (by omega)).trans h3, (k 4 (by omega)).trans h4, (k 5 (by omega)).trans h5, ha, ht⟩

/-- v is a block of instructions in a row of its own from block n₀ on. -/
def TB (n₀ : Nat) (w : World) (v : Value) (l : List Ins) : Prop :=
  ∃ A c, v = .slice A l.length c ∧ l.length ≤ c ∧ l.length ≤ 17592186044416 ∧ (0 < l.length → ∃ (b : Nat) (cur : Array Value), A = some ⟨b, 0, none⟩ ∧ n₀ ≤ b ∧ w.heap[b]? = some (.cells cur 51 (0, 0)) ∧ ∀ (j : Nat) (x : Ins), l[j]? = some x → Six n₀ w (fun i => cur[j * 6 + i]?) x)
theorem TB.kt {n₀ : Nat} {w w' : World} {v : Value} {l : List Ins} (h : TB n₀ w v l) (k : Kt w w') : TB n₀ w' v l := by
  obtain ⟨A, c, rfl, h1, h2, h3⟩ := h
  refine ⟨A, c, rfl, h1, h2, fun hp => ?_⟩
  obtain ⟨b, cur, e, hb, hc, hz⟩ := h3 hp
  exact ⟨b, cur, e, hb, k _ _ _ hc (.inr rfl), fun j x hj => (hz j x hj).kt k⟩
theorem TB.gr {n₀ : Nat} {w w' : World} {v : Value} {l : List Ins} (h : TB n₀ w v l) (k : Gr w w') : TB n₀ w' v l := h.kt k.kt
theorem TB.lower {n₀ n₁ : Nat} {w : World} {v : Value} {l : List Ins} (h : TB n₁ w v l) (k : n₀ ≤ n₁) : TB n₀ w v l := by
  obtain ⟨A, c, rfl, h1, h2, h3⟩ := h
  refine ⟨A, c, rfl, h1, h2, fun hp => ?_⟩
  obtain ⟨b, cur, e, hb, hc, hz⟩ := h3 hp
  exact ⟨b, cur, e, Nat.le_trans k hb, hc, fun j x hj => (hz j x hj).lower k⟩
theorem TB.blk {n₀ : Nat} {w : World} {v : Value} {l : List Ins} (h : TB n₀ w v l) : BlkAt w.heap.size w v l := by
  obtain ⟨A, c, rfl, h1, h2, h3⟩ := h
  refine ⟨A, c, rfl, h1, h2, fun hp => ?_⟩
  obtain ⟨b, cur, rfl, hb, hc, hz⟩ := h3 hp
  refine ⟨b, 0, rfl, (Array.getElem?_eq_some_iff.1 hc).1, fun j x hj => ?_⟩
  obtain ⟨va, vt, q0, q1, q2, q3, q4, q5, ha, ht⟩ := hz j x hj
  have hcell : ∀ i, w.cell? ⟨b, 0 + j * 6 + i, none⟩ = cur[j * 6 + i]? := fun i => by rw [Nat.zero_add]; exact cell_of_row w b _ cur _ _ hc
  exact ⟨va, vt, (hcell 0).trans q0, (hcell 1).trans q1, (hcell 2).trans q2, (hcell 3).trans q3, (hcell 4).trans q4, (hcell 5).trans q5, ha.ints, ht.ints⟩

/-- v owns, in a row from block B on, the instructions l, whose own rows lie from block n₀ on. -/
def OwnI (n₀ B : Nat) (w : World) (v : Value) (l : List Ins) : Prop :=
  ∃ rows : List Value, w.ownsRow B 51 6 v l.length rows ∧ ∀ (j : Nat) (x : Ins), l[j]? = some x → Six n₀ w (fun i => rows[j * 6 + i]?) x
theorem OwnI.nil (n₀ B : Nat) (w : World) : OwnI n₀ B w (.slice none 0 0) [] := ⟨[], World.ownsRow_nil _ _ _ _, fun j x h => by simp at h⟩
theorem OwnI.gr {n₀ B : Nat} {w w' : World} {v : Value} {l : List Ins} (h : OwnI n₀ B w v l) (g : Gr w w') : OwnI n₀ B w' v l := by
  obtain ⟨rows, h1, h2⟩ := h
  exact ⟨rows, own_gr h1 g, fun j x hj => (h2 j x hj).kt g.kt⟩
theorem OwnI.tb {n₀ B : Nat} {w : World} {v : Value} {l : List Ins} (h : OwnI n₀ B w v l) (hn : l.length ≤ 17592186044416) (hB : n₀ ≤ B) : TB n₀ w v l := by
  obtain ⟨rows, h1, h2⟩ := h
  rcases h1.2 with ⟨rfl, h0⟩ | ⟨g, cap, cur, rfl, hb, hg, hnc, _, _, ht⟩
  · obtain rfl := List.eq_nil_of_length_eq_zero h0
    exact ⟨none, 0, rfl, by simp, by simp, by simp⟩
  · refine ⟨_, cap, rfl, hnc, hn, fun hp => ⟨g, cur, rfl, Nat.le_trans hB hb, hg, fun j x hj => ?_⟩⟩
    have hjl := (List.getElem?_eq_some_iff.1 hj).1
    exact (h2 j x hj).to fun i hi => take_get ht (by omega)
theorem OwnI.form {n₀ B : Nat} {w : World} {v : Value} {l : List Ins} (h : OwnI n₀ B w v l) : ∃ A c, v = .slice A l.length c := by
  obtain ⟨rows, h1, -⟩ := h
  obtain ⟨A, c, hv, _⟩ := own_form h1
  exact ⟨A, c, hv⟩
/-- One instruction more: what the append's law says, in these words. -/
theorem OwnI.snoc {n₀ B : Nat} {w w' : World} {v v' : Value} {l : List Ins} {x : Ins} {va vt : Value} {tmp : Obj} {rows : List Value} (h : OwnI n₀ B w v l) (hr : w.ownsRow B 51 6 v l.length rows) (h2 : ∀ (j : Nat) (x : Ins), l[j]? = some x → Six n₀ w (fun i => rows[j * 6 + i]?) x)
    (hown : w'.ownsRow B 51 6 v' (l.length + 1) (rows ++ [.int .i64 x.op, .int .i64 x.width, .int .i64 x.flags, va, .int .u32 x.imm, vt])) (hg : (w.alloc tmp).grownBy w' v.ownBlock) (ha : TI n₀ w va x.args) (ht : TI n₀ w vt x.to) (hB : B ≤ w.heap.size) :
    OwnI n₀ B w' v' (l ++ [x]) ∧ Below B w w' := by
  have hk : ∀ (k : Nat) (c : Array Value), w.heap[k]? = some (Obj.cells c 3 (0, 0)) → w'.heap[k]? = some (Obj.cells c 3 (0, 0)) := by
    intro k c hc
    have hlt := (Array.getElem?_eq_some_iff.1 hc).1
    refine (hg.block k (by simp; omega) (fun e => ?_)).trans ((((Gr.refl w).alloc tmp).heap k hlt).trans hc)
    rcases hr.2 with ⟨rfl, _⟩ | ⟨g, cap, cur, rfl, hb, hgg, _⟩
    · simp [Value.ownBlock] at e
    · simp [Value.ownBlock] at e; subst e
      rw [hgg] at hc; simp at hc
  have hti : ∀ {v : Value} {zs : List Int}, TI n₀ w v zs → TI n₀ w' v zs := by
    intro v zs q
    obtain ⟨A, c, rfl, q1, q2, q3⟩ := q
    refine ⟨A, c, rfl, q1, q2, fun hp => ?_⟩
    obtain ⟨b, cur, e, hb, hc, hz⟩ := q3 hp
    exact ⟨b, cur, e, hb, hk _ _ hc, hz⟩
  have hrl : rows.length = l.length * 6 := hr.1
  refine ⟨⟨_, by rw [List.length_append]; exact hown, fun j y hj => ?_⟩, ?_⟩
  · rcases Nat.lt_trichotomy j l.length with hjl | hjl | hjl
    · rw [List.getElem?_append_left hjl] at hj
      obtain ⟨ua, ut, q0, q1, q2, q3, q4, q5, qa, qt⟩ := h2 j y hj
      have : ∀ i, i < 6 → (rows ++ [Value.int .i64 x.op, .int .i64 x.width, .int .i64 x.flags, va, .int .u32 x.imm, vt])[j * 6 + i]? = rows[j * 6 + i]? := fun i hi => List.getElem?_append_left (by omega)
      exact Six.to ⟨ua, ut, q0, q1, q2, q3, q4, q5, hti qa, hti qt⟩ this
    · subst hjl
      simp at hj; subst hj
      have : ∀ i, i < 6 → (rows ++ [Value.int .i64 x.op, .int .i64 x.width, .int .i64 x.flags, va, .int .u32 x.imm, vt])[l.length * 6 + i]? = [Value.int .i64 x.op, .int .i64 x.width, .int .i64 x.flags, va, .int .u32 x.imm, vt][i]? := fun i hi => by
        rw [List.getElem?_append_right (by omega), hrl]; congr 1; omega
      exact Six.to ⟨va, vt, rfl, rfl, rfl, rfl, rfl, rfl, hti ha, hti ht⟩ this
    · rw [List.getElem?_eq_none (by simp; omega)] at hj; cases hj
  · have hb : ∀ k, v.ownBlock = some k → B ≤ k := fun k hk => (own_block_lt hr k hk).1
    exact (((Below.refl B w).alloc hB tmp)).grown hg (by simp; omega) (fun k hk => hb k hk)
end Go.Proofs.Ytiadpjhlomhjeaa

namespace Go.Proofs.Ytiadpjhlomhjeaa
open Go.RowKit

theorem heap_setCell_ne' {W : World} {B i C : Nat} (v : Value) (h : B ≠ C) : (W.setCell ⟨B, i, none⟩ v).heap[C]? = W.heap[C]? := by
  show (W.heap.modify B _)[C]? = _
  rw [Array.getElem?_modify, if_neg h]
theorem results_inst (fn : Func) (tmps : Array Value) (t : Nat) (w : World) (B : Nat) (v0 v1 v2 v3 v4 v5 : Value) (fr : Nat × Nat) (h : fn.results = #[.cell t 51]) (ht : tmps[t]?.getD undef = .pointer (some ⟨B, 0, none⟩)) (hb : w.heap[B]? = some (.cells #[v0, v1, v2, v3, v4, v5] 51 fr))
    (o0 : ∃ z, v0 = .int .i64 z) (o1 : ∃ z, v1 = .int .i64 z) (o2 : ∃ z, v2 = .int .i64 z) (o3 : ∃ a n c, v3 = .slice a n c) (o4 : ∃ z, v4 = .int .u32 z) (o5 : ∃ a n c, v5 = .slice a n c) :
    (results fn tmps).run Try.prog w = .ok (.agg #[v0, v1, v2, v3, v4, v5]) w := by
  have k0 := cell_of_row _ _ 0 _ _ _ hb
  have k1 := cell_of_row _ _ 1 _ _ _ hb
  have k2 := cell_of_row _ _ 2 _ _ _ hb
  have k3 := cell_of_row _ _ 3 _ _ _ hb
  have k4 := cell_of_row _ _ 4 _ _ _ hb
  have k5 := cell_of_row _ _ 5 _ _ _ hb
  obtain ⟨z0, rfl⟩ := o0
  obtain ⟨z1, rfl⟩ := o1
  obtain ⟨z2, rfl⟩ := o2
  obtain ⟨a3, n3, c3, rfl⟩ := o3
  obtain ⟨z4, rfl⟩ := o4
  obtain ⟨a5, n5, c5, rfl⟩ := o5
  simp [results, h, ht, go_sem, k0, k1, k2, k3, k4, k5]
/-- Six stores into a row of six. -/
theorem six_stores {W : World} {B : Nat} {u0 u1 u2 u3 u4 u5 : Value} {T : TypeId} {fr : Nat × Nat} (h : W.heap[B]? = some (.cells #[u0, u1, u2, u3, u4, u5] T fr)) (v0 v1 v2 v3 v4 v5 : Value) :
    ((((((W.setCell ⟨B, 0, none⟩ v0).setCell ⟨B, 1, none⟩ v1).setCell ⟨B, 2, none⟩ v2).setCell ⟨B, 3, none⟩ v3).setCell ⟨B, 4, none⟩ v4).setCell ⟨B, 5, none⟩ v5).heap[B]? = some (.cells #[v0, v1, v2, v3, v4, v5] T fr) := by
  have := heap_setCell_at (i := 5) v5 (heap_setCell_at (i := 4) v4 (heap_setCell_at (i := 3) v3 (heap_setCell_at (i := 2) v2 (heap_setCell_at (i := 1) v1 (heap_setCell_at (i := 0) v0 h)))))
  simpa using this
theorem six_kt {W : World} {B : Nat} {n₀ : Nat} {row : Array Value} {T : TypeId} {fr : Nat × Nat} {v : Value} {zs : List Int} (hb : W.heap[B]? = some (.cells row T fr)) (h : TI n₀ W v zs) (hT : T ≠ 3) (v0 v1 v2 v3 v4 v5 : Value) :
    TI n₀ ((((((W.setCell ⟨B, 0, none⟩ v0).setCell ⟨B, 1, none⟩ v1).setCell ⟨B, 2, none⟩ v2).setCell ⟨B, 3, none⟩ v3).setCell ⟨B, 4, none⟩ v4).setCell ⟨B, 5, none⟩ v5) v zs := by
  obtain ⟨A, c, rfl, h1, h2, h3⟩ := h
  refine ⟨A, c, rfl, h1, h2, fun hp => ?_⟩
  obtain ⟨b, cur, e, hb', hc, hz⟩ := h3 hp
  have hne : B ≠ b := fun e' => by rw [e', hc] at hb; cases hb; exact hT rfl
  refine ⟨b, cur, e, hb', ?_, hz⟩
  rw [heap_setCell_ne' _ hne, heap_setCell_ne' _ hne, heap_setCell_ne' _ hne, heap_setCell_ne' _ hne, heap_setCell_ne' _ hne, heap_setCell_ne' _ hne]
  exact hc
/-- A row of numbers lies as it lay behind a store into a block of another type. -/
theorem TI.cell_inst {n₀ : Nat} {W : World} {B : Nat} {row : Array Value} {T : TypeId} {fr : Nat × Nat} {v : Value} {zs : List Int} (hb : W.heap[B]? = some (.cells row T fr)) (h : TI n₀ W v zs) (hT : T ≠ 3) (i : Nat) (u : Value) : TI n₀ (W.setCell ⟨B, i, none⟩ u) v zs := by
  obtain ⟨A, c, rfl, h1, h2, h3⟩ := h
  refine ⟨A, c, rfl, h1, h2, fun hp => ?_⟩
  obtain ⟨b, cur, e, hb', hc, hz⟩ := h3 hp
  refine ⟨b, cur, e, hb', (heap_setCell_ne' u (fun e' => ?_)).trans hc, hz⟩
  rw [e', hc] at hb; cases hb; exact hT rfl

set_option maxRecDepth 100000 in
set_option maxHeartbeats 8000000 in
theorem copyInst_any (x : Ins) (v : Value) (w : World) (hx : InsV w.heap.size w v x) :
    Calls Try.prog 62 #[v] w fun e w' => ∃ A3 c3 A4 c4, e = .returned (insVal x (.slice A3 x.args.length c3) (.slice A4 x.to.length c4)) ∧ Hid (TI w.heap.size w' (.slice A3 x.args.length c3) x.args ∧ TI w.heap.size w' (.slice A4 x.to.length c4) x.to) ∧ Gr w w' := by
  obtain ⟨va, vt, rfl, hxa, hxt⟩ := hx
  obtain ⟨W, hW⟩ : ∃ W, (w.alloc (.cells (insVal x va vt).cells 51)).alloc (.cells #[.int .i64 0, .int .i64 0, .int .i64 0, .slice none 0 0, .int .u32 0, .slice none 0 0] 51) = W := ⟨_, rfl⟩
  have hB0 : Gr w W := by rw [← hW]; exact ((Gr.refl w).alloc _).alloc _
  have hWs : W.heap.size = w.heap.size + 2 := by rw [← hW]; simp
  have HC1 : Hid (∀ w1, Gr W w1 → Calls Try.prog 61 #[va] w1 fun e w' => ∃ A c, e = .returned (.slice A x.args.length c) ∧ Hid (TI w.heap.size w' (.slice A x.args.length c) x.args) ∧ Gr w1 w') := fun w1 q =>
    (Clone_own va x.args _ w1 (hxa.gr (hB0.trans q)) (Nat.le_refl _)).mono fun _ _ ⟨A, c, h1, h2, h3⟩ => ⟨A, c, h1, (h2.ti (by obtain ⟨_, _, _, _, h, _⟩ := hxa; exact h)).lower (by have := q.size; omega), h3⟩
  have HC2 : Hid (∀ w1, Gr W w1 → Calls Try.prog 61 #[vt] w1 fun e w' => ∃ A c, e = .returned (.slice A x.to.length c) ∧ Hid (TI w.heap.size w' (.slice A x.to.length c) x.to) ∧ Gr w1 w') := fun w1 q =>
    (Clone_own vt x.to _ w1 (hxt.gr (hB0.trans q)) (Nat.le_refl _)).mono fun _ _ ⟨A, c, h1, h2, h3⟩ => ⟨A, c, h1, (h2.ti (by obtain ⟨_, _, _, _, h, _⟩ := hxt; exact h)).lower (by have := q.size; omega), h3⟩
  obtain ⟨Aa, ca, rfl, -, -, -⟩ := hxa
  obtain ⟨At, ct, rfl, -, -, -⟩ := hxt
  have hr0 : W.heap[w.heap.size]? = some (.cells #[.int .i64 x.op, .int .i64 x.width, .int .i64 x.flags, .slice Aa x.args.length ca, .int .u32 x.imm, .slice At x.to.length ct] 51 (0, 0)) := by
    rw [← hW]; exact (((Gr.refl _).alloc _).heap _ (by simp)).trans (heap_alloc_new w _)
  have hr1 : W.heap[w.heap.size + 1]? = some (.cells #[.int .i64 0, .int .i64 0, .int .i64 0, .slice none 0 0, .int .u32 0, .slice none 0 0] 51 (0, 0)) := by
    rw [← hW]; exact heap_alloc2_new w _ _
  have R0 : Hid (∀ w', Gr W w' → w'.heap[w.heap.size]? = some (.cells #[.int .i64 x.op, .int .i64 x.width, .int .i64 x.flags, .slice Aa x.args.length ca, .int .u32 x.imm, .slice At x.to.length ct] 51 (0, 0))) := fun w' q => (q.heap _ (by omega)).trans hr0
  have R1 : Hid (∀ w', Gr W w' → w'.heap[w.heap.size + 1]? = some (.cells #[.int .i64 0, .int .i64 0, .int .i64 0, .slice none 0 0, .int .u32 0, .slice none 0 0] 51 (0, 0))) := fun w' q => (q.heap _ (by omega)).trans hr1
  have c3 : W.cell? ⟨w.heap.size, 3, none⟩ = some (.slice Aa x.args.length ca) := cell_of_row _ _ 3 _ _ _ hr0
  have c5 : W.cell? ⟨w.heap.size, 5, none⟩ = some (.slice At x.to.length ct) := cell_of_row _ _ 5 _ _ _ hr0
  clear hr0 hr1
  unfold insVal at hW ⊢
  simp only [Value.cells] at hW
  go_enter Try.func62, Try.ntmps62
  go_wp2
  go_region_with (first
    | (go_at_call 61; (with_reducible refine (HC1.out _ (Gr.refl _).drew).mono ?_); rintro e3 w3 ⟨A3, c3, rfl, T3, g30⟩; have g3 : Gr W w3 := (Gr.refl _).drew.trans g30; have r3 := R0.out _ g3; have y3 := cell_of_row _ _ 3 _ _ _ r3; have y5 := cell_of_row _ _ 5 _ _ _ r3)
    | (go_at_call 61; (with_reducible refine (HC2.out _ (Gr.refl _).drew).mono ?_); rintro e4 w4 ⟨A4, c4, rfl, T4, g40⟩; have g4 : Gr W w4 := (Gr.refl _).drew.trans g40; have r4 := R0.out _ g4; have y3 := cell_of_row _ _ 3 _ _ _ r4; have y5 := cell_of_row _ _ 5 _ _ _ r4)
    | (go_at_call 61; (with_reducible refine (HC2.out _ g3).mono ?_); rintro e4 wl ⟨A4, c4, rfl, T4, g40⟩; have gl : Gr W wl := g3.trans g40; have TA := Lib.hid (T3.out.gr g40); have TT := T4; have rl := R0.out _ gl; have z3 := cell_of_row _ _ 3 _ _ _ rl; have z5 := cell_of_row _ _ 5 _ _ _ rl; have f3 := frozen_of_row _ _ 3 _ _ rl; have f5 := frozen_of_row _ _ 5 _ _ rl)
    | (go_at_call 61; (with_reducible refine (HC1.out _ g4).mono ?_); rintro e3 wl ⟨A3, c3, rfl, T3, g30⟩; have gl : Gr W wl := g4.trans g30; have TA := T3; have TT := Lib.hid (T4.out.gr g30); have rl := R0.out _ gl; have z3 := cell_of_row _ _ 3 _ _ _ rl; have z5 := cell_of_row _ _ 5 _ _ _ rl; have f3 := frozen_of_row _ _ 3 _ _ rl; have f5 := frozen_of_row _ _ 5 _ _ rl))
  all_goals
    have rz := heap_setCell_at (i := 5) (.slice A4 x.to.length c4) (heap_setCell_at (i := 3) (.slice A3 x.args.length c3) rl)
    have rq : ((wl.setCell ⟨w.heap.size, 3, none⟩ (.slice A3 x.args.length c3)).setCell ⟨w.heap.size, 5, none⟩ (.slice A4 x.to.length c4)).heap[w.heap.size + 1]? = some (.cells #[.int .i64 0, .int .i64 0, .int .i64 0, .slice none 0 0, .int .u32 0, .slice none 0 0] 51 (0, 0)) :=
      (heap_setCell_ne' _ (by omega)).trans ((heap_setCell_ne' _ (by omega)).trans (R1.out _ gl))
    have hgz : Gr w ((wl.setCell ⟨w.heap.size, 3, none⟩ (.slice A3 x.args.length c3)).setCell ⟨w.heap.size, 5, none⟩ (.slice A4 x.to.length c4)) := ((hB0.trans gl).setCell (by show w.heap.size ≤ w.heap.size; omega) _).setCell (by show w.heap.size ≤ w.heap.size; omega) _
    have hti := TI.cell_inst rl TA.out (by decide) 3 (.slice A3 x.args.length c3)
    have htj := TI.cell_inst rl TT.out (by decide) 3 (.slice A3 x.args.length c3)
    have rl3 := heap_setCell_at (i := 3) (.slice A3 x.args.length c3) rl
    replace hti := TI.cell_inst rl3 hti (by decide) 5 (.slice A4 x.to.length c4)
    replace htj := TI.cell_inst rl3 htj (by decide) 5 (.slice A4 x.to.length c4)
    (try clear r3)
    (try clear r4)
    clear y3 y5 rl z3 z5 f3 f5 rl3
    obtain ⟨wz, hwz⟩ : ∃ wz, (wl.setCell ⟨w.heap.size, 3, none⟩ (.slice A3 x.args.length c3)).setCell ⟨w.heap.size, 5, none⟩ (.slice A4 x.to.length c4) = wz := ⟨_, rfl⟩
    rw [hwz] at rz rq hgz hti htj ⊢
    have k0 := cell_of_row _ _ 0 _ _ _ rz
    have k1 := cell_of_row _ _ 1 _ _ _ rz
    have k2 := cell_of_row _ _ 2 _ _ _ rz
    have k3 := cell_of_row _ _ 3 _ _ _ rz
    have k4 := cell_of_row _ _ 4 _ _ _ rz
    have k5 := cell_of_row _ _ 5 _ _ _ rz
    have m0 := cell_of_row _ _ 0 _ _ _ rq
    have m1 := cell_of_row _ _ 1 _ _ _ rq
    have m2 := cell_of_row _ _ 2 _ _ _ rq
    have m3 := cell_of_row _ _ 3 _ _ _ rq
    have m4 := cell_of_row _ _ 4 _ _ _ rq
    have m5 := cell_of_row _ _ 5 _ _ _ rq
    have n0 := frozen_of_row _ _ 0 _ _ rq
    have n1 := frozen_of_row _ _ 1 _ _ rq
    have n2 := frozen_of_row _ _ 2 _ _ rq
    have n3 := frozen_of_row _ _ 3 _ _ rq
    have n4 := frozen_of_row _ _ 4 _ _ rq
    have n5 := frozen_of_row _ _ 5 _ _ rq
    clear hwz hW
    go_wp2
    refine bodyPost_ret (results_inst _ _ 2 _ (w.heap.size + 1) _ _ _ _ _ _ _ rfl rfl (six_stores rq _ _ _ _ _ _) ⟨_, rfl⟩ ⟨_, rfl⟩ ⟨_, rfl⟩ ⟨_, _, _, rfl⟩ ⟨_, rfl⟩ ⟨_, _, _, rfl⟩) rfl ?_
    refine ⟨A3, c3, A4, c4, rfl, ⟨six_kt rq hti (by decide) _ _ _ _ _ _, six_kt rq htj (by decide) _ _ _ _ _ _⟩, ?_⟩
    iterate 6 refine Gr.setCell ?_ (by show w.heap.size ≤ w.heap.size + 1; omega) _
    exact hgz
end Go.Proofs.Ytiadpjhlomhjeaa

namespace Go.Proofs.Ytiadpjhlomhjeaa
open Go.RowKit

theorem info_inst : (Try.prog.info? 51).map (fun i => (i.zero, i.size, i.bytes)) = some (some (.agg #[.int .i64 0, .int .i64 0, .int .i64 0, .slice none 0 0, .int .u32 0, .slice none 0 0]), 6, 80) := by kernel_rfl
theorem info_blk : (Try.prog.info? 48).map (fun i => (i.zero, i.size, i.bytes)) = some (some (.slice none 0 0), 1, 24) := by kernel_rfl

/-- One instruction more, which has just been laid in a block of its own. -/
theorem app6 {P : Program} {w : World} {ops : Array Oper} {rest : List Oper} {o : Oper} {a : Act} {Q : Exit → Act → World → Prop} {B : Nat} {t e : TypeId} {i : TypeInfo} {z : Value} {bytes : Nat}
    (ht : P.underlying t = some (.slice e)) (hi : P.info? e = some i) (hz : i.zero = some z) (hsize : i.size = 6) (hby : i.bytes = bytes) (hzs : z.cells.size = 6) (hbb : bytes ≤ 128)
    (hgd : o.guard = none) (s x : Operand) (ho : o.op = .call { callee := .builtin .append, args := #[s, x], argTypes := #[t, t] })
    {v : Value} {n : Nat} {rows : List Value} (hs : a.eval s = v) (hown : w.ownsRow B e 6 v n rows) {y0 y1 y2 y3 y4 y5 : Value} {e' : TypeId} (hy : ∀ y ∈ [y0, y1, y2, y3, y4, y5], y.oneCell' = true) (hx : a.eval x = .slice (some ⟨w.heap.size, 0, none⟩) 1 1) (hlt : n < 1099511627776) (hB : B ≤ w.heap.size)
    (h : ∀ A c w', w'.ownsRow B e 6 (.slice A (n + 1) c) (n + 1) (rows ++ [y0, y1, y2, y3, y4, y5]) → (w.alloc (.cells #[y0, y1, y2, y3, y4, y5] e')).grownBy w' v.ownBlock → wpList P ops Q rest (a.put o.dst (.slice A (n + 1) c)) w') :
    wpList P ops Q (o :: rest) a (w.alloc (.cells #[y0, y1, y2, y3, y4, y5] e')) := by
  refine wpList_append_src hgd s x t ho B e i z 6 bytes ht hi hz hsize hby hzs (by omega) v n rows hs (own_gr hown ((Gr.refl _).alloc _)) _ 1 [y0, y1, y2, y3, y4, y5] hx (Src.newN w [y0, y1, y2, y3, y4, y5] e') hy ?_ ?_ ?_ ?_
  · simp only [maxLen]; omega
  · have : (n + 1) * bytes ≤ (n + 1) * 128 := Nat.mul_le_mul_left _ hbb
    omega
  · simp; omega
  · intro v' w' hown' hg _
    obtain ⟨A, c, hv, _⟩ := own_form hown'
    subst hv
    exact h A c w' hown' hg

/-- What the loop over the blocks keeps: of the first k blocks a copy lies in the box Bo; the boxes of the function and of the result lie as they lay. -/
def CInv (w wb : World) (Bo : Nat) (f : Fn) (vp vs : Value) (row : Array Value) (k : Nat) (vb : Value) (wr : World) : Prop :=
  ∃ us : List Value, wr.heap[Bo]? = some (.cells #[vp, .int .i64 f.ret, vs, vb] 25 (0, 0)) ∧ Own1 wb.heap.size 48 wr vb us ∧ us.length = k ∧ (∀ (j : Nat) (l : List Ins), j < k → f.blocks[j]? = some l → ∃ u, us[j]? = some u ∧ TB w.heap.size wr u l) ∧
    TI w.heap.size wr vp f.params ∧ TI w.heap.size wr vs f.slots ∧ Gr w wr ∧ wr.heap[w.heap.size]? = some (.cells row 25 (0, 0)) ∧ wr.heap[w.heap.size + 1]? = some (.cells #[.slice none 0 0, .int .i64 0, .slice none 0 0, .slice none 0 0] 25 (0, 0)) ∧
    wb.heap.size ≤ wr.heap.size ∧ w.heap.size + 1 < Bo ∧ w.heap.size ≤ wb.heap.size
section
variable {w wb wr wr' : World} {Bo : Nat} {f : Fn} {vp vs vb : Value} {row : Array Value} {k : Nat}
theorem CInv.gr (h : CInv w wb Bo f vp vs row k vb wr) (g : Gr wr wr') : CInv w wb Bo f vp vs row k vb wr' := by
  obtain ⟨us, h1, h2, h3, h4, h5, h6, h7, h8, h9, h10, h11, h12⟩ := h
  have hh : ∀ {b : Nat} {o : Obj}, wr.heap[b]? = some o → wr'.heap[b]? = some o := fun q => (g.heap _ (Array.getElem?_eq_some_iff.1 q).1).trans q
  refine ⟨us, hh h1, h2.gr g, h3, fun j l hj hl => ?_, h5.gr g, h6.gr g, h7.trans g, hh h8, hh h9, Nat.le_trans h10 g.size, h11, h12⟩
  obtain ⟨u, q1, q2⟩ := h4 j l hj hl
  exact ⟨u, q1, q2.gr g⟩
theorem CInv.box (h : CInv w wb Bo f vp vs row k vb wr) : wr.heap[Bo]? = some (.cells #[vp, .int .i64 f.ret, vs, vb] 25 (0, 0)) := h.choose_spec.1
theorem CInv.toGr (h : CInv w wb Bo f vp vs row k vb wr) : Gr w wr := by obtain ⟨us, -, -, -, -, -, -, h7, -⟩ := h; exact h7
theorem CInv.src (h : CInv w wb Bo f vp vs row k vb wr) : wr.heap[w.heap.size]? = some (.cells row 25 (0, 0)) := by obtain ⟨us, -, -, -, -, -, -, -, h8, -⟩ := h; exact h8
theorem CInv.res (h : CInv w wb Bo f vp vs row k vb wr) : wr.heap[w.heap.size + 1]? = some (.cells #[.slice none 0 0, .int .i64 0, .slice none 0 0, .slice none 0 0] 25 (0, 0)) := by obtain ⟨us, -, -, -, -, -, -, -, -, h9, -⟩ := h; exact h9
theorem CInv.form (h : CInv w wb Bo f vp vs row k vb wr) : ∃ A c, vb = .slice A k c := by
  obtain ⟨us, -, h2, h3, -⟩ := h
  obtain ⟨A, c, e⟩ := h2.form
  exact ⟨A, c, by rw [e, h3]⟩
/-- 'out.Blocks = append(out.Blocks, block)'. -/
theorem CInv.append {ops : Array Oper} {rest : List Oper} {o : Oper} {a : Act} {Q : Exit → Act → World → Prop} {i : TypeInfo} {z u : Value} {l : List Ins} (h : CInv w wb Bo f vp vs row k vb wr) (hu : TB w.heap.size wr u l) (hl : f.blocks[k]? = some l) (hk : k < 1000000000)
    (hi : Try.prog.info? 48 = some i) (hz : i.zero = some z) (hsize : i.size = 1) (hby : i.bytes = 24) (hzs : z.cells.size = 1)
    (hgd : o.guard = none) (s x : Operand) (ho : o.op = .call { callee := .builtin .append, args := #[s, x], argTypes := #[23, 23] }) (hs : a.eval s = vb) (hx : a.eval x = .slice (some ⟨wr.heap.size, 0, none⟩) 1 1) {e' : TypeId}
    (hK : ∀ g c w1, w1.heap[Bo]? = some (.cells #[vp, .int .i64 f.ret, vs, vb] 25 (0, 0)) → CInv w wb Bo f vp vs row (k + 1) (.slice (some ⟨g, 0, none⟩) (k + 1) c) (w1.setCell ⟨Bo, 3, none⟩ (.slice (some ⟨g, 0, none⟩) (k + 1) c)) → wpList Try.prog ops Q rest (a.put o.dst (.slice (some ⟨g, 0, none⟩) (k + 1) c)) w1) :
    wpList Try.prog ops Q (o :: rest) a (wr.alloc (.cells #[u] e')) := by
  obtain ⟨us, h1, h2, h3, h4, h5, h6, h7, h8, h9, h10, h11, h12⟩ := h
  have hu0 := hu
  obtain ⟨Au, cu, rfl, -, -, -⟩ := hu
  refine wpList_append_src hgd s x 23 ho wb.heap.size 48 i z 1 24 Try.underlying23 hi hz hsize hby hzs (by omega) vb us.length us hs (own_gr h2 ((Gr.refl _).alloc _)) _ 1 [.slice Au l.length cu] hx (Src.new1 _ _ _) ?_ ?_ ?_ ?_ ?_
  · intro y hy; simp at hy; subst hy; rfl
  · simp only [maxLen]; omega
  · omega
  · simp; omega
  · intro v' w1 hown' hg hat
    obtain ⟨g, c, rfl⟩ := ownsRow_succ hown'
    have hown2 : Own1 wb.heap.size 48 w1 (.slice (some ⟨g, 0, none⟩) (us.length + 1) c) (us ++ [.slice Au l.length cu]) := by unfold Own1; rw [List.length_append]; exact hown'
    obtain ⟨m1, m2, m3, m4, m5, m6, m7, m8⟩ := field_append (i := 3) (n₀ := wb.heap.size) (ys := us ++ [.slice Au l.length cu]) h1 (by decide) h2 hown2 hg hat
    rw [h3] at hown2 m2 m3 m7 m8 ⊢
    have hsz1 : wr.heap.size ≤ w1.heap.size := by have := hg.size; simp at this; omega
    have hkt : Kt wr (w1.setCell ⟨Bo, 3, none⟩ (.slice (some ⟨g, 0, none⟩) (k + 1) c)) := fun b cc t hb ht => m8 b cc t hb (by rcases ht with rfl | rfl <;> decide) (fun e => by
      rw [e, h1] at hb; rcases ht with rfl | rfl <;> cases hb)
    refine hK g c w1 m1 ⟨us ++ [.slice Au l.length cu], m2, m3, by simp [h3], fun j l' hj hl' => ?_, h5.kt hkt, h6.kt hkt, h7.below (m7 w.heap.size h12 (by omega) h7.size) (Nat.le_refl _), m8 _ _ _ h8 (by decide) (by omega), m8 _ _ _ h9 (by decide) (by omega), ?_, h11, h12⟩
    · rcases Nat.lt_or_ge j k with hjk | hjk
      · obtain ⟨u', q1, q2⟩ := h4 j l' hjk hl'
        exact ⟨u', by rw [List.getElem?_append_left (by omega)]; exact q1, q2.kt hkt⟩
      · obtain rfl : j = k := by omega
        rw [hl] at hl'; cases hl'
        exact ⟨_, by rw [← h3]; simp, hu0.kt hkt⟩
    · have := (KeepsWalks.setCell w1 ⟨Bo, 3, none⟩ (.slice (some ⟨g, 0, none⟩) (k + 1) c)).size
      omega

/-- v is a copy of f: in rows of its own from block n₀ on. -/
def CpAt (n₀ : Nat) (w : World) (v : Value) (f : Fn) : Prop :=
  ∃ vp vs vb us, v = .agg #[vp, .int .i64 f.ret, vs, vb] ∧ TI n₀ w vp f.params ∧ TI n₀ w vs f.slots ∧ Own1 n₀ 48 w vb us ∧ us.length = f.blocks.length ∧ ∀ (j : Nat) (l : List Ins), f.blocks[j]? = some l → ∃ u, us[j]? = some u ∧ TB n₀ w u l
theorem Own1.lower' {B B' : Nat} {e : TypeId} {w : World} {v : Value} {xs : List Value} (h : Own1 B' e w v xs) (hB : B ≤ B') : Own1 B e w v xs := h.lower hB
theorem CpAt.fn {n₀ : Nat} {v : Value} (h : CpAt n₀ w v f) (hn : f.blocks.length ≤ 17592186044416) : FnAt w.heap.size w v f := by
  obtain ⟨vp, vs, vb, us, rfl, h1, h2, h3, h4, h5⟩ := h
  refine ⟨vp, vs, vb, rfl, h1.ints, h2.ints, ?_⟩
  obtain ⟨A, c, hv, hc, _, _⟩ := own_form h3
  refine ⟨A, c, by rw [hv, h4], by omega, hn, fun hp => ?_⟩
  obtain ⟨b, rfl, hb, _, hcell⟩ := own_cells h3 hv (by omega)
  refine ⟨b, 0, rfl, hb, fun j l hl => ?_⟩
  obtain ⟨u, q1, q2⟩ := h5 j l hl
  have hj := (List.getElem?_eq_some_iff.1 hl).1
  exact ⟨u, by rw [Nat.zero_add, hcell j (by omega), q1], q2.blk⟩
end
end Go.Proofs.Ytiadpjhlomhjeaa

namespace Go.Proofs.Ytiadpjhlomhjeaa
open Go.RowKit

theorem results_fn (fn : Func) (tmps : Array Value) (t : Nat) (w : World) (B : Nat) (v0 v1 v2 v3 : Value) (fr : Nat × Nat) (h : fn.results = #[.cell t 25]) (ht : tmps[t]?.getD undef = .pointer (some ⟨B, 0, none⟩)) (hb : w.heap[B]? = some (.cells #[v0, v1, v2, v3] 25 fr))
    (o0 : ∃ a n c, v0 = .slice a n c) (o1 : ∃ z, v1 = .int .i64 z) (o2 : ∃ a n c, v2 = .slice a n c) (o3 : ∃ a n c, v3 = .slice a n c) :
    (results fn tmps).run Try.prog w = .ok (.agg #[v0, v1, v2, v3]) w := by
  have k0 := cell_of_row _ _ 0 _ _ _ hb
  have k1 := cell_of_row _ _ 1 _ _ _ hb
  have k2 := cell_of_row _ _ 2 _ _ _ hb
  have k3 := cell_of_row _ _ 3 _ _ _ hb
  obtain ⟨a0, n0, c0, rfl⟩ := o0
  obtain ⟨z1, rfl⟩ := o1
  obtain ⟨a2, n2, c2, rfl⟩ := o2
  obtain ⟨a3, n3, c3, rfl⟩ := o3
  simp [results, h, ht, go_sem, k0, k1, k2, k3]
theorem four_stores {W : World} {B : Nat} {u0 u1 u2 u3 : Value} {T : TypeId} {fr : Nat × Nat} (h : W.heap[B]? = some (.cells #[u0, u1, u2, u3] T fr)) (v0 v1 v2 v3 : Value) :
    ((((W.setCell ⟨B, 0, none⟩ v0).setCell ⟨B, 1, none⟩ v1).setCell ⟨B, 2, none⟩ v2).setCell ⟨B, 3, none⟩ v3).heap[B]? = some (.cells #[v0, v1, v2, v3] T fr) := by
  have := heap_setCell_at (i := 3) v3 (heap_setCell_at (i := 2) v2 (heap_setCell_at (i := 1) v1 (heap_setCell_at (i := 0) v0 h)))
  simpa using this
theorem four_other {W : World} {B k : Nat} (v0 v1 v2 v3 : Value) (h : B ≠ k) : ((((W.setCell ⟨B, 0, none⟩ v0).setCell ⟨B, 1, none⟩ v1).setCell ⟨B, 2, none⟩ v2).setCell ⟨B, 3, none⟩ v3).heap[k]? = W.heap[k]? := by
  rw [heap_setCell_ne' _ h, heap_setCell_ne' _ h, heap_setCell_ne' _ h, heap_setCell_ne' _ h]
theorem four_kt {W : World} {B : Nat} {row : Array Value} {fr : Nat × Nat} (hb : W.heap[B]? = some (.cells row 25 fr)) (v0 v1 v2 v3 : Value) : Kt W ((((W.setCell ⟨B, 0, none⟩ v0).setCell ⟨B, 1, none⟩ v1).setCell ⟨B, 2, none⟩ v2).setCell ⟨B, 3, none⟩ v3) := by
  intro k c t hk ht
  rw [four_other _ _ _ _ (fun e => by rw [e, hk] at hb; rcases ht with rfl | rfl <;> cases hb)]
  exact hk
theorem four_gr {w W : World} {B : Nat} (h : Gr w W) (hB : w.heap.size ≤ B) (v0 v1 v2 v3 : Value) : Gr w ((((W.setCell ⟨B, 0, none⟩ v0).setCell ⟨B, 1, none⟩ v1).setCell ⟨B, 2, none⟩ v2).setCell ⟨B, 3, none⟩ v3) := by
  iterate 4 refine Gr.setCell ?_ hB _
  exact h
theorem four_size (W : World) (B : Nat) (v0 v1 v2 v3 : Value) : ((((W.setCell ⟨B, 0, none⟩ v0).setCell ⟨B, 1, none⟩ v1).setCell ⟨B, 2, none⟩ v2).setCell ⟨B, 3, none⟩ v3).heap.size = W.heap.size := by simp

section
variable {w W wl : World} {Bo : Nat} {f : Fn} {vp vs : Value} {row : Array Value}
/-- The box has been laid ahead of the last of the calls, and written behind them. -/
theorem CInv.start (hB0 : Gr w W) (hr0 : W.heap[w.heap.size]? = some (.cells row 25 (0, 0))) (hr1 : W.heap[w.heap.size + 1]? = some (.cells #[.slice none 0 0, .int .i64 0, .slice none 0 0, .slice none 0 0] 25 (0, 0))) (gl : Gr W wl)
    (hbx : wl.heap[Bo]? = some (.cells #[.slice none 0 0, .int .i64 0, .slice none 0 0, .slice none 0 0] 25 (0, 0))) (hBo : w.heap.size + 1 < Bo) (ta : TI w.heap.size wl vp f.params) (tt : TI w.heap.size wl vs f.slots) :
    CInv w ((((wl.setCell ⟨Bo, 0, none⟩ vp).setCell ⟨Bo, 1, none⟩ (.int .i64 f.ret)).setCell ⟨Bo, 2, none⟩ vs).setCell ⟨Bo, 3, none⟩ (.slice none 0 0)) Bo f vp vs row 0 (.slice none 0 0) ((((wl.setCell ⟨Bo, 0, none⟩ vp).setCell ⟨Bo, 1, none⟩ (.int .i64 f.ret)).setCell ⟨Bo, 2, none⟩ vs).setCell ⟨Bo, 3, none⟩ (.slice none 0 0)) := by
  have hk := four_kt hbx vp (.int .i64 f.ret) vs (.slice none 0 0)
  have hg := four_gr (hB0.trans gl) (B := Bo) (by omega) vp (.int .i64 f.ret) vs (.slice none 0 0)
  exact ⟨[], four_stores hbx _ _ _ _, Own1.nil _ _ _, rfl, fun j l h => by omega, ta.kt hk, tt.kt hk, hg,
    (four_other _ _ _ _ (by omega)).trans ((gl.heap _ (Array.getElem?_eq_some_iff.1 hr0).1).trans hr0), (four_other _ _ _ _ (by omega)).trans ((gl.heap _ (Array.getElem?_eq_some_iff.1 hr1).1).trans hr1), Nat.le_refl _, hBo, hg.size⟩
/-- The box is laid last. -/
theorem CInv.start' (hB0 : Gr w W) (hr0 : W.heap[w.heap.size]? = some (.cells row 25 (0, 0))) (hr1 : W.heap[w.heap.size + 1]? = some (.cells #[.slice none 0 0, .int .i64 0, .slice none 0 0, .slice none 0 0] 25 (0, 0))) (gl : Gr W wl)
    (ta : TI w.heap.size wl vp f.params) (tt : TI w.heap.size wl vs f.slots) :
    CInv w (wl.alloc (.cells #[vp, .int .i64 f.ret, vs, .slice none 0 0] 25)) wl.heap.size f vp vs row 0 (.slice none 0 0) (wl.alloc (.cells #[vp, .int .i64 f.ret, vs, .slice none 0 0] 25)) := by
  have ga : Gr wl (wl.alloc (.cells #[vp, .int .i64 f.ret, vs, .slice none 0 0] 25)) := (Gr.refl _).alloc _
  have hg := hB0.trans (gl.trans ga)
  have h1 := (Array.getElem?_eq_some_iff.1 hr1).1
  have h2 := gl.size
  exact ⟨[], heap_alloc_new _ _, Own1.nil _ _ _, rfl, fun j l h => by omega, ta.gr ga, tt.gr ga, hg,
    ((gl.trans ga).heap _ (Array.getElem?_eq_some_iff.1 hr0).1).trans hr0, ((gl.trans ga).heap _ (Array.getElem?_eq_some_iff.1 hr1).1).trans hr1, Nat.le_refl _, by omega, hg.size⟩
/-- The copy is handed on through the result's box. -/
theorem CInv.done {wb wr : World} {vb : Value} (h : CInv w wb Bo f vp vs row f.blocks.length vb wr) :
    CpAt w.heap.size ((((wr.setCell ⟨w.heap.size + 1, 0, none⟩ vp).setCell ⟨w.heap.size + 1, 1, none⟩ (.int .i64 f.ret)).setCell ⟨w.heap.size + 1, 2, none⟩ vs).setCell ⟨w.heap.size + 1, 3, none⟩ vb) (.agg #[vp, .int .i64 f.ret, vs, vb]) f ∧
    Gr w ((((wr.setCell ⟨w.heap.size + 1, 0, none⟩ vp).setCell ⟨w.heap.size + 1, 1, none⟩ (.int .i64 f.ret)).setCell ⟨w.heap.size + 1, 2, none⟩ vs).setCell ⟨w.heap.size + 1, 3, none⟩ vb) := by
  obtain ⟨us, h1, h2, h3, h4, h5, h6, h7, h8, h9, h10, h11, h12⟩ := h
  have hk := four_kt h9 vp (.int .i64 f.ret) vs vb
  refine ⟨⟨vp, vs, vb, us, rfl, h5.kt hk, h6.kt hk, ?_, h3, fun j l hl => ?_⟩, four_gr h7 (by omega) _ _ _ _⟩
  · refine (h2.lower h12).keep fun k hk => four_other _ _ _ _ (fun e => ?_)
    obtain ⟨-, -, cur, hc⟩ := h2.typed hk
    rw [← e, h9] at hc; cases hc
  · obtain ⟨u, q1, q2⟩ := h4 j l (List.getElem?_eq_some_iff.1 hl).1 hl
    exact ⟨u, q1, q2.kt hk⟩
end

set_option maxRecDepth 100000 in
set_option maxHeartbeats 16000000 in
theorem iCopy_any (v : Value) (f : Fn) (w : World) (hf : FnAt w.heap.size w v f) (hs : f.blocks.length ≤ 100000) (hln : Hid (∀ l ∈ f.blocks, l.length ≤ 100000)) :
    Calls Try.prog 31 #[v] w fun e w' => ∃ A1 c1 A2 c2 A3 c3, e = .returned (.agg #[.slice A1 f.params.length c1, .int .i64 f.ret, .slice A2 f.slots.length c2, .slice A3 f.blocks.length c3]) ∧ Hid (CpAt w.heap.size w' (.agg #[.slice A1 f.params.length c1, .int .i64 f.ret, .slice A2 f.slots.length c2, .slice A3 f.blocks.length c3]) f) ∧ Gr w w' := by
  obtain ⟨i1, hi, hz0, hz1, hz2⟩ := info_parts info_blk
  obtain ⟨i6, hj6, hy0, hy1, hy2⟩ := info_parts info_inst
  obtain ⟨vp, vs, vb, rfl, hp, hsl, hb⟩ := hf
  obtain ⟨Ap, cp, rfl, hp1, hp2, -⟩ := id hp
  obtain ⟨As, cs, rfl, hs1, hs2, -⟩ := id hsl
  obtain ⟨Ab, cb, rfl, hb1, hb2, hb3⟩ := hb
  have H3 : Hid (0 < f.blocks.length → ∃ b off, Ab = some ⟨b, off, none⟩ ∧ b < w.heap.size ∧ ∀ j l, f.blocks[j]? = some l → ∃ u, w.cell? ⟨b, off + j, none⟩ = some u ∧ BlkAt w.heap.size w u l) := hb3
  obtain ⟨W, hW⟩ : ∃ W, (w.alloc (.cells #[.slice Ap f.params.length cp, .int .i64 f.ret, .slice As f.slots.length cs, .slice Ab f.blocks.length cb] 25)).alloc (.cells #[.slice none 0 0, .int .i64 0, .slice none 0 0, .slice none 0 0] 25) = W := ⟨_, rfl⟩
  have hB0 : Gr w W := by rw [← hW]; exact ((Gr.refl w).alloc _).alloc _
  have hWs : W.heap.size = w.heap.size + 2 := by rw [← hW]; simp
  have HC1 : Hid (∀ w1, Gr W w1 → Calls Try.prog 61 #[.slice Ap f.params.length cp] w1 fun e w' => ∃ A c, e = .returned (.slice A f.params.length c) ∧ Hid (TI w.heap.size w' (.slice A f.params.length c) f.params) ∧ Gr w1 w') := fun w1 q =>
    (Clone_own _ f.params _ w1 (hp.gr (hB0.trans q)) (Nat.le_refl _)).mono fun _ _ ⟨A, c, h1, h2, h3⟩ => ⟨A, c, h1, (h2.ti hp2).lower (by have := q.size; omega), h3⟩
  have HC2 : Hid (∀ w1, Gr W w1 → Calls Try.prog 61 #[.slice As f.slots.length cs] w1 fun e w' => ∃ A c, e = .returned (.slice A f.slots.length c) ∧ Hid (TI w.heap.size w' (.slice A f.slots.length c) f.slots) ∧ Gr w1 w') := fun w1 q =>
    (Clone_own _ f.slots _ w1 (hsl.gr (hB0.trans q)) (Nat.le_refl _)).mono fun _ _ ⟨A, c, h1, h2, h3⟩ => ⟨A, c, h1, (h2.ti hs2).lower (by have := q.size; omega), h3⟩
  obtain ⟨row, hrow⟩ : ∃ row : Array Value, #[.slice Ap f.params.length cp, .int .i64 f.ret, .slice As f.slots.length cs, .slice Ab f.blocks.length cb] = row := ⟨_, rfl⟩
  have hr0' : W.heap[w.heap.size]? = some (.cells #[.slice Ap f.params.length cp, .int .i64 f.ret, .slice As f.slots.length cs, .slice Ab f.blocks.length cb] 25 (0, 0)) := by
    rw [← hW]; exact (((Gr.refl _).alloc _).heap _ (by simp)).trans (heap_alloc_new w _)
  have hr1 : W.heap[w.heap.size + 1]? = some (.cells #[.slice none 0 0, .int .i64 0, .slice none 0 0, .slice none 0 0] 25 (0, 0)) := by
    rw [← hW]; exact heap_alloc2_new w _ _
  have HROW := Lib.hid hrow
  have HR1 := Lib.hid hr1
  have KP : Hid (∀ w', Gr W w' → w'.cell? ⟨w.heap.size, 0, none⟩ = some (.slice Ap f.params.length cp) ∧ w'.cell? ⟨w.heap.size, 1, none⟩ = some (.int .i64 f.ret) ∧ w'.cell? ⟨w.heap.size, 2, none⟩ = some (.slice As f.slots.length cs)) := fun w' q => by
    have h := (q.heap _ (by omega)).trans hr0'
    exact ⟨cell_of_row _ _ 0 _ _ _ h, cell_of_row _ _ 1 _ _ _ h, cell_of_row _ _ 2 _ _ _ h⟩
  have HR0 : Hid (W.heap[w.heap.size]? = some (.cells row 25 (0, 0))) := by show _ = _; rw [← hrow]; exact hr0'
  clear hr0' hr1 hb3 hrow
  have HZ : Hid (∀ w', Gr (W.alloc (.cells #[.slice none 0 0, .int .i64 0, .slice none 0 0, .slice none 0 0] 25)) w' → w'.heap[w.heap.size + 2]? = some (.cells #[.slice none 0 0, .int .i64 0, .slice none 0 0, .slice none 0 0] 25 (0, 0))) := fun w' q => by
    rw [← hWs]
    exact (q.heap _ (by simp)).trans (heap_alloc_new W _)
  go_enter Try.func31, Try.ntmps31
  go_upto_region 1 with fail
  go_cut [3] from 9 to 17 (fun s3 wx => ∃ Bo A1 c1 A2 c2, s3 = .pointer (some ⟨Bo, 0, none⟩) ∧ Hid (CInv w wx Bo f (.slice A1 f.params.length c1) (.slice A2 f.slots.length c2) row 0 (.slice none 0 0) wx))
  case first =>
    go_region_held3 (fun w' => w'.cell? ⟨w.heap.size, 0, none⟩ = some (.slice Ap f.params.length cp) ∧ w'.cell? ⟨w.heap.size, 1, none⟩ = some (.int .i64 f.ret) ∧ w'.cell? ⟨w.heap.size, 2, none⟩ = some (.slice As f.slots.length cs))
      (first | exact KP.out _ (Gr.refl W).drew | exact KP.out _ gl | exact KP.out _ g3 | exact KP.out _ g4 | exact KP.out _ ((Gr.refl W).alloc _).drew | exact KP.out _ ((Gr.refl W).drew.alloc _) | exact KP.out _ (g3.alloc _) | exact KP.out _ (g4.alloc _) | exact KP.out _ (gl.alloc _) | exact KP.out _ (four_gr gl (by first | omega | (have := g3.size; omega) | (have := g4.size; omega)) _ _ _ _))
      (first
        | (go_at_call 61; (with_reducible refine (HC1.out _ (Gr.refl _).drew).mono ?_); rintro e3 w3 ⟨A3, c3, rfl, T3, g30⟩; have g3 : Gr W w3 := (Gr.refl _).drew.trans g30)
        | (go_at_call 61; (with_reducible refine (HC2.out _ (Gr.refl _).drew).mono ?_); rintro e4 w4 ⟨A4, c4, rfl, T4, g40⟩; have g4 : Gr W w4 := (Gr.refl _).drew.trans g40)
        | (go_at_call 61; (with_reducible refine (HC1.out _ ((Gr.refl _).alloc _).drew).mono ?_); rintro e3 w3 ⟨A3, c3, rfl, T3, g30⟩; have g3 : Gr W w3 := ((Gr.refl _).alloc _).drew.trans g30; have hb3 := HZ.out _ ((Gr.refl _).drew.trans g30))
        | (go_at_call 61; (with_reducible refine (HC2.out _ ((Gr.refl _).alloc _).drew).mono ?_); rintro e4 w4 ⟨A4, c4, rfl, T4, g40⟩; have g4 : Gr W w4 := ((Gr.refl _).alloc _).drew.trans g40; have hb3 := HZ.out _ ((Gr.refl _).drew.trans g40))
        | (go_at_call 61; (with_reducible refine (HC2.out _ g3).mono ?_); rintro e4 wl ⟨A4, c4, rfl, T4, g40⟩; have gl : Gr W wl := g3.trans g40; have TA := Lib.hid (T3.out.gr g40); have TT := T4; (try (have hbx := (g40.heap _ (Array.getElem?_eq_some_iff.1 hb3).1).trans hb3; have x0 := cell_of_row _ _ 0 _ _ _ hbx; have x1 := cell_of_row _ _ 1 _ _ _ hbx; have x2 := cell_of_row _ _ 2 _ _ _ hbx; have x3 := cell_of_row _ _ 3 _ _ _ hbx; have y0 := frozen_of_row _ _ 0 _ _ hbx; have y1 := frozen_of_row _ _ 1 _ _ hbx; have y2 := frozen_of_row _ _ 2 _ _ hbx; have y3 := frozen_of_row _ _ 3 _ _ hbx)))
        | (go_at_call 61; (with_reducible refine (HC2.out _ (g3.alloc (.cells #[.slice none 0 0, .int .i64 0, .slice none 0 0, .slice none 0 0] 25))).mono ?_); rintro e4 wl ⟨A4, c4, rfl, T4, g40⟩; have gl : Gr W wl := (g3.alloc _).trans g40; have TA := Lib.hid ((T3.out.gr ((Gr.refl _).alloc _)).gr g40); have TT := T4; have hbx := (g40.heap _ (Array.getElem?_eq_some_iff.1 (heap_alloc_new w3 (.cells #[.slice none 0 0, .int .i64 0, .slice none 0 0, .slice none 0 0] 25))).1).trans (heap_alloc_new w3 (.cells #[.slice none 0 0, .int .i64 0, .slice none 0 0, .slice none 0 0] 25)); have x0 := cell_of_row _ _ 0 _ _ _ hbx; have x1 := cell_of_row _ _ 1 _ _ _ hbx; have x2 := cell_of_row _ _ 2 _ _ _ hbx; have x3 := cell_of_row _ _ 3 _ _ _ hbx; have y0 := frozen_of_row _ _ 0 _ _ hbx; have y1 := frozen_of_row _ _ 1 _ _ hbx; have y2 := frozen_of_row _ _ 2 _ _ hbx; have y3 := frozen_of_row _ _ 3 _ _ hbx)
        | (go_at_call 61; (with_reducible refine (HC1.out _ g4).mono ?_); rintro e3 wl ⟨A3, c3, rfl, T3, g30⟩; have gl : Gr W wl := g4.trans g30; have TA := T3; have TT := Lib.hid (T4.out.gr g30); (try (have hbx := (g30.heap _ (Array.getElem?_eq_some_iff.1 hb3).1).trans hb3; have x0 := cell_of_row _ _ 0 _ _ _ hbx; have x1 := cell_of_row _ _ 1 _ _ _ hbx; have x2 := cell_of_row _ _ 2 _ _ _ hbx; have x3 := cell_of_row _ _ 3 _ _ _ hbx; have y0 := frozen_of_row _ _ 0 _ _ hbx; have y1 := frozen_of_row _ _ 1 _ _ hbx; have y2 := frozen_of_row _ _ 2 _ _ hbx; have y3 := frozen_of_row _ _ 3 _ _ hbx)))
        | (go_at_call 61; (with_reducible refine (HC1.out _ (g4.alloc (.cells #[.slice none 0 0, .int .i64 0, .slice none 0 0, .slice none 0 0] 25))).mono ?_); rintro e3 wl ⟨A3, c3, rfl, T3, g30⟩; have gl : Gr W wl := (g4.alloc _).trans g30; have TA := T3; have TT := Lib.hid ((T4.out.gr ((Gr.refl _).alloc _)).gr g30); have hbx := (g30.heap _ (Array.getElem?_eq_some_iff.1 (heap_alloc_new w4 (.cells #[.slice none 0 0, .int .i64 0, .slice none 0 0, .slice none 0 0] 25))).1).trans (heap_alloc_new w4 (.cells #[.slice none 0 0, .int .i64 0, .slice none 0 0, .slice none 0 0] 25)); have x0 := cell_of_row _ _ 0 _ _ _ hbx; have x1 := cell_of_row _ _ 1 _ _ _ hbx; have x2 := cell_of_row _ _ 2 _ _ _ hbx; have x3 := cell_of_row _ _ 3 _ _ _ hbx; have y0 := frozen_of_row _ _ 0 _ _ hbx; have y1 := frozen_of_row _ _ 1 _ _ hbx; have y2 := frozen_of_row _ _ 2 _ _ hbx; have y3 := frozen_of_row _ _ 3 _ _ hbx))
    all_goals go_wp2_with fail
    all_goals go_meet
    all_goals refine ⟨_, A3, c3, A4, c4, rfl, ?_⟩
    all_goals refine Lib.hid ?_
    all_goals first
      | with_reducible exact CInv.start' hB0 HR0.out HR1.out gl TA.out TT.out
      | with_reducible exact CInv.start hB0 HR0.out HR1.out gl hbx (by first | omega | (have := g3.size; omega) | (have := g4.size; omega)) TA.out TT.out
  case rest =>
    obtain ⟨Bo, A1, c1, A2, c2, rfl, HI0⟩ := hcut
    obtain ⟨u1, h1, -, -, -, -, -, hg0, h8, -, -, hBo, -⟩ := HI0.out
    rw [← HROW.out] at h8
    have hk0 := cell_of_row _ _ 3 _ _ _ h8
    clear h1 h8 hp hsl hW KP HR0 HR1 HC1 HC2 HZ
    go_wp2
    go_loopw [5, 6, 8, 21] (fun _ _ _ i wr => ∃ (k : Nat) (vb : Value), k ≤ f.blocks.length ∧ i = .int .i64 k ∧ Hid (CInv w wc Bo f (.slice A1 f.params.length c1) (.slice A2 f.slots.length c2) row k vb wr)) (fun _ _ _ i _ => f.blocks.length - (intOf i).toNat)
    case atStart => exact ⟨0, _, Nat.zero_le _, rfl, HI0⟩
    case round =>
      obtain ⟨k, vb, hk, rfl, HI⟩ := hrel
      have hwo : ∃ wo, wo = wr := ⟨wr, rfl⟩
      obtain ⟨wo, ewo⟩ := hwo
      subst ewo
      by_cases hlt : k < f.blocks.length
      · obtain ⟨bb, ob, rfl, hbb, hcells⟩ := H3.out (by omega)
        obtain ⟨l, hl⟩ : ∃ l, f.blocks[k]? = some l := ⟨_, List.getElem?_eq_getElem hlt⟩
        obtain ⟨u, hu0, hul⟩ := hcells k l hl
        have hll := hln.out l (List.mem_of_getElem? hl)
        obtain ⟨Al, cl, rfl, hl1, hl2, hl3⟩ := hul
        have hgw := HI.out.toGr
        have hu := (hgw.cell _ _ hbb).trans hu0
        have HL := Lib.hid hl
        have H4 : Hid (0 < l.length → ∃ b off, Al = some ⟨b, off, none⟩ ∧ b < w.heap.size ∧ ∀ j x, l[j]? = some x → InsAt w.heap.size w b (off + j * 6) x) := hl3
        have z1 : (k : Int) < (f.blocks.length : Int) := by omega
        clear hl hcells hu0 hl3 hlt
        go_wp2
        go_loopw [6, 8, 27] (fun b _ i wx => ∃ j : Nat, j ≤ l.length ∧ i = .int .i64 j ∧ Hid (OwnI w.heap.size wo.heap.size wx b (l.take j)) ∧ Gr wo wx) (fun _ _ i _ => l.length - (intOf i).toNat)
        case atStart => exact ⟨0, Nat.zero_le _, rfl, OwnI.nil _ _ _, Gr.refl _⟩
        case round =>
          obtain ⟨j, hj, rfl, HO, hgx⟩ := hrel
          have hgwx := hgw.trans hgx
          by_cases hlt2 : j < l.length
          · obtain ⟨bl, ol, rfl, hbl, hcells2⟩ := H4.out (by omega)
            obtain ⟨x, hx⟩ : ∃ x, l[j]? = some x := ⟨_, List.getElem?_eq_getElem hlt2⟩
            obtain ⟨va, vt, x0, x1, x2, x3, x4, x5, hxa, hxt⟩ := hcells2 j x hx
            have HCI : Hid (∀ w1, Gr w w1 → Calls Try.prog 62 #[insVal x va vt] w1 fun e w' => ∃ A3 c3 A4 c4, e = .returned (insVal x (.slice A3 x.args.length c3) (.slice A4 x.to.length c4)) ∧ Hid (TI w1.heap.size w' (.slice A3 x.args.length c3) x.args ∧ TI w1.heap.size w' (.slice A4 x.to.length c4) x.to) ∧ Gr w1 w') :=
              fun w1 q => copyInst_any x _ w1 ⟨va, vt, rfl, hxa.gr q, hxt.gr q⟩
            obtain ⟨Aa, ca, rfl, -, -, -⟩ := hxa
            obtain ⟨At, ct, rfl, -, -, -⟩ := hxt
            unfold insVal at HCI
            replace x0 := (hgwx.cell _ _ hbl).trans x0
            replace x1 := (hgwx.cell _ _ hbl).trans x1
            replace x2 := (hgwx.cell _ _ hbl).trans x2
            replace x3 := (hgwx.cell _ _ hbl).trans x3
            replace x4 := (hgwx.cell _ _ hbl).trans x4
            replace x5 := (hgwx.cell _ _ hbl).trans x5
            have HX := Lib.hid hx
            have z2 : (j : Int) < (l.length : Int) := by omega
            obtain ⟨m, hm⟩ : ∃ m, l.take j = m := ⟨_, rfl⟩
            have hml : m.length ≤ 100000 := by rw [← hm, List.length_take]; omega
            rw [hm] at HO
            have HM : Hid (l.take (j + 1) = m ++ [x]) := by show _ = _; rw [List.take_add_one, hm, hx]; rfl
            clear hx hcells2 hlt2 hm
            go_wp2_with (first
              | (go_at_call 62; refine (HCI.out _ (hgwx.alloc _)).mono ?_; rintro e w1 ⟨A3, c3, A4, c4, rfl, HT, g1⟩; have gx1 := ((Gr.refl _).alloc _).trans g1; obtain ⟨rows, hrw, hsix⟩ := HO.out.gr gx1)
              | (at_builtin; refine app6 Try.underlying48 hj6 hy0 hy1 hy2 rfl (by omega) rfl _ _ rfl rfl hrw (by simp [Value.oneCell']) rfl (by omega) (by have := (hgx.trans gx1).size; omega) ?_; intro A5 c5 w2 hown2 hg2))
            obtain ⟨q1, q2⟩ := OwnI.snoc (HO.out.gr gx1) hrw hsix hown2 hg2 (HT.out.1.lower (by have := hgwx.size; simp; omega)) (HT.out.2.lower (by have := hgwx.size; simp; omega)) (hgx.trans gx1).size
            go_roundw
            case rel => exact ⟨j + 1, by omega, by go_num, by rw [HM.out]; exact q1, (hgx.trans gx1).below q2 (Nat.le_refl _)⟩
            case measure => simp [intOf]; omega
          · obtain rfl : j = l.length := by omega
            have HO2 := HO.out
            rw [List.take_length] at HO2
            obtain ⟨Au, cu, rfl⟩ := HO2.form
            have HTB : Hid (TB w.heap.size wr (.slice Au l.length cu) l) := HO2.tb (by omega) hgw.size
            obtain ⟨Avb, cvb, rfl⟩ := HI.out.form
            have HI1 := Lib.hid (HI.out.gr hgx)
            have hbx := HI1.out.box
            have b3 := cell_of_row _ _ 3 _ _ _ hbx
            clear hbx HI HO HO2
            go_wp2_with (at_builtin; refine CInv.append HI1.out HTB.out HL.out (by omega) hi hz0 hz1 hz2 rfl rfl _ _ rfl rfl rfl ?_; intro g5 c5 w5 hm5 HI5; have d3 := cell_of_row _ _ 3 _ _ _ hm5; have e3 := frozen_of_row _ _ 3 _ _ hm5; have HJ := Lib.hid HI5; clear hm5 HI5)
            go_roundw
            case rel => exact ⟨k + 1, _, by omega, by go_num, HJ⟩
            case measure => simp [intOf]; omega
      · obtain rfl : k = f.blocks.length := by omega
        obtain ⟨A3, c3, rfl⟩ := HI.out.form
        have hbx := HI.out.box
        have hrs := HI.out.res
        have b0 := cell_of_row _ _ 0 _ _ _ hbx
        have b1 := cell_of_row _ _ 1 _ _ _ hbx
        have b2 := cell_of_row _ _ 2 _ _ _ hbx
        have b3 := cell_of_row _ _ 3 _ _ _ hbx
        have r0 := cell_of_row _ _ 0 _ _ _ hrs
        have r1 := cell_of_row _ _ 1 _ _ _ hrs
        have r2 := cell_of_row _ _ 2 _ _ _ hrs
        have r3 := cell_of_row _ _ 3 _ _ _ hrs
        have f0 := frozen_of_row _ _ 0 _ _ hrs
        have f1 := frozen_of_row _ _ 1 _ _ hrs
        have f2 := frozen_of_row _ _ 2 _ _ hrs
        have f3 := frozen_of_row _ _ 3 _ _ hrs
        have HRS := Lib.hid hrs
        clear hbx hrs
        go_wp2
        refine bodyPost_ret (results_fn _ _ 2 _ (w.heap.size + 1) _ _ _ _ _ rfl rfl (four_stores HRS.out _ _ _ _) ⟨_, _, _, rfl⟩ ⟨_, rfl⟩ ⟨_, _, _, rfl⟩ ⟨_, _, _, rfl⟩) rfl ?_
        obtain ⟨q1, q2⟩ := HI.out.done
        exact ⟨A1, c1, A2, c2, A3, c3, rfl, q1, q2⟩
end Go.Proofs.Ytiadpjhlomhjeaa

namespace Go.Proofs.Ytiadpjhlomhjeaa
open Go.RowKit

/-- Each operation waits for earlier ones alone. -/
def backB (l : List Oper) : Bool := (List.range l.length).all fun i => ((l[i]?).map fun o => o.after.all fun e => !Region.binds .any e || decide (e.on < i)).getD true
theorem backB_spec {l : List Oper} (h : backB l = true) {i : Nat} {o : Oper} (hi : l[i]? = some o) : ∀ e ∈ o.after, Region.binds .any e = true → e.on < i := by
  intro e he hb
  have hlt := (List.getElem?_eq_some_iff.1 hi).1
  have h1 := List.all_eq_true.1 h i (List.mem_range.2 hlt)
  rw [hi] at h1
  simp only [Option.map_some, Option.getD_some] at h1
  rw [Array.all_eq_true_iff_forall_mem] at h1
  have := h1 e he
  rw [hb] at this
  simpa using this
theorem getD_tt {listed : Array Bool} {i : Nat} (hi : i < listed.size) : (listed.getD i true = false ↔ listed.getD i false = false) := by
  simp [hi]

section
variable {P : Program} {Q : Exit → Act → World → Prop}
theorem wpAny_inv {l : List Oper} (hdep : backB l = true) (J : Array Bool → Act → World → Prop)
    (hstep : ∀ (i : Nat) (o : Oper) (listed : Array Bool) (a : Act) (w : World), l[i]? = some o → listed.size = l.length → listed.getD i false = false → (∀ e ∈ o.after, Region.binds .any e = true → listed.getD e.on false = true) → J listed a w →
      if Region.wanted o (yielded l.toArray a.tmps) = true then o.wp P a w (J (listed.setIfInBounds i true)) Q else J (listed.setIfInBounds i true) (a.put o.dst undef) w)
    (hdone : ∀ (listed : Array Bool) (a : Act) (w : World), (∀ i, i < l.length → listed.getD i false = true) → J listed a w → Q .normal a w) :
    ∀ (fuel : Nat) (listed : Array Bool) (a : Act) (w : World), listed.size = l.length → listed.toList.count false = fuel → J listed a w → wpAny P .any l.toArray Q fuel listed a w := by
  have hall : ∀ (listed : Array Bool), listed.size = l.length → Region.ready .any l.toArray listed = [] → ∀ i, i < l.length → listed.getD i false = true := by
    intro listed hsz hr i
    induction i using Nat.strongRecOn with
    | ind i ih =>
      intro hi
      cases hb : listed.getD i false with
      | true => rfl
      | false =>
        obtain ⟨o, ho⟩ : ∃ o, l[i]? = some o := ⟨_, List.getElem?_eq_getElem hi⟩
        have hm : i ∈ Region.ready .any l.toArray listed := mem_ready.2 ⟨(getD_tt (by omega)).2 hb, o, by simpa using ho, fun e he hbd => by
          have hlt := backB_spec hdep ho e he hbd
          exact ih e.on hlt (by omega)⟩
        rw [hr] at hm; cases hm
  intro fuel
  induction fuel with
  | zero =>
    intro listed a w hsz hc hJ
    have hr : Region.ready .any l.toArray listed = [] := by
      apply List.eq_nil_iff_forall_not_mem.2
      intro i hi
      obtain ⟨h1, -⟩ := mem_ready.1 hi
      have hlt : i < listed.size := by
        rcases Nat.lt_or_ge i listed.size with h | h
        · exact h
        · simp [Array.getElem?_eq_none h] at h1
      have : false ∈ listed.toList := by
        have e : listed[i] = false := by simpa [hlt] using h1
        rw [← e]; simp
      exact absurd this (List.count_eq_zero.1 hc)
    exact ⟨hr, hdone _ _ _ (hall _ hsz hr) hJ⟩
  | succ fuel ih =>
    intro listed a w hsz hc hJ
    refine ⟨fun hr => hdone _ _ _ (hall _ hsz hr) hJ, fun i hi => ?_⟩
    obtain ⟨h1, o, ho, hafter⟩ := mem_ready.1 hi
    have hlt : i < listed.size := by
      rcases Nat.lt_or_ge i listed.size with h | h
      · exact h
      · simp [Array.getElem?_eq_none h] at h1
    have he : listed[i] = false := by simpa [hlt] using h1
    have hc' : (listed.setIfInBounds i true).toList.count false = fuel := by
      rw [Array.toList_setIfInBounds, List.count_set (by simpa using hlt)]
      simp [he, hc]
    have hs := hstep i o listed a w (by simpa using ho) hsz ((getD_tt hlt).1 h1) hafter hJ
    unfold wpOp
    rw [ho]
    dsimp only
    split
    · next hw =>
      rw [if_pos hw] at hs
      exact .inl (Oper.wp_mono (fun a' w' h => ih _ a' w' (by simpa using hsz) hc' h) hs)
    · next hw =>
      rw [if_neg hw] at hs
      exact ih _ _ _ (by simpa using hsz) hc' hs
/-- THE REGION, by its invariant. -/
theorem wp_region_inv {id : Nat} {a : Act} {w : World} {l : List Oper} (hm : P.follows .mixedOrders = true) (hdep : backB l = true) (J : Array Bool → Act → World → Prop) (h0 : J (Array.replicate l.length false) a w.drew)
    (hstep : ∀ (i : Nat) (o : Oper) (listed : Array Bool) (a : Act) (w : World), l[i]? = some o → listed.size = l.length → listed.getD i false = false → (∀ e ∈ o.after, Region.binds .any e = true → listed.getD e.on false = true) → J listed a w →
      if Region.wanted o (yielded l.toArray a.tmps) = true then o.wp P a w (J (listed.setIfInBounds i true)) Q else J (listed.setIfInBounds i true) (a.put o.dst undef) w)
    (hdone : ∀ (listed : Array Bool) (a : Act) (w : World), (∀ i, i < l.length → listed.getD i false = true) → J listed a w → Q .normal a w) : (Code.region id l.toArray true).wp P Q a w := by
  refine wp_region_any hm ?_
  exact wpAny_inv hdep J hstep hdone _ _ _ _ (by simp) (by simp) h0
end
end Go.Proofs.Ytiadpjhlomhjeaa

namespace Go.Proofs.Ytiadpjhlomhjeaa
open Go.RowKit

section
variable {P : Program} {w : World}
theorem run_append_empty (t ty e : TypeId) (i : TypeInfo) (z : Value) (ht : P.underlying t = some (.slice e)) (hi : P.info? e = some i) (hz : i.zero = some z) (hsize : i.size = 1) (hzs : z.cells.size = 1)
    (g : Nat) (u : Value) (ys : List Value) (hu : Src w u 1 ys.length ys) (hn : ys.length ≤ 17592186044416) (hb : ys.length * i.bytes ≤ 140737488355328) (h1 : ∀ y ∈ ys, y.oneCell' = true) :
    ∃ A c w', (Builtin.append_ #[t, t] ty #[.slice (some ⟨g, 0, none⟩) 0 0, u]).run P w = .ok (.slice A ys.length c) w' ∧ Gr w w' ∧ ys.length ≤ c ∧ (0 < ys.length → Own1 w.heap.size e w' (.slice A ys.length c) ys) := by
  obtain ⟨A, c, rfl, hl, hc⟩ := hu
  rcases Nat.eq_zero_or_pos ys.length with h0 | h0
  · refine ⟨some ⟨g, 0, none⟩, 0, w, ?_, Gr.refl w, by omega, by omega⟩
    rw [h0]
    cases A with
    | none => simp [Builtin.append_, run_underlying ht, sizeOf, typeInfo, hi, Builtin.lenOf, Builtin.firstCells, storeCells]
    | some ad => simp [Builtin.append_, run_underlying ht, sizeOf, typeInfo, hi, Builtin.lenOf, Builtin.firstCells, loadCells, loadCellsFrom, storeCells]
  · obtain ⟨ad, rfl, hcell⟩ := hc h0
    have hown : w.ownsRow w.heap.size e i.size (.slice none 0 0) 0 [] := World.ownsRow_nil _ _ _ _
    obtain ⟨v', w', hr, q1, q2, -, q4⟩ := run_append_own_at (P := P) w w.heap.size t ty e i z 1 i.bytes ht hi hz hsize rfl (by rw [hzs]) (by omega) (.slice none 0 0) 0 [] (World.ownsRow_nil _ _ _ _) ad ys.length c ys hl hcell h1 (by simp only [maxLen]; omega) (by rw [Nat.zero_add]; exact hb) (Nat.le_refl _)
    have hg := run_append_grow (P := P) w t ty e i z ht hi hz ⟨g, 0, none⟩ 0 0 [] (by simp) (by simp) ad ys.length c ys (by rw [hsize]; exact hl) hcell (by omega) (by omega) (by rw [Nat.zero_add, nextslicecap_zero h0]; omega)
    have hnil := run_append_nil (P := P) w t ty e i z ht hi hz ad ys.length c ys (by rw [hsize]; exact hl) hcell (by omega) (by omega) (by omega)
    rw [hnil] at hr
    injection hr with hv hw
    subst hv; subst hw
    refine ⟨_, _, _, ?_, ?_, ?_, fun _ => by unfold Own1; simpa using q1⟩
    · rw [hg]
      simp
    · exact (Gr.drew (Gr.refl w)).alloc _
    · have := grownCap_ge w ys.length 0 e
      omega

/-- The numbers of a slice, appended to a fresh empty one. -/
theorem wp_appE {o : Oper} {a : Act} {K : Act → World → Prop} {Q : Exit → Act → World → Prop} {t : TypeId} {i : TypeInfo} {z : Value} {C : Nat}
    (ht : P.underlying t = some (.slice 3)) (hi : P.info? 3 = some i) (hz : i.zero = some z) (hsize : i.size = 1) (hby : i.bytes = 8) (hzs : z.cells.size = 1)
    (s x : Operand) (ho : o.op = .call { callee := .builtin .append, args := #[s, x], argTypes := #[t, t] }) {g : Nat} (hs : a.eval s = .slice (some ⟨g, 0, none⟩) 0 0) {u : Value} {ys : List Int} (hu : IntsAt C w u ys) (hx : a.eval x = u)
    (h : ∀ A c w', TI w.heap.size w' (.slice A ys.length c) ys → Gr w w' → K (a.put o.dst (.slice A ys.length c)) w') : o.wp P a w K Q := by
  have hl : (ys.map (Value.int .i64)).length = ys.length := List.length_map _
  have hn : ys.length ≤ 17592186044416 := by obtain ⟨_, _, _, _, q, _⟩ := hu; exact q
  obtain ⟨A, c, w', hr, q1, q2, q3⟩ := run_append_empty (P := P) (w := w) t o.type 3 i z ht hi hz hsize hzs g u (ys.map (Value.int .i64)) (by rw [hl]; exact Src.ints hu) (by rw [hl]; exact hn) (by rw [hl, hby]; omega) (oneCell_int _ _)
  rw [hl] at hr q2 q3
  unfold Oper.wp execOp
  simp only [ho, resolve, invoke, builtin, Sem.run_bind, Sem.run_pure, Result.andThen_ok, List.map_toArray, List.map_cons, List.map_nil, hs, hx, hr]
  refine h A c w' ?_ q1
  rcases Nat.eq_zero_or_pos ys.length with h0 | h0
  · exact ⟨A, c, rfl, q2, hn, fun hp => absurd hp (by omega)⟩
  · exact (q3 h0).ti hn
theorem wpList_appE {ops : Array Oper} {rest : List Oper} {o : Oper} {a : Act} {Q : Exit → Act → World → Prop} {t : TypeId} {i : TypeInfo} {z : Value} {C : Nat}
    (ht : P.underlying t = some (.slice 3)) (hi : P.info? 3 = some i) (hz : i.zero = some z) (hsize : i.size = 1) (hby : i.bytes = 8) (hzs : z.cells.size = 1)
    (hgd : o.guard = none) (s x : Operand) (ho : o.op = .call { callee := .builtin .append, args := #[s, x], argTypes := #[t, t] }) {g : Nat} (hs : a.eval s = .slice (some ⟨g, 0, none⟩) 0 0) {u : Value} {ys : List Int} (hu : IntsAt C w u ys) (hx : a.eval x = u)
    (h : ∀ A c w', TI w.heap.size w' (.slice A ys.length c) ys → Gr w w' → wpList P ops Q rest (a.put o.dst (.slice A ys.length c)) w') : wpList P ops Q (o :: rest) a w :=
  wpList_plain hgd fun _ hK => wp_appE ht hi hz hsize hby hzs s x ho hs hu hx fun A c w' h1 h2 => hK _ _ (h A c w' h1 h2)
end
end Go.Proofs.Ytiadpjhlomhjeaa

namespace Go.Proofs.Ytiadpjhlomhjeaa
open Go.RowKit

/-- What is known while the region of the first text of Copy is carried out: L says which operations have come up. -/
def CopyJ (w W : World) (f : Fn) (Ap As : Option Addr) (cp cs : Nat) (row : Array Value) (L : Nat → Bool) (v3 v8 v9 v10 v11 v12 v13 v14 v15 v16 v17 v18 : Value) (w' : World) : Prop :=
  Gr W w' ∧ (L 0 = true → ∃ g : Nat, v8 = .slice (some ⟨g, 0, none⟩) 0 0) ∧
    (L 1 = true → v9 = .pointer (some ⟨w.heap.size, 0, none⟩)) ∧
    (L 2 = true → v10 = .slice Ap f.params.length cp) ∧
    (L 3 = true → ∃ (A : Option Addr) (c : Nat), v11 = .slice A f.params.length c ∧ TI w.heap.size w' (.slice A f.params.length c) f.params) ∧
    (L 4 = true → v12 = .pointer (some ⟨w.heap.size, 1, none⟩)) ∧
    (L 5 = true → v13 = .int .i64 f.ret) ∧
    (L 6 = true → ∃ g : Nat, v14 = .slice (some ⟨g, 0, none⟩) 0 0) ∧
    (L 7 = true → v15 = .pointer (some ⟨w.heap.size, 2, none⟩)) ∧
    (L 8 = true → v16 = .slice As f.slots.length cs) ∧
    (L 9 = true → ∃ (A : Option Addr) (c : Nat), v17 = .slice A f.slots.length c ∧ TI w.heap.size w' (.slice A f.slots.length c) f.slots) ∧
    (L 10 = true → (L 3 = true ∧ L 5 = true ∧ L 9 = true) ∧ v18 = .agg #[v11, v13, v17, .slice none 0 0]) ∧
    (L 11 = true → L 12 = false → ∃ Bo : Nat, v3 = .pointer (some ⟨Bo, 0, none⟩) ∧ W.heap.size ≤ Bo ∧ w'.heap[Bo]? = some (Obj.cells #[.slice none 0 0, .int .i64 0, .slice none 0 0, .slice none 0 0] 25 (0, 0))) ∧
    (L 12 = true → (∀ j, j < 12 → L j = true) ∧ ∃ (Bo : Nat) (A1 : Option Addr) (c1 : Nat) (A2 : Option Addr) (c2 : Nat), v3 = .pointer (some ⟨Bo, 0, none⟩) ∧ CInv w w' Bo f (.slice A1 f.params.length c1) (.slice A2 f.slots.length c2) row 0 (.slice none 0 0) w')
section
variable {w W w' w'' : World} {f : Fn} {Ap As : Option Addr} {cp cs : Nat} {row : Array Value} {L L' : Nat → Bool} {v3 v8 v9 v10 v11 v12 v13 v14 v15 v16 v17 v18 : Value}
theorem CopyJ.s0 (h : CopyJ w W f Ap As cp cs row L v3 v8 v9 v10 v11 v12 v13 v14 v15 v16 v17 v18 w') (g' : Gr w' w'') (hun : L 0 = false) (hL : ∀ j, j ≠ 0 → L' j = L j) (g : Nat) : CopyJ w W f Ap As cp cs row L' v3 (.slice (some ⟨g, 0, none⟩) 0 0) v9 v10 v11 v12 v13 v14 v15 v16 v17 v18 w'' := by
  obtain ⟨hG, h0, h1, h2, h3, h4, h5, h6, h7, h8, h9, h10, h11, h12⟩ := h
  refine ⟨hG.trans g', ?_, ?_, ?_, ?_, ?_, ?_, ?_, ?_, ?_, ?_, ?_, ?_, ?_⟩
  · intro _; exact ⟨g, rfl⟩
  · rw [hL 1 (by decide)]; exact h1
  · rw [hL 2 (by decide)]; exact h2
  · rw [hL 3 (by decide)]; intro hl; obtain ⟨A, c, e, t⟩ := h3 hl; exact ⟨A, c, e, t.gr g'⟩
  · rw [hL 4 (by decide)]; exact h4
  · rw [hL 5 (by decide)]; exact h5
  · rw [hL 6 (by decide)]; exact h6
  · rw [hL 7 (by decide)]; exact h7
  · rw [hL 8 (by decide)]; exact h8
  · rw [hL 9 (by decide)]; intro hl; obtain ⟨A, c, e, t⟩ := h9 hl; exact ⟨A, c, e, t.gr g'⟩
  · rw [hL 10 (by decide), hL 3 (by decide), hL 5 (by decide), hL 9 (by decide)]; exact h10
  · rw [hL 11 (by decide), hL 12 (by decide)]; intro q1 q2; obtain ⟨Bo, e, q3, q4⟩ := h11 q1 q2; exact ⟨Bo, e, q3, (g'.heap _ (Array.getElem?_eq_some_iff.1 q4).1).trans q4⟩
  · rw [hL 12 (by decide)]; intro hl; exact absurd ((h12 hl).1 0 (by decide)) (by rw [hun]; decide)
theorem CopyJ.s1 (h : CopyJ w W f Ap As cp cs row L v3 v8 v9 v10 v11 v12 v13 v14 v15 v16 v17 v18 w') (g' : Gr w' w'') (hun : L 1 = false) (hL : ∀ j, j ≠ 1 → L' j = L j)  : CopyJ w W f Ap As cp cs row L' v3 v8 (.pointer (some ⟨w.heap.size, 0, none⟩)) v10 v11 v12 v13 v14 v15 v16 v17 v18 w'' := by
  obtain ⟨hG, h0, h1, h2, h3, h4, h5, h6, h7, h8, h9, h10, h11, h12⟩ := h
  refine ⟨hG.trans g', ?_, ?_, ?_, ?_, ?_, ?_, ?_, ?_, ?_, ?_, ?_, ?_, ?_⟩
  · rw [hL 0 (by decide)]; exact h0
  · intro _; exact rfl
  · rw [hL 2 (by decide)]; exact h2
  · rw [hL 3 (by decide)]; intro hl; obtain ⟨A, c, e, t⟩ := h3 hl; exact ⟨A, c, e, t.gr g'⟩
  · rw [hL 4 (by decide)]; exact h4
  · rw [hL 5 (by decide)]; exact h5
  · rw [hL 6 (by decide)]; exact h6
  · rw [hL 7 (by decide)]; exact h7
  · rw [hL 8 (by decide)]; exact h8
  · rw [hL 9 (by decide)]; intro hl; obtain ⟨A, c, e, t⟩ := h9 hl; exact ⟨A, c, e, t.gr g'⟩
  · rw [hL 10 (by decide), hL 3 (by decide), hL 5 (by decide), hL 9 (by decide)]; exact h10
  · rw [hL 11 (by decide), hL 12 (by decide)]; intro q1 q2; obtain ⟨Bo, e, q3, q4⟩ := h11 q1 q2; exact ⟨Bo, e, q3, (g'.heap _ (Array.getElem?_eq_some_iff.1 q4).1).trans q4⟩
  · rw [hL 12 (by decide)]; intro hl; exact absurd ((h12 hl).1 1 (by decide)) (by rw [hun]; decide)
theorem CopyJ.s2 (h : CopyJ w W f Ap As cp cs row L v3 v8 v9 v10 v11 v12 v13 v14 v15 v16 v17 v18 w') (g' : Gr w' w'') (hun : L 2 = false) (hL : ∀ j, j ≠ 2 → L' j = L j)  : CopyJ w W f Ap As cp cs row L' v3 v8 v9 (.slice Ap f.params.length cp) v11 v12 v13 v14 v15 v16 v17 v18 w'' := by
  obtain ⟨hG, h0, h1, h2, h3, h4, h5, h6, h7, h8, h9, h10, h11, h12⟩ := h
  refine ⟨hG.trans g', ?_, ?_, ?_, ?_, ?_, ?_, ?_, ?_, ?_, ?_, ?_, ?_, ?_⟩
  · rw [hL 0 (by decide)]; exact h0
  · rw [hL 1 (by decide)]; exact h1
  · intro _; exact rfl
  · rw [hL 3 (by decide)]; intro hl; obtain ⟨A, c, e, t⟩ := h3 hl; exact ⟨A, c, e, t.gr g'⟩
  · rw [hL 4 (by decide)]; exact h4
  · rw [hL 5 (by decide)]; exact h5
  · rw [hL 6 (by decide)]; exact h6
  · rw [hL 7 (by decide)]; exact h7
  · rw [hL 8 (by decide)]; exact h8
  · rw [hL 9 (by decide)]; intro hl; obtain ⟨A, c, e, t⟩ := h9 hl; exact ⟨A, c, e, t.gr g'⟩
  · rw [hL 10 (by decide), hL 3 (by decide), hL 5 (by decide), hL 9 (by decide)]; exact h10
  · rw [hL 11 (by decide), hL 12 (by decide)]; intro q1 q2; obtain ⟨Bo, e, q3, q4⟩ := h11 q1 q2; exact ⟨Bo, e, q3, (g'.heap _ (Array.getElem?_eq_some_iff.1 q4).1).trans q4⟩
  · rw [hL 12 (by decide)]; intro hl; exact absurd ((h12 hl).1 2 (by decide)) (by rw [hun]; decide)
theorem CopyJ.s3 (h : CopyJ w W f Ap As cp cs row L v3 v8 v9 v10 v11 v12 v13 v14 v15 v16 v17 v18 w') (g' : Gr w' w'') (hun : L 3 = false) (hL : ∀ j, j ≠ 3 → L' j = L j) (A : Option Addr) (c : Nat) (ht : TI w.heap.size w'' (.slice A f.params.length c) f.params) : CopyJ w W f Ap As cp cs row L' v3 v8 v9 v10 (.slice A f.params.length c) v12 v13 v14 v15 v16 v17 v18 w'' := by
  obtain ⟨hG, h0, h1, h2, h3, h4, h5, h6, h7, h8, h9, h10, h11, h12⟩ := h
  refine ⟨hG.trans g', ?_, ?_, ?_, ?_, ?_, ?_, ?_, ?_, ?_, ?_, ?_, ?_, ?_⟩
  · rw [hL 0 (by decide)]; exact h0
  · rw [hL 1 (by decide)]; exact h1
  · rw [hL 2 (by decide)]; exact h2
  · intro _; exact ⟨A, c, rfl, ht⟩
  · rw [hL 4 (by decide)]; exact h4
  · rw [hL 5 (by decide)]; exact h5
  · rw [hL 6 (by decide)]; exact h6
  · rw [hL 7 (by decide)]; exact h7
  · rw [hL 8 (by decide)]; exact h8
  · rw [hL 9 (by decide)]; intro hl; obtain ⟨A, c, e, t⟩ := h9 hl; exact ⟨A, c, e, t.gr g'⟩
  · rw [hL 10 (by decide)]; intro hl; exact absurd (h10 hl).1.1 (by rw [hun]; decide)
  · rw [hL 11 (by decide), hL 12 (by decide)]; intro q1 q2; obtain ⟨Bo, e, q3, q4⟩ := h11 q1 q2; exact ⟨Bo, e, q3, (g'.heap _ (Array.getElem?_eq_some_iff.1 q4).1).trans q4⟩
  · rw [hL 12 (by decide)]; intro hl; exact absurd ((h12 hl).1 3 (by decide)) (by rw [hun]; decide)
theorem CopyJ.s4 (h : CopyJ w W f Ap As cp cs row L v3 v8 v9 v10 v11 v12 v13 v14 v15 v16 v17 v18 w') (g' : Gr w' w'') (hun : L 4 = false) (hL : ∀ j, j ≠ 4 → L' j = L j)  : CopyJ w W f Ap As cp cs row L' v3 v8 v9 v10 v11 (.pointer (some ⟨w.heap.size, 1, none⟩)) v13 v14 v15 v16 v17 v18 w'' := by
  obtain ⟨hG, h0, h1, h2, h3, h4, h5, h6, h7, h8, h9, h10, h11, h12⟩ := h
  refine ⟨hG.trans g', ?_, ?_, ?_, ?_, ?_, ?_, ?_, ?_, ?_, ?_, ?_, ?_, ?_⟩
  · rw [hL 0 (by decide)]; exact h0
  · rw [hL 1 (by decide)]; exact h1
  · rw [hL 2 (by decide)]; exact h2
  · rw [hL 3 (by decide)]; intro hl; obtain ⟨A, c, e, t⟩ := h3 hl; exact ⟨A, c, e, t.gr g'⟩
  · intro _; exact rfl
  · rw [hL 5 (by decide)]; exact h5
  · rw [hL 6 (by decide)]; exact h6
  · rw [hL 7 (by decide)]; exact h7
  · rw [hL 8 (by decide)]; exact h8
  · rw [hL 9 (by decide)]; intro hl; obtain ⟨A, c, e, t⟩ := h9 hl; exact ⟨A, c, e, t.gr g'⟩
  · rw [hL 10 (by decide), hL 3 (by decide), hL 5 (by decide), hL 9 (by decide)]; exact h10
  · rw [hL 11 (by decide), hL 12 (by decide)]; intro q1 q2; obtain ⟨Bo, e, q3, q4⟩ := h11 q1 q2; exact ⟨Bo, e, q3, (g'.heap _ (Array.getElem?_eq_some_iff.1 q4).1).trans q4⟩
  · rw [hL 12 (by decide)]; intro hl; exact absurd ((h12 hl).1 4 (by decide)) (by rw [hun]; decide)
theorem CopyJ.s5 (h : CopyJ w W f Ap As cp cs row L v3 v8 v9 v10 v11 v12 v13 v14 v15 v16 v17 v18 w') (g' : Gr w' w'') (hun : L 5 = false) (hL : ∀ j, j ≠ 5 → L' j = L j)  : CopyJ w W f Ap As cp cs row L' v3 v8 v9 v10 v11 v12 (.int .i64 f.ret) v14 v15 v16 v17 v18 w'' := by
  obtain ⟨hG, h0, h1, h2, h3, h4, h5, h6, h7, h8, h9, h10, h11, h12⟩ := h
  refine ⟨hG.trans g', ?_, ?_, ?_, ?_, ?_, ?_, ?_, ?_, ?_, ?_, ?_, ?_, ?_⟩
  · rw [hL 0 (by decide)]; exact h0
  · rw [hL 1 (by decide)]; exact h1
  · rw [hL 2 (by decide)]; exact h2
  · rw [hL 3 (by decide)]; intro hl; obtain ⟨A, c, e, t⟩ := h3 hl; exact ⟨A, c, e, t.gr g'⟩
  · rw [hL 4 (by decide)]; exact h4
  · intro _; exact rfl
  · rw [hL 6 (by decide)]; exact h6
  · rw [hL 7 (by decide)]; exact h7
  · rw [hL 8 (by decide)]; exact h8
  · rw [hL 9 (by decide)]; intro hl; obtain ⟨A, c, e, t⟩ := h9 hl; exact ⟨A, c, e, t.gr g'⟩
  · rw [hL 10 (by decide)]; intro hl; exact absurd (h10 hl).1.2.1 (by rw [hun]; decide)
  · rw [hL 11 (by decide), hL 12 (by decide)]; intro q1 q2; obtain ⟨Bo, e, q3, q4⟩ := h11 q1 q2; exact ⟨Bo, e, q3, (g'.heap _ (Array.getElem?_eq_some_iff.1 q4).1).trans q4⟩
  · rw [hL 12 (by decide)]; intro hl; exact absurd ((h12 hl).1 5 (by decide)) (by rw [hun]; decide)
theorem CopyJ.s6 (h : CopyJ w W f Ap As cp cs row L v3 v8 v9 v10 v11 v12 v13 v14 v15 v16 v17 v18 w') (g' : Gr w' w'') (hun : L 6 = false) (hL : ∀ j, j ≠ 6 → L' j = L j) (g : Nat) : CopyJ w W f Ap As cp cs row L' v3 v8 v9 v10 v11 v12 v13 (.slice (some ⟨g, 0, none⟩) 0 0) v15 v16 v17 v18 w'' := by
  obtain ⟨hG, h0, h1, h2, h3, h4, h5, h6, h7, h8, h9, h10, h11, h12⟩ := h
  refine ⟨hG.trans g', ?_, ?_, ?_, ?_, ?_, ?_, ?_, ?_, ?_, ?_, ?_, ?_, ?_⟩
  · rw [hL 0 (by decide)]; exact h0
  · rw [hL 1 (by decide)]; exact h1
  · rw [hL 2 (by decide)]; exact h2
  · rw [hL 3 (by decide)]; intro hl; obtain ⟨A, c, e, t⟩ := h3 hl; exact ⟨A, c, e, t.gr g'⟩
  · rw [hL 4 (by decide)]; exact h4
  · rw [hL 5 (by decide)]; exact h5
  · intro _; exact ⟨g, rfl⟩
  · rw [hL 7 (by decide)]; exact h7
  · rw [hL 8 (by decide)]; exact h8
  · rw [hL 9 (by decide)]; intro hl; obtain ⟨A, c, e, t⟩ := h9 hl; exact ⟨A, c, e, t.gr g'⟩
  · rw [hL 10 (by decide), hL 3 (by decide), hL 5 (by decide), hL 9 (by decide)]; exact h10
  · rw [hL 11 (by decide), hL 12 (by decide)]; intro q1 q2; obtain ⟨Bo, e, q3, q4⟩ := h11 q1 q2; exact ⟨Bo, e, q3, (g'.heap _ (Array.getElem?_eq_some_iff.1 q4).1).trans q4⟩
  · rw [hL 12 (by decide)]; intro hl; exact absurd ((h12 hl).1 6 (by decide)) (by rw [hun]; decide)
theorem CopyJ.s7 (h : CopyJ w W f Ap As cp cs row L v3 v8 v9 v10 v11 v12 v13 v14 v15 v16 v17 v18 w') (g' : Gr w' w'') (hun : L 7 = false) (hL : ∀ j, j ≠ 7 → L' j = L j)  : CopyJ w W f Ap As cp cs row L' v3 v8 v9 v10 v11 v12 v13 v14 (.pointer (some ⟨w.heap.size, 2, none⟩)) v16 v17 v18 w'' := by
  obtain ⟨hG, h0, h1, h2, h3, h4, h5, h6, h7, h8, h9, h10, h11, h12⟩ := h
  refine ⟨hG.trans g', ?_, ?_, ?_, ?_, ?_, ?_, ?_, ?_, ?_, ?_, ?_, ?_, ?_⟩
  · rw [hL 0 (by decide)]; exact h0
  · rw [hL 1 (by decide)]; exact h1
  · rw [hL 2 (by decide)]; exact h2
  · rw [hL 3 (by decide)]; intro hl; obtain ⟨A, c, e, t⟩ := h3 hl; exact ⟨A, c, e, t.gr g'⟩
  · rw [hL 4 (by decide)]; exact h4
  · rw [hL 5 (by decide)]; exact h5
  · rw [hL 6 (by decide)]; exact h6
  · intro _; exact rfl
  · rw [hL 8 (by decide)]; exact h8
  · rw [hL 9 (by decide)]; intro hl; obtain ⟨A, c, e, t⟩ := h9 hl; exact ⟨A, c, e, t.gr g'⟩
  · rw [hL 10 (by decide), hL 3 (by decide), hL 5 (by decide), hL 9 (by decide)]; exact h10
  · rw [hL 11 (by decide), hL 12 (by decide)]; intro q1 q2; obtain ⟨Bo, e, q3, q4⟩ := h11 q1 q2; exact ⟨Bo, e, q3, (g'.heap _ (Array.getElem?_eq_some_iff.1 q4).1).trans q4⟩
  · rw [hL 12 (by decide)]; intro hl; exact absurd ((h12 hl).1 7 (by decide)) (by rw [hun]; decide)
theorem CopyJ.s8 (h : CopyJ w W f Ap As cp cs row L v3 v8 v9 v10 v11 v12 v13 v14 v15 v16 v17 v18 w') (g' : Gr w' w'') (hun : L 8 = false) (hL : ∀ j, j ≠ 8 → L' j = L j)  : CopyJ w W f Ap As cp cs row L' v3 v8 v9 v10 v11 v12 v13 v14 v15 (.slice As f.slots.length cs) v17 v18 w'' := by
  obtain ⟨hG, h0, h1, h2, h3, h4, h5, h6, h7, h8, h9, h10, h11, h12⟩ := h
  refine ⟨hG.trans g', ?_, ?_, ?_, ?_, ?_, ?_, ?_, ?_, ?_, ?_, ?_, ?_, ?_⟩
  · rw [hL 0 (by decide)]; exact h0
  · rw [hL 1 (by decide)]; exact h1
  · rw [hL 2 (by decide)]; exact h2
  · rw [hL 3 (by decide)]; intro hl; obtain ⟨A, c, e, t⟩ := h3 hl; exact ⟨A, c, e, t.gr g'⟩
  · rw [hL 4 (by decide)]; exact h4
  · rw [hL 5 (by decide)]; exact h5
  · rw [hL 6 (by decide)]; exact h6
  · rw [hL 7 (by decide)]; exact h7
  · intro _; exact rfl
  · rw [hL 9 (by decide)]; intro hl; obtain ⟨A, c, e, t⟩ := h9 hl; exact ⟨A, c, e, t.gr g'⟩
  · rw [hL 10 (by decide), hL 3 (by decide), hL 5 (by decide), hL 9 (by decide)]; exact h10
  · rw [hL 11 (by decide), hL 12 (by decide)]; intro q1 q2; obtain ⟨Bo, e, q3, q4⟩ := h11 q1 q2; exact ⟨Bo, e, q3, (g'.heap _ (Array.getElem?_eq_some_iff.1 q4).1).trans q4⟩
  · rw [hL 12 (by decide)]; intro hl; exact absurd ((h12 hl).1 8 (by decide)) (by rw [hun]; decide)
theorem CopyJ.s9 (h : CopyJ w W f Ap As cp cs row L v3 v8 v9 v10 v11 v12 v13 v14 v15 v16 v17 v18 w') (g' : Gr w' w'') (hun : L 9 = false) (hL : ∀ j, j ≠ 9 → L' j = L j) (A : Option Addr) (c : Nat) (ht : TI w.heap.size w'' (.slice A f.slots.length c) f.slots) : CopyJ w W f Ap As cp cs row L' v3 v8 v9 v10 v11 v12 v13 v14 v15 v16 (.slice A f.slots.length c) v18 w'' := by
  obtain ⟨hG, h0, h1, h2, h3, h4, h5, h6, h7, h8, h9, h10, h11, h12⟩ := h
  refine ⟨hG.trans g', ?_, ?_, ?_, ?_, ?_, ?_, ?_, ?_, ?_, ?_, ?_, ?_, ?_⟩
  · rw [hL 0 (by decide)]; exact h0
  · rw [hL 1 (by decide)]; exact h1
  · rw [hL 2 (by decide)]; exact h2
  · rw [hL 3 (by decide)]; intro hl; obtain ⟨A, c, e, t⟩ := h3 hl; exact ⟨A, c, e, t.gr g'⟩
  · rw [hL 4 (by decide)]; exact h4
  · rw [hL 5 (by decide)]; exact h5
  · rw [hL 6 (by decide)]; exact h6
  · rw [hL 7 (by decide)]; exact h7
  · rw [hL 8 (by decide)]; exact h8
  · intro _; exact ⟨A, c, rfl, ht⟩
  · rw [hL 10 (by decide)]; intro hl; exact absurd (h10 hl).1.2.2 (by rw [hun]; decide)
  · rw [hL 11 (by decide), hL 12 (by decide)]; intro q1 q2; obtain ⟨Bo, e, q3, q4⟩ := h11 q1 q2; exact ⟨Bo, e, q3, (g'.heap _ (Array.getElem?_eq_some_iff.1 q4).1).trans q4⟩
  · rw [hL 12 (by decide)]; intro hl; exact absurd ((h12 hl).1 9 (by decide)) (by rw [hun]; decide)
theorem CopyJ.s10 (h : CopyJ w W f Ap As cp cs row L v3 v8 v9 v10 v11 v12 v13 v14 v15 v16 v17 v18 w') (g' : Gr w' w'') (hun : L 10 = false) (hL : ∀ j, j ≠ 10 → L' j = L j) (d3 : L 3 = true) (d5 : L 5 = true) (d9 : L 9 = true) : CopyJ w W f Ap As cp cs row L' v3 v8 v9 v10 v11 v12 v13 v14 v15 v16 v17 (.agg #[v11, v13, v17, .slice none 0 0]) w'' := by
  obtain ⟨hG, h0, h1, h2, h3, h4, h5, h6, h7, h8, h9, h10, h11, h12⟩ := h
  refine ⟨hG.trans g', ?_, ?_, ?_, ?_, ?_, ?_, ?_, ?_, ?_, ?_, ?_, ?_, ?_⟩
  · rw [hL 0 (by decide)]; exact h0
  · rw [hL 1 (by decide)]; exact h1
  · rw [hL 2 (by decide)]; exact h2
  · rw [hL 3 (by decide)]; intro hl; obtain ⟨A, c, e, t⟩ := h3 hl; exact ⟨A, c, e, t.gr g'⟩
  · rw [hL 4 (by decide)]; exact h4
  · rw [hL 5 (by decide)]; exact h5
  · rw [hL 6 (by decide)]; exact h6
  · rw [hL 7 (by decide)]; exact h7
  · rw [hL 8 (by decide)]; exact h8
  · rw [hL 9 (by decide)]; intro hl; obtain ⟨A, c, e, t⟩ := h9 hl; exact ⟨A, c, e, t.gr g'⟩
  · intro _; exact ⟨⟨(hL 3 (by decide)).trans d3, (hL 5 (by decide)).trans d5, (hL 9 (by decide)).trans d9⟩, rfl⟩
  · rw [hL 11 (by decide), hL 12 (by decide)]; intro q1 q2; obtain ⟨Bo, e, q3, q4⟩ := h11 q1 q2; exact ⟨Bo, e, q3, (g'.heap _ (Array.getElem?_eq_some_iff.1 q4).1).trans q4⟩
  · rw [hL 12 (by decide)]; intro hl; exact absurd ((h12 hl).1 10 (by decide)) (by rw [hun]; decide)
theorem CopyJ.s11 (h : CopyJ w W f Ap As cp cs row L v3 v8 v9 v10 v11 v12 v13 v14 v15 v16 v17 v18 w') (g' : Gr w' w'') (hun : L 11 = false) (hL : ∀ j, j ≠ 11 → L' j = L j) (Bo : Nat) (hBo : W.heap.size ≤ Bo) (hb : w''.heap[Bo]? = some (Obj.cells #[.slice none 0 0, .int .i64 0, .slice none 0 0, .slice none 0 0] 25 (0, 0))) : CopyJ w W f Ap As cp cs row L' (.pointer (some ⟨Bo, 0, none⟩)) v8 v9 v10 v11 v12 v13 v14 v15 v16 v17 v18 w'' := by
  obtain ⟨hG, h0, h1, h2, h3, h4, h5, h6, h7, h8, h9, h10, h11, h12⟩ := h
  refine ⟨hG.trans g', ?_, ?_, ?_, ?_, ?_, ?_, ?_, ?_, ?_, ?_, ?_, ?_, ?_⟩
  · rw [hL 0 (by decide)]; exact h0
  · rw [hL 1 (by decide)]; exact h1
  · rw [hL 2 (by decide)]; exact h2
  · rw [hL 3 (by decide)]; intro hl; obtain ⟨A, c, e, t⟩ := h3 hl; exact ⟨A, c, e, t.gr g'⟩
  · rw [hL 4 (by decide)]; exact h4
  · rw [hL 5 (by decide)]; exact h5
  · rw [hL 6 (by decide)]; exact h6
  · rw [hL 7 (by decide)]; exact h7
  · rw [hL 8 (by decide)]; exact h8
  · rw [hL 9 (by decide)]; intro hl; obtain ⟨A, c, e, t⟩ := h9 hl; exact ⟨A, c, e, t.gr g'⟩
  · rw [hL 10 (by decide), hL 3 (by decide), hL 5 (by decide), hL 9 (by decide)]; exact h10
  · intro _ _; exact ⟨Bo, rfl, hBo, hb⟩
  · rw [hL 12 (by decide)]; intro hl; exact absurd ((h12 hl).1 11 (by decide)) (by rw [hun]; decide)
theorem CopyJ.s12 (h : CopyJ w W f Ap As cp cs row L v3 v8 v9 v10 v11 v12 v13 v14 v15 v16 v17 v18 w') (hall : ∀ j, j < 12 → L j = true) (hun : L 12 = false) (hL : ∀ j, j ≠ 12 → L' j = L j) (hL12 : L' 12 = true) (hB0 : Gr w W) (hr0 : W.heap[w.heap.size]? = some (.cells row 25 (0, 0))) (hr1 : W.heap[w.heap.size + 1]? = some (.cells #[.slice none 0 0, .int .i64 0, .slice none 0 0, .slice none 0 0] 25 (0, 0))) (hWs : W.heap.size = w.heap.size + 2) :
    ∃ (Bo : Nat) (A1 : Option Addr) (c1 : Nat) (A2 : Option Addr) (c2 : Nat), v3 = .pointer (some ⟨Bo, 0, none⟩) ∧ v18 = .agg #[.slice A1 f.params.length c1, .int .i64 f.ret, .slice A2 f.slots.length c2, .slice none 0 0] ∧ w'.heap[Bo]? = some (Obj.cells #[.slice none 0 0, .int .i64 0, .slice none 0 0, .slice none 0 0] 25 (0, 0)) ∧
      CopyJ w W f Ap As cp cs row L' v3 v8 v9 v10 v11 v12 v13 v14 v15 v16 v17 v18 ((((w'.setCell ⟨Bo, 0, none⟩ (.slice A1 f.params.length c1)).setCell ⟨Bo, 1, none⟩ (.int .i64 f.ret)).setCell ⟨Bo, 2, none⟩ (.slice A2 f.slots.length c2)).setCell ⟨Bo, 3, none⟩ (.slice none 0 0)) := by
  obtain ⟨hG, h0, h1, h2, h3, h4, h5, h6, h7, h8, h9, h10, h11, h12⟩ := h
  obtain ⟨A1, c1, rfl, t1⟩ := h3 (hall 3 (by decide))
  obtain ⟨A2, c2, rfl, t2⟩ := h9 (hall 9 (by decide))
  obtain rfl := h5 (hall 5 (by decide))
  obtain ⟨-, e10⟩ := h10 (hall 10 (by decide))
  obtain ⟨Bo, rfl, hBo, hb⟩ := h11 (hall 11 (by decide)) hun
  have hk := four_kt hb (.slice A1 f.params.length c1) (.int .i64 f.ret) (.slice A2 f.slots.length c2) (.slice none 0 0)
  refine ⟨Bo, A1, c1, A2, c2, rfl, e10, hb, four_gr hG hBo _ _ _ _, ?_, ?_, ?_, ?_, ?_, ?_, ?_, ?_, ?_, ?_, ?_, ?_, ?_⟩
  · rw [hL 0 (by decide)]; exact h0
  · rw [hL 1 (by decide)]; exact h1
  · rw [hL 2 (by decide)]; exact h2
  · intro _; exact ⟨A1, c1, rfl, t1.kt hk⟩
  · rw [hL 4 (by decide)]; exact h4
  · rw [hL 5 (by decide)]; exact h5
  · rw [hL 6 (by decide)]; exact h6
  · rw [hL 7 (by decide)]; exact h7
  · rw [hL 8 (by decide)]; exact h8
  · intro _; exact ⟨A2, c2, rfl, t2.kt hk⟩
  · rw [hL 10 (by decide), hL 3 (by decide), hL 5 (by decide), hL 9 (by decide)]; exact h10
  · intro _ q; rw [hL12] at q; cases q
  · intro _; exact ⟨fun j hj => (hL j (by omega)).trans (hall j hj), Bo, A1, c1, A2, c2, rfl, CInv.start hB0 hr0 hr1 hG hb (by omega) t1 t2⟩
end

end Go.Proofs.Ytiadpjhlomhjeaa

namespace Go.Proofs.Ytiadpjhlomhjeaa
open Go.RowKit

set_option maxRecDepth 100000 in
set_option maxHeartbeats 16000000 in
theorem rCopy_any (v : Value) (f : Fn) (w : World) (hf : FnAt w.heap.size w v f) (hs : f.blocks.length ≤ 100000) (hln : Hid (∀ l ∈ f.blocks, l.length ≤ 100000)) :
    Calls Try.prog 30 #[v] w fun e w' => ∃ A1 c1 A2 c2 A3 c3, e = .returned (.agg #[.slice A1 f.params.length c1, .int .i64 f.ret, .slice A2 f.slots.length c2, .slice A3 f.blocks.length c3]) ∧ Hid (CpAt w.heap.size w' (.agg #[.slice A1 f.params.length c1, .int .i64 f.ret, .slice A2 f.slots.length c2, .slice A3 f.blocks.length c3]) f) ∧ Gr w w' := by
  obtain ⟨i0, hi0, hx0, hx1, hx2⟩ := info_parts info_int
  obtain ⟨i1, hi, hz0, hz1, hz2⟩ := info_parts info_blk
  obtain ⟨i6, hj6, hy0, hy1, hy2⟩ := info_parts info_inst
  obtain ⟨vp, vs, vb, rfl, hp, hsl, hb⟩ := hf
  obtain ⟨Ap, cp, rfl, hp1, hp2, -⟩ := id hp
  obtain ⟨As, cs, rfl, hs1, hs2, -⟩ := id hsl
  obtain ⟨Ab, cb, rfl, hb1, hb2, hb3⟩ := hb
  have HP := Lib.hid hp
  have HS := Lib.hid hsl
  have H3 : Hid (0 < f.blocks.length → ∃ b off, Ab = some ⟨b, off, none⟩ ∧ b < w.heap.size ∧ ∀ j l, f.blocks[j]? = some l → ∃ u, w.cell? ⟨b, off + j, none⟩ = some u ∧ BlkAt w.heap.size w u l) := hb3
  obtain ⟨W, hW⟩ : ∃ W, (w.alloc (.cells #[.slice Ap f.params.length cp, .int .i64 f.ret, .slice As f.slots.length cs, .slice Ab f.blocks.length cb] 25)).alloc (.cells #[.slice none 0 0, .int .i64 0, .slice none 0 0, .slice none 0 0] 25) = W := ⟨_, rfl⟩
  have hB0 : Gr w W := by rw [← hW]; exact ((Gr.refl w).alloc _).alloc _
  have hWs : W.heap.size = w.heap.size + 2 := by rw [← hW]; simp
  obtain ⟨row, hrow⟩ : ∃ row : Array Value, #[.slice Ap f.params.length cp, .int .i64 f.ret, .slice As f.slots.length cs, .slice Ab f.blocks.length cb] = row := ⟨_, rfl⟩
  have hr0' : W.heap[w.heap.size]? = some (.cells #[.slice Ap f.params.length cp, .int .i64 f.ret, .slice As f.slots.length cs, .slice Ab f.blocks.length cb] 25 (0, 0)) := by
    rw [← hW]; exact (((Gr.refl _).alloc _).heap _ (by simp)).trans (heap_alloc_new w _)
  have hr1 : W.heap[w.heap.size + 1]? = some (.cells #[.slice none 0 0, .int .i64 0, .slice none 0 0, .slice none 0 0] 25 (0, 0)) := by
    rw [← hW]; exact heap_alloc2_new w _ _
  have HROW := Lib.hid hrow
  have HR1 := Lib.hid hr1
  have KP : Hid (∀ w', Gr W w' → w'.cell? ⟨w.heap.size, 0, none⟩ = some (.slice Ap f.params.length cp) ∧ w'.cell? ⟨w.heap.size, 1, none⟩ = some (.int .i64 f.ret) ∧ w'.cell? ⟨w.heap.size, 2, none⟩ = some (.slice As f.slots.length cs)) := fun w' q => by
    have h := (q.heap _ (by omega)).trans hr0'
    exact ⟨cell_of_row _ _ 0 _ _ _ h, cell_of_row _ _ 1 _ _ _ h, cell_of_row _ _ 2 _ _ _ h⟩
  have HR0 : Hid (W.heap[w.heap.size]? = some (.cells row 25 (0, 0))) := by show _ = _; rw [← hrow]; exact hr0'
  clear hr0' hr1 hb3 hrow
  go_enter Try.func30, Try.ntmps30
  go_upto_region 1 with fail
  go_cut [3] from 8 to 18 (fun s3 wx => ∃ Bo A1 c1 A2 c2, s3 = .pointer (some ⟨Bo, 0, none⟩) ∧ Hid (CInv w wx Bo f (.slice A1 f.params.length c1) (.slice A2 f.slots.length c2) row 0 (.slice none 0 0) wx))
  case first =>
    obtain ⟨J, hJdef⟩ : ∃ J : Array Bool → Act → World → Prop, (fun listed a w' => ∃ v3 v8 v9 v10 v11 v12 v13 v14 v15 v16 v17 v18, a = { tmps := #[.agg #[.slice Ap f.params.length cp, .int .i64 f.ret, .slice As f.slots.length cs, .slice Ab f.blocks.length cb], .pointer (some ⟨w.heap.size, 0, none⟩), .pointer (some ⟨w.heap.size + 1, 0, none⟩), v3, undef, undef, undef, undef, v8, v9, v10, v11, v12, v13, v14, v15, v16, v17, v18, undef, undef, undef, undef, undef, undef, undef, undef, undef, undef, undef, undef, undef, undef, undef, undef, undef, undef, undef, undef, undef, undef, undef, undef, undef, undef, undef, undef, undef, undef, undef, undef, undef, undef, undef, undef, undef, undef, undef, undef, undef, undef, undef, undef, undef, undef], defers := [] } ∧ CopyJ w W f Ap As cp cs row (fun j => listed.getD j false) v3 v8 v9 v10 v11 v12 v13 v14 v15 v16 v17 v18 w') = J := ⟨_, rfl⟩
    refine wp_region_inv (by kernel_rfl) (by kernel_rfl) J ?_ ?_ ?_
    · rw [← hJdef]
      refine ⟨undef, undef, undef, undef, undef, undef, undef, undef, undef, undef, undef, undef, rfl, (Gr.refl W).drew, ?_, ?_, ?_, ?_, ?_, ?_, ?_, ?_, ?_, ?_, ?_, ?_, ?_⟩
      all_goals (intro h; simp [Array.getD] at h)
    · intro i o listed a w' hi hsz hun haft hJ
      rw [← hJdef] at hJ
      obtain ⟨v3, v8, v9, v10, v11, v12, v13, v14, v15, v16, v17, v18, rfl, hJ⟩ := hJ
      have hlt : i < 13 := (List.getElem?_eq_some_iff.1 hi).1
      have hL : ∀ j, j ≠ i → (fun j => (listed.setIfInBounds i true).getD j false) j = (fun j => listed.getD j false) j := fun j h => getD_set_ne false (Ne.symm h)
      have hJ' := hJ
      obtain ⟨hG, h0, h1, h2, h3, h4, h5, h6, h7, h8, h9, h10, h11, h12⟩ := hJ'
      obtain ⟨K, hK⟩ : ∃ K, J (listed.setIfInBounds i true) = K := ⟨_, rfl⟩
      rw [hK]
      obtain ⟨q0, q1, q2⟩ := KP.out _ hG
      rcases (by omega : i = 0 ∨ i = 1 ∨ i = 2 ∨ i = 3 ∨ i = 4 ∨ i = 5 ∨ i = 6 ∨ i = 7 ∨ i = 8 ∨ i = 9 ∨ i = 10 ∨ i = 11 ∨ i = 12) with rfl | rfl | rfl | rfl | rfl | rfl | rfl | rfl | rfl | rfl | rfl | rfl | rfl
      · have e := Option.some.inj hi
        subst e
        rw [if_pos (by simp [Region.wanted])]
        clear h0 h1 h2 h3 h4 h5 h6 h7 h8 h9 h10 h11 h12 haft hi
        go_simp
        rw [← hK, ← hJdef]
        exact ⟨_, _, _, _, _, _, _, _, _, _, _, _, rfl, CopyJ.s0 hJ ((Gr.refl _).alloc _) hun hL _⟩
      · have e := Option.some.inj hi
        subst e
        rw [if_pos (by simp [Region.wanted])]
        clear h0 h1 h2 h3 h4 h5 h6 h7 h8 h9 h10 h11 h12 haft hi
        go_simp
        rw [← hK, ← hJdef]
        exact ⟨_, _, _, _, _, _, _, _, _, _, _, _, rfl, CopyJ.s1 hJ (Gr.refl _) hun hL⟩
      · have e := Option.some.inj hi
        subst e
        rw [if_pos (by simp [Region.wanted])]
        obtain rfl := h1 (haft ⟨1, .data⟩ (by simp) rfl)
        clear h0 h1 h2 h3 h4 h5 h6 h7 h8 h9 h10 h11 h12 haft hi
        go_simp
        rw [← hK, ← hJdef]
        exact ⟨_, _, _, _, _, _, _, _, _, _, _, _, rfl, CopyJ.s2 hJ (Gr.refl _) hun hL⟩
      · have e := Option.some.inj hi
        subst e
        rw [if_pos (by simp [Region.wanted])]
        obtain ⟨g0, rfl⟩ := h0 (haft ⟨0, .data⟩ (by simp) rfl)
        obtain rfl := h2 (haft ⟨2, .data⟩ (by simp) rfl)
        refine wp_appE Try.underlying22 hi0 hx0 hx1 hx2 rfl (.tmp 8) (.tmp 10) rfl rfl (HP.out.gr (hB0.trans hG)) rfl ?_
        intro A c w'' ht hg'
        rw [← hK, ← hJdef]
        exact ⟨_, _, _, _, _, _, _, _, _, _, _, _, rfl, CopyJ.s3 hJ hg' hun hL A c (ht.lower (by have := hG.size; omega))⟩
      · have e := Option.some.inj hi
        subst e
        rw [if_pos (by simp [Region.wanted])]
        clear h0 h1 h2 h3 h4 h5 h6 h7 h8 h9 h10 h11 h12 haft hi
        go_simp
        rw [← hK, ← hJdef]
        exact ⟨_, _, _, _, _, _, _, _, _, _, _, _, rfl, CopyJ.s4 hJ (Gr.refl _) hun hL⟩
      · have e := Option.some.inj hi
        subst e
        rw [if_pos (by simp [Region.wanted])]
        obtain rfl := h4 (haft ⟨4, .data⟩ (by simp) rfl)
        clear h0 h1 h2 h3 h4 h5 h6 h7 h8 h9 h10 h11 h12 haft hi
        go_simp
        rw [← hK, ← hJdef]
        exact ⟨_, _, _, _, _, _, _, _, _, _, _, _, rfl, CopyJ.s5 hJ (Gr.refl _) hun hL⟩
      · have e := Option.some.inj hi
        subst e
        rw [if_pos (by simp [Region.wanted])]
        clear h0 h1 h2 h3 h4 h5 h6 h7 h8 h9 h10 h11 h12 haft hi
        go_simp
        rw [← hK, ← hJdef]
        exact ⟨_, _, _, _, _, _, _, _, _, _, _, _, rfl, CopyJ.s6 hJ ((Gr.refl _).alloc _) hun hL _⟩
      · have e := Option.some.inj hi
        subst e
        rw [if_pos (by simp [Region.wanted])]
        clear h0 h1 h2 h3 h4 h5 h6 h7 h8 h9 h10 h11 h12 haft hi
        go_simp
        rw [← hK, ← hJdef]
        exact ⟨_, _, _, _, _, _, _, _, _, _, _, _, rfl, CopyJ.s7 hJ (Gr.refl _) hun hL⟩
      · have e := Option.some.inj hi
        subst e
        rw [if_pos (by simp [Region.wanted])]
        obtain rfl := h7 (haft ⟨7, .data⟩ (by simp) rfl)
        clear h0 h1 h2 h3 h4 h5 h6 h7 h8 h9 h10 h11 h12 haft hi
        go_simp
        rw [← hK, ← hJdef]
        exact ⟨_, _, _, _, _, _, _, _, _, _, _, _, rfl, CopyJ.s8 hJ (Gr.refl _) hun hL⟩
      · have e := Option.some.inj hi
        subst e
        rw [if_pos (by simp [Region.wanted])]
        obtain ⟨g6, rfl⟩ := h6 (haft ⟨6, .data⟩ (by simp) rfl)
        obtain rfl := h8 (haft ⟨8, .data⟩ (by simp) rfl)
        refine wp_appE Try.underlying22 hi0 hx0 hx1 hx2 rfl (.tmp 14) (.tmp 16) rfl rfl (HS.out.gr (hB0.trans hG)) rfl ?_
        intro A c w'' ht hg'
        rw [← hK, ← hJdef]
        exact ⟨_, _, _, _, _, _, _, _, _, _, _, _, rfl, CopyJ.s9 hJ hg' hun hL A c (ht.lower (by have := hG.size; omega))⟩
      · have e := Option.some.inj hi
        subst e
        rw [if_pos (by simp [Region.wanted])]
        have D3 := haft ⟨3, .data⟩ (by simp) rfl
        have D5 := haft ⟨5, .data⟩ (by simp) rfl
        have D9 := haft ⟨9, .data⟩ (by simp) rfl
        obtain ⟨B3, b3, rfl, -⟩ := h3 (haft ⟨3, .data⟩ (by simp) rfl)
        obtain rfl := h5 (haft ⟨5, .data⟩ (by simp) rfl)
        obtain ⟨B9, b9, rfl, -⟩ := h9 (haft ⟨9, .data⟩ (by simp) rfl)
        clear h0 h1 h2 h3 h4 h5 h6 h7 h8 h9 h10 h11 h12 haft hi
        go_simp
        rw [← hK, ← hJdef]
        exact ⟨_, _, _, _, _, _, _, _, _, _, _, _, rfl, CopyJ.s10 hJ (Gr.refl _) hun hL D3 D5 D9⟩
      · have e := Option.some.inj hi
        subst e
        rw [if_pos (by simp [Region.wanted])]
        clear h0 h1 h2 h3 h4 h5 h6 h7 h8 h9 h10 h11 h12 haft hi
        go_simp
        rw [← hK, ← hJdef]
        exact ⟨_, _, _, _, _, _, _, _, _, _, _, _, rfl, CopyJ.s11 hJ ((Gr.refl _).alloc _) hun hL _ hG.size (heap_alloc_new _ _)⟩
      · have e := Option.some.inj hi
        subst e
        rw [if_pos (by simp [Region.wanted])]
        have h12s : 12 < listed.size := by simp [hsz]
        obtain ⟨Bo, A1, c1, A2, c2, rfl, rfl, hb, hJ2⟩ := CopyJ.s12 (L' := fun j => (listed.setIfInBounds 12 true).getD j false) hJ (fun j hj => by rcases (by omega : j = 0 ∨ j = 1 ∨ j = 2 ∨ j = 3 ∨ j = 4 ∨ j = 5 ∨ j = 6 ∨ j = 7 ∨ j = 8 ∨ j = 9 ∨ j = 10 ∨ j = 11) with rfl | rfl | rfl | rfl | rfl | rfl | rfl | rfl | rfl | rfl | rfl | rfl <;> exact haft ⟨_, .phase⟩ (by simp) rfl) hun hL (by simp [Array.getD, h12s]) hB0 HR0.out HR1.out hWs
        have x0 := cell_of_row _ _ 0 _ _ _ hb
        have y0 := frozen_of_row _ _ 0 _ _ hb
        have x1 := cell_of_row _ _ 1 _ _ _ hb
        have y1 := frozen_of_row _ _ 1 _ _ hb
        have x2 := cell_of_row _ _ 2 _ _ _ hb
        have y2 := frozen_of_row _ _ 2 _ _ hb
        have x3 := cell_of_row _ _ 3 _ _ _ hb
        have y3 := frozen_of_row _ _ 3 _ _ hb
        clear h0 h1 h2 h3 h4 h5 h6 h7 h8 h9 h10 h11 h12 hJ haft hi hL
        go_simp
        rw [← hK, ← hJdef]
        exact ⟨_, _, _, _, _, _, _, _, _, _, _, _, rfl, hJ2⟩
    · intro listed a w' hall hJ
      rw [← hJdef] at hJ
      obtain ⟨v3, v8, v9, v10, v11, v12, v13, v14, v15, v16, v17, v18, rfl, hJ⟩ := hJ
      obtain ⟨hG, -, -, -, -, -, -, -, -, -, -, -, -, h12⟩ := hJ
      obtain ⟨-, Bo, A1, c1, A2, c2, rfl, HI⟩ := h12 (hall 12 (by decide))
      clear hJdef KP HR0 HR1
      go_wp2_with fail
      go_meet
      exact ⟨Bo, A1, c1, A2, c2, rfl, HI⟩
  case rest =>
    obtain ⟨Bo, A1, c1, A2, c2, rfl, HI0⟩ := hcut
    clear hp hsl hW KP HR0 HR1 HP HS
    have HSRC : Hid (∀ (k : Nat) (vb : Value) (wr : World), CInv w wc Bo f (.slice A1 f.params.length c1) (.slice A2 f.slots.length c2) row k vb wr → wr.cell? ⟨w.heap.size, 3, none⟩ = some (.slice Ab f.blocks.length cb)) := fun k vb wr h => by
      have q := h.src
      rw [← HROW.out] at q
      exact cell_of_row _ _ 3 _ _ _ q
    go_wp2
    go_loopw [4, 5, 6, 7] (fun i _ _ _ wr => ∃ (k : Nat) (vb : Value), k ≤ f.blocks.length ∧ i = .int .i64 k ∧ Hid (CInv w wc Bo f (.slice A1 f.params.length c1) (.slice A2 f.slots.length c2) row k vb wr)) (fun i _ _ _ _ => f.blocks.length - (intOf i).toNat)
    case atStart => exact ⟨0, _, Nat.zero_le _, rfl, HI0⟩
    case round =>
      obtain ⟨k, vb, hk, rfl, HI⟩ := hrel
      have hwo : ∃ wo, wo = wr := ⟨wr, rfl⟩
      obtain ⟨wo, ewo⟩ := hwo
      subst ewo
      by_cases hlt : k < f.blocks.length
      · obtain ⟨bb, ob, rfl, hbb, hcells⟩ := H3.out (by omega)
        obtain ⟨l, hl⟩ : ∃ l, f.blocks[k]? = some l := ⟨_, List.getElem?_eq_getElem hlt⟩
        obtain ⟨u, hu0, hul⟩ := hcells k l hl
        have hll := hln.out l (List.mem_of_getElem? hl)
        obtain ⟨Al, cl, rfl, hl1, hl2, hl3⟩ := hul
        have hgw := HI.out.toGr
        have HL := Lib.hid hl
        have H4 : Hid (0 < l.length → ∃ b off, Al = some ⟨b, off, none⟩ ∧ b < w.heap.size ∧ ∀ j x, l[j]? = some x → InsAt w.heap.size w b (off + j * 6) x) := hl3
        have HU : Hid (∀ wr, Gr wo wr → wr.cell? ⟨w.heap.size, 3, none⟩ = some (.slice (some ⟨bb, ob, none⟩) f.blocks.length cb) ∧ wr.cell? ⟨bb, ob + k, none⟩ = some (.slice Al l.length cl)) := fun wr q => ⟨HSRC.out _ _ _ (HI.out.gr q), ((hgw.trans q).cell _ _ hbb).trans hu0⟩
        have z1 : (k : Int) < (f.blocks.length : Int) := by omega
        obtain ⟨e1, e2⟩ := HU.out _ (Gr.refl _)
        clear hl hcells hu0 hl3 hlt
        go_wp2
        go_loopw [5, 6, 7] (fun b i _ wx => ∃ j : Nat, j ≤ l.length ∧ i = .int .i64 j ∧ Hid (OwnI w.heap.size wo.heap.size wx b (l.take j)) ∧ Gr wo wx) (fun _ i _ _ => l.length - (intOf i).toNat)
        case atStart => exact ⟨0, Nat.zero_le _, rfl, OwnI.nil _ _ _, Gr.refl _⟩
        case round =>
          obtain ⟨j, hj, rfl, HO, hgx⟩ := hrel
          have hgwx := hgw.trans hgx
          clear e1 e2
          obtain ⟨e1, e2⟩ := HU.out _ hgx
          by_cases hlt2 : j < l.length
          · obtain ⟨bl, ol, rfl, hbl, hcells2⟩ := H4.out (by omega)
            obtain ⟨x, hx⟩ : ∃ x, l[j]? = some x := ⟨_, List.getElem?_eq_getElem hlt2⟩
            obtain ⟨va, vt, x0, x1, x2, x3, x4, x5, hxa, hxt⟩ := hcells2 j x hx
            have HXA := Lib.hid hxa
            have HXT := Lib.hid hxt
            obtain ⟨Aa, ca, rfl, -, -, -⟩ := hxa
            obtain ⟨At, ct, rfl, -, -, -⟩ := hxt
            replace x0 := (hgwx.cell _ _ hbl).trans x0
            replace x1 := (hgwx.cell _ _ hbl).trans x1
            replace x2 := (hgwx.cell _ _ hbl).trans x2
            replace x3 := (hgwx.cell _ _ hbl).trans x3
            replace x4 := (hgwx.cell _ _ hbl).trans x4
            replace x5 := (hgwx.cell _ _ hbl).trans x5
            have HX := Lib.hid hx
            have z2 : (j : Int) < (l.length : Int) := by omega
            obtain ⟨m, hm⟩ : ∃ m, l.take j = m := ⟨_, rfl⟩
            have hml : m.length ≤ 100000 := by rw [← hm, List.length_take]; omega
            rw [hm] at HO
            have HM : Hid (l.take (j + 1) = m ++ [x]) := by show _ = _; rw [List.take_add_one, hm, hx]; rfl
            clear hx hcells2 hlt2 hm
            have XR : Hid (∀ w', Gr (wr.alloc (.cells #[.int .i64 x.op, .int .i64 x.width, .int .i64 x.flags, .slice Aa x.args.length ca, .int .u32 x.imm, .slice At x.to.length ct] 51)) w' → w'.heap[wr.heap.size]? = some (.cells #[.int .i64 x.op, .int .i64 x.width, .int .i64 x.flags, .slice Aa x.args.length ca, .int .u32 x.imm, .slice At x.to.length ct] 51 (0, 0))) := fun w' q => (q.heap _ (by simp)).trans (heap_alloc_new wr _)
            go_wp2_with (first
              | (at_builtin; refine wpList_appE Try.underlying22 hi0 hx0 hx1 hx2 rfl rfl (.tmp 44) (.tmp 46) rfl rfl (HXA.out.gr ((hgwx.alloc _).alloc _)) rfl ?_; intro A7 c7 w7 ht7 hg7; have g7 : Gr wr w7 := (((Gr.refl wr).alloc _).alloc _).trans hg7; have rx := XR.out _ (((Gr.refl _).alloc _).trans hg7); have m3 := cell_of_row _ _ 3 _ _ _ rx; have f3 := frozen_of_row _ _ 3 _ _ rx; have T7 := ht7.lower (n₀ := w.heap.size) (by have := hgwx.size; simp; omega); have rx' : (w7.setCell ⟨wr.heap.size, 3, none⟩ (.slice A7 x.args.length c7)).heap[wr.heap.size]? = some (.cells #[.int .i64 x.op, .int .i64 x.width, .int .i64 x.flags, .slice A7 x.args.length c7, .int .u32 x.imm, .slice At x.to.length ct] 51 (0, 0)) := heap_setCell_at (i := 3) (.slice A7 x.args.length c7) rx; have g7s : Gr wr (w7.setCell ⟨wr.heap.size, 3, none⟩ (.slice A7 x.args.length c7)) := g7.setCell (Nat.le_refl _) _; have T7s := TI.cell_inst rx T7 (by decide) 3 (.slice A7 x.args.length c7); obtain ⟨w7s, h7s⟩ : ∃ w7s, w7.setCell ⟨wr.heap.size, 3, none⟩ (.slice A7 x.args.length c7) = w7s := ⟨_, rfl⟩; rw [h7s] at rx' g7s T7s; have HT7 := Lib.hid T7s; have m5 : ∀ o, (w7s.alloc o).cell? ⟨wr.heap.size, 5, none⟩ = some (.slice At x.to.length ct) := fun o => cell_of_row _ _ 5 _ _ _ ((((Gr.refl w7s).alloc o).heap _ (Array.getElem?_eq_some_iff.1 rx').1).trans rx'); clear T7 T7s ht7)
              | (at_builtin; refine wpList_appE Try.underlying22 hi0 hx0 hx1 hx2 rfl rfl (.tmp 49) (.tmp 51) rfl rfl (HXT.out.gr ((hgwx.trans g7s).alloc _)) rfl ?_; intro A8 c8 w8 ht8 hg8; have g78 : Gr w7s w8 := ((Gr.refl w7s).alloc _).trans hg8; have ry := (g78.heap _ (Array.getElem?_eq_some_iff.1 rx').1).trans rx'; have n5 := cell_of_row _ _ 5 _ _ _ ry; have f5 := frozen_of_row _ _ 5 _ _ ry; have T8 := ht8.lower (n₀ := w.heap.size) (by have := (hgwx.trans g7s).size; simp; omega); have ry' : (w8.setCell ⟨wr.heap.size, 5, none⟩ (.slice A8 x.to.length c8)).heap[wr.heap.size]? = some (.cells #[.int .i64 x.op, .int .i64 x.width, .int .i64 x.flags, .slice A7 x.args.length c7, .int .u32 x.imm, .slice A8 x.to.length c8] 51 (0, 0)) := heap_setCell_at (i := 5) (.slice A8 x.to.length c8) ry; have g8s : Gr wr (w8.setCell ⟨wr.heap.size, 5, none⟩ (.slice A8 x.to.length c8)) := (g7s.trans g78).setCell (Nat.le_refl _) _; have T8s := TI.cell_inst ry T8 (by decide) 5 (.slice A8 x.to.length c8); have T7t := TI.cell_inst ry (HT7.out.gr g78) (by decide) 5 (.slice A8 x.to.length c8); obtain ⟨w8s, h8s⟩ : ∃ w8s, w8.setCell ⟨wr.heap.size, 5, none⟩ (.slice A8 x.to.length c8) = w8s := ⟨_, rfl⟩; rw [h8s] at ry' g8s T8s T7t; have HT8 := Lib.hid (And.intro T7t T8s); have p0 := cell_of_row _ _ 0 _ _ _ ry'; have p1 := cell_of_row _ _ 1 _ _ _ ry'; have p2 := cell_of_row _ _ 2 _ _ _ ry'; have p3 := cell_of_row _ _ 3 _ _ _ ry'; have p4 := cell_of_row _ _ 4 _ _ _ ry'; have p5 := cell_of_row _ _ 5 _ _ _ ry'; obtain ⟨rows, hrw, hsix⟩ := HO.out.gr g8s; clear T8 T8s T7t ht8)
              | (at_builtin; refine app6 Try.underlying48 hj6 hy0 hy1 hy2 rfl (by omega) rfl _ _ rfl rfl hrw (by simp [Value.oneCell']) rfl (by omega) (by have := (hgx.trans g8s).size; omega) ?_; intro A5 c5 w2 hown2 hg2))
            obtain ⟨s1, s2⟩ := OwnI.snoc (HO.out.gr g8s) hrw hsix hown2 hg2 HT8.out.1 HT8.out.2 (hgx.trans g8s).size
            go_roundw
            case rel => exact ⟨j + 1, by omega, by go_num, by rw [HM.out]; exact s1, (hgx.trans g8s).below s2 (Nat.le_refl _)⟩
            case measure => simp [intOf]; omega
          · obtain rfl : j = l.length := by omega
            have HO2 := HO.out
            rw [List.take_length] at HO2
            obtain ⟨Au, cu, rfl⟩ := HO2.form
            have HTB : Hid (TB w.heap.size wr (.slice Au l.length cu) l) := HO2.tb (by omega) hgw.size
            obtain ⟨Avb, cvb, rfl⟩ := HI.out.form
            have HI1 := Lib.hid (HI.out.gr hgx)
            have hbx := HI1.out.box
            have b3 := cell_of_row _ _ 3 _ _ _ hbx
            clear hbx HI HO HO2
            go_wp2_with (at_builtin; refine CInv.append HI1.out HTB.out HL.out (by omega) hi hz0 hz1 hz2 rfl rfl _ _ rfl rfl rfl ?_; intro g5 c5 w5 hm5 HI5; have d3 := cell_of_row _ _ 3 _ _ _ hm5; have e3 := frozen_of_row _ _ 3 _ _ hm5; have HJ := Lib.hid HI5; clear hm5 HI5)
            go_roundw
            case rel => exact ⟨k + 1, _, by omega, by go_num, HJ⟩
            case measure => simp [intOf]; omega
      · obtain rfl : k = f.blocks.length := by omega
        have e1 := HSRC.out _ _ _ HI.out
        obtain ⟨A3, c3, rfl⟩ := HI.out.form
        have hbx := HI.out.box
        have hrs := HI.out.res
        have b0 := cell_of_row _ _ 0 _ _ _ hbx
        have b1 := cell_of_row _ _ 1 _ _ _ hbx
        have b2 := cell_of_row _ _ 2 _ _ _ hbx
        have b3 := cell_of_row _ _ 3 _ _ _ hbx
        have r0 := cell_of_row _ _ 0 _ _ _ hrs
        have r1 := cell_of_row _ _ 1 _ _ _ hrs
        have r2 := cell_of_row _ _ 2 _ _ _ hrs
        have r3 := cell_of_row _ _ 3 _ _ _ hrs
        have f0 := frozen_of_row _ _ 0 _ _ hrs
        have f1 := frozen_of_row _ _ 1 _ _ hrs
        have f2 := frozen_of_row _ _ 2 _ _ hrs
        have f3 := frozen_of_row _ _ 3 _ _ hrs
        have HRS := Lib.hid hrs
        clear hbx hrs
        go_wp2
        refine bodyPost_ret (results_fn _ _ 2 _ (w.heap.size + 1) _ _ _ _ _ rfl rfl (four_stores HRS.out _ _ _ _) ⟨_, _, _, rfl⟩ ⟨_, rfl⟩ ⟨_, _, _, rfl⟩ ⟨_, _, _, rfl⟩) rfl ?_
        obtain ⟨q1, q2⟩ := HI.out.done
        exact ⟨A1, c1, A2, c2, A3, c3, rfl, q1, q2⟩
end Go.Proofs.Ytiadpjhlomhjeaa

namespace Go.Proofs.Ytiadpjhlomhjeaa
open Go.RowKit

/-- From block n₀ on, numbers in rows of numbers and operations in rows of instructions have turned; all else is as it was. -/
structure Mu (n₀ : Nat) (w w' : World) : Prop where
  size : w.heap.size ≤ w'.heap.size
  below : Below n₀ w w'
  other : ∀ (k : Nat) (c : Array Value) (t : TypeId), w.heap[k]? = some (Obj.cells c t (0, 0)) → t ≠ 3 → t ≠ 51 → w'.heap[k]? = some (Obj.cells c t (0, 0))
  ints : ∀ (k : Nat) (c : Array Value), w.heap[k]? = some (Obj.cells c 3 (0, 0)) → ∃ c', w'.heap[k]? = some (Obj.cells c' 3 (0, 0)) ∧ ∀ (j : Nat) (z : Int), c[j]? = some (.int .i64 z) → ∃ z' : Int, c'[j]? = some (.int .i64 z')
  insts : ∀ (k : Nat) (c : Array Value), w.heap[k]? = some (Obj.cells c 51 (0, 0)) → ∃ c', w'.heap[k]? = some (Obj.cells c' 51 (0, 0)) ∧ (∀ j : Nat, j % 6 ≠ 0 → c'[j]? = c[j]?) ∧ ∀ (j : Nat) (z : Int), c[j]? = some (.int .i64 z) → ∃ z' : Int, c'[j]? = some (.int .i64 z')

section
variable {n₀ : Nat} {w w' w'' : World}
theorem Mu.refl (n₀ : Nat) (w : World) : Mu n₀ w w := ⟨Nat.le_refl _, Below.refl _ _, fun _ _ _ h _ _ => h, fun _ c h => ⟨c, h, fun _ z h => ⟨z, h⟩⟩, fun _ c h => ⟨c, h, fun _ _ => rfl, fun _ z h => ⟨z, h⟩⟩⟩
theorem Mu.trans (h : Mu n₀ w w') (k : Mu n₀ w' w'') : Mu n₀ w w'' := by
  refine ⟨Nat.le_trans h.size k.size, h.below.trans k.below, fun b c t q h1 h2 => k.other _ _ _ (h.other _ _ _ q h1 h2) h1 h2, fun b c q => ?_, fun b c q => ?_⟩
  · obtain ⟨c1, q1, q2⟩ := h.ints b c q
    obtain ⟨c2, q3, q4⟩ := k.ints b c1 q1
    exact ⟨c2, q3, fun j z hz => by obtain ⟨z1, e1⟩ := q2 j z hz; exact q4 j z1 e1⟩
  · obtain ⟨c1, q1, q2, q3⟩ := h.insts b c q
    obtain ⟨c2, q4, q5, q6⟩ := k.insts b c1 q1
    exact ⟨c2, q4, fun j hj => (q5 j hj).trans (q2 j hj), fun j z hz => by obtain ⟨z1, e1⟩ := q3 j z hz; exact q6 j z1 e1⟩
theorem Mu.of_gr (hn : n₀ ≤ w.heap.size) (g : Gr w w') : Mu n₀ w w' := by
  have hh : ∀ {b : Nat} {o : Obj}, w.heap[b]? = some o → w'.heap[b]? = some o := fun q => (g.heap _ (Array.getElem?_eq_some_iff.1 q).1).trans q
  exact ⟨g.size, Below.mono g hn, fun _ _ _ h _ _ => hh h, fun _ c h => ⟨c, hh h, fun _ z h => ⟨z, h⟩⟩, fun _ c h => ⟨c, hh h, fun _ _ => rfl, fun _ z h => ⟨z, h⟩⟩⟩
theorem Mu.alloc (h : Mu n₀ w w') (hn : n₀ ≤ w'.heap.size) (o : Obj) : Mu n₀ w (w'.alloc o) := h.trans (Mu.of_gr hn ((Gr.refl _).alloc o))
theorem get_set {c : Array Value} {i j : Nat} {v u : Value} (h : (c.setIfInBounds i v)[j]? = some u) : u = v ∨ c[j]? = some u := by
  rw [Array.getElem?_setIfInBounds] at h
  split at h
  · split at h
    · exact .inl (Option.some.inj h).symm
    · cases h
  · exact .inr h
theorem set_int {c : Array Value} {i j : Nat} {z y : Int} (h : c[j]? = some (.int .i64 z)) : ∃ z' : Int, (c.setIfInBounds i (.int .i64 y))[j]? = some (.int .i64 z') := by
  rw [Array.getElem?_setIfInBounds]
  have hlt := (Array.getElem?_eq_some_iff.1 h).1
  split
  · next e =>
    rw [if_pos (by omega)]; exact ⟨y, rfl⟩
  · exact ⟨z, h⟩
theorem Mu.set_int {b : Nat} {cur : Array Value} (hb : w.heap[b]? = some (.cells cur 3 (0, 0))) (hn : n₀ ≤ b) (j : Nat) (y : Int) : Mu n₀ w (w.setCell ⟨b, j, none⟩ (.int .i64 y)) := by
  have hat := heap_setCell_at (i := j) (.int .i64 y) hb
  refine ⟨(KeepsWalks.setCell w ⟨b, j, none⟩ _).size, (Below.refl _ w).setCell (p := ⟨b, j, none⟩) hn _, fun k c t q h1 h2 => ?_, fun k c q => ?_, fun k c q => ?_⟩
  · exact (heap_setCell_ne' _ (fun e => by rw [e, q] at hb; cases hb; exact h1 rfl)).trans q
  · by_cases e : b = k
    · subst e
      rw [hb] at q; cases q
      exact ⟨_, hat, fun j' z hz => Go.Proofs.Ytiadpjhlomhjeaa.set_int hz⟩
    · exact ⟨c, (heap_setCell_ne' _ e).trans q, fun _ z h => ⟨z, h⟩⟩
  · exact ⟨c, (heap_setCell_ne' _ (fun e => by rw [e, q] at hb; cases hb)).trans q, fun _ _ => rfl, fun _ z h => ⟨z, h⟩⟩
theorem Mu.set_op {b : Nat} {cur : Array Value} (hb : w.heap[b]? = some (.cells cur 51 (0, 0))) (hn : n₀ ≤ b) (j : Nat) (hj : j % 6 = 0) (y : Int) : Mu n₀ w (w.setCell ⟨b, j, none⟩ (.int .i64 y)) := by
  have hat := heap_setCell_at (i := j) (.int .i64 y) hb
  refine ⟨(KeepsWalks.setCell w ⟨b, j, none⟩ _).size, (Below.refl _ w).setCell (p := ⟨b, j, none⟩) hn _, fun k c t q h1 h2 => ?_, fun k c q => ?_, fun k c q => ?_⟩
  · exact (heap_setCell_ne' _ (fun e => by rw [e, q] at hb; cases hb; exact h2 rfl)).trans q
  · exact ⟨c, (heap_setCell_ne' _ (fun e => by rw [e, q] at hb; cases hb)).trans q, fun _ z h => ⟨z, h⟩⟩
  · by_cases e : b = k
    · subst e
      rw [hb] at q; cases q
      refine ⟨_, hat, fun j' hj' => ?_, fun j' z hz => Go.Proofs.Ytiadpjhlomhjeaa.set_int hz⟩
      rw [Array.getElem?_setIfInBounds, if_neg (fun e => by omega)]
    · exact ⟨c, (heap_setCell_ne' _ e).trans q, fun _ _ => rfl, fun _ z h => ⟨z, h⟩⟩
theorem Mu.keep (m : Mu n₀ w w') {b : Nat} {c : Array Value} (h : w.heap[b]? = some (.cells c 51 (0, 0))) (j : Nat) (hj : j % 6 ≠ 0) : w'.cell? ⟨b, j, none⟩ = c[j]? := by
  obtain ⟨c', q1, q2, -⟩ := m.insts b c h
  rw [cell_of_row _ _ _ _ _ _ q1, q2 j hj]
theorem TI.at {A : Option Addr} {n c : Nat} {zs : List Int} (h : TI n₀ w (.slice A n c) zs) {k : Nat} (hk : k < zs.length) :
    ∃ b : Nat, A = some ⟨b, 0, none⟩ ∧ n₀ ≤ b ∧ ∀ w', Mu n₀ w w' → ∃ (z : Int) (cur : Array Value), w'.heap[b]? = some (.cells cur 3 (0, 0)) ∧ w'.cell? ⟨b, k, none⟩ = some (.int .i64 z) ∧ w'.frozen? ⟨b, k, none⟩ = false := by
  obtain ⟨A', c', e, -, -, h3⟩ := h
  injection e with e1 e2 e3
  subst e1
  obtain ⟨b, cur, rfl, hb, hc, hz⟩ := h3 (by omega)
  refine ⟨b, rfl, hb, fun w' m => ?_⟩
  obtain ⟨c1, q1, q2⟩ := m.ints b cur hc
  obtain ⟨z, ez⟩ := q2 k zs[k] (hz k _ (List.getElem?_eq_getElem hk))
  exact ⟨z, c1, q1, (cell_of_row _ _ _ _ _ _ q1).trans ez, frozen_of_row _ _ k _ _ q1⟩
theorem TB.at {A : Option Addr} {n c : Nat} {l : List Ins} (h : TB n₀ w (.slice A n c) l) {j : Nat} {x : Ins} (hx : l[j]? = some x) :
    ∃ (b : Nat) (Aa : Option Addr) (ca : Nat) (At : Option Addr) (ct : Nat), A = some ⟨b, 0, none⟩ ∧ n₀ ≤ b ∧ TI n₀ w (.slice Aa x.args.length ca) x.args ∧ TI n₀ w (.slice At x.to.length ct) x.to ∧ ∀ w', Mu n₀ w w' → ∃ (z : Int) (cur : Array Value), w'.heap[b]? = some (.cells cur 51 (0, 0)) ∧
      (w'.cell? ⟨b, j * 6, none⟩ = some (.int .i64 z) ∧ w'.cell? ⟨b, j * 6 + 1, none⟩ = some (.int .i64 x.width) ∧ w'.cell? ⟨b, j * 6 + 2, none⟩ = some (.int .i64 x.flags) ∧ w'.cell? ⟨b, j * 6 + 3, none⟩ = some (.slice Aa x.args.length ca) ∧ w'.cell? ⟨b, j * 6 + 4, none⟩ = some (.int .u32 x.imm) ∧ w'.cell? ⟨b, j * 6 + 5, none⟩ = some (.slice At x.to.length ct)) ∧
      w'.frozen? ⟨b, j * 6, none⟩ = false := by
  obtain ⟨A', c', e, -, -, h3⟩ := h
  injection e with e1 e2 e3
  subst e1
  have hj := (List.getElem?_eq_some_iff.1 hx).1
  obtain ⟨b, cur, rfl, hb, hc, hz⟩ := h3 (by omega)
  obtain ⟨va, vt, r0, r1, r2, r3, r4, r5, ha, ht⟩ := hz j x hx
  obtain ⟨Aa, ca, rfl, -⟩ := id ha
  obtain ⟨At, ct, rfl, -⟩ := id ht
  refine ⟨b, Aa, ca, At, ct, rfl, hb, ha, ht, fun w' m => ?_⟩
  obtain ⟨c1, q1, q2, q3⟩ := m.insts b cur hc
  obtain ⟨z, ez⟩ := q3 _ _ r0
  have hcell : ∀ i, w'.cell? ⟨b, i, none⟩ = c1[i]? := fun i => cell_of_row _ _ _ _ _ _ q1
  exact ⟨z, c1, q1, ⟨(hcell _).trans ez, ((hcell _).trans (q2 _ (by omega))).trans r1, ((hcell _).trans (q2 _ (by omega))).trans r2, ((hcell _).trans (q2 _ (by omega))).trans r3, ((hcell _).trans (q2 _ (by omega))).trans r4, ((hcell _).trans (q2 _ (by omega))).trans r5⟩, frozen_of_row _ _ _ _ _ q1⟩

variable {f : Fn} {A1 A2 A3 : Option Addr} {m1 c1 m2 c2 m3 c3 : Nat}
theorem CpAt.gr {v : Value} (h : CpAt n₀ w v f) (g : Gr w w') : CpAt n₀ w' v f := by
  obtain ⟨vp, vs, vb, us, rfl, h1, h2, h3, h4, h5⟩ := h
  exact ⟨vp, vs, vb, us, rfl, h1.gr g, h2.gr g, h3.gr g, h4, fun j l hl => by obtain ⟨u, q1, q2⟩ := h5 j l hl; exact ⟨u, q1, q2.gr g⟩⟩
theorem CpAt.ps (h : CpAt n₀ w (.agg #[.slice A1 m1 c1, .int .i64 f.ret, .slice A2 m2 c2, .slice A3 m3 c3]) f) : TI n₀ w (.slice A1 m1 c1) f.params ∧ TI n₀ w (.slice A2 m2 c2) f.slots := by
  obtain ⟨vp, vs, vb, us, e, h1, h2, -⟩ := h
  simp at e
  obtain ⟨rfl, rfl, rfl⟩ := e
  exact ⟨h1, h2⟩
theorem CpAt.bl (h : CpAt n₀ w (.agg #[.slice A1 m1 c1, .int .i64 f.ret, .slice A2 m2 c2, .slice A3 m3 c3]) f) {k : Nat} {l : List Ins} (hl : f.blocks[k]? = some l) :
    ∃ (b : Nat) (Al : Option Addr) (cl : Nat), A3 = some ⟨b, 0, none⟩ ∧ (∀ w', Mu n₀ w w' → w'.cell? ⟨b, k, none⟩ = some (.slice Al l.length cl)) ∧ TB n₀ w (.slice Al l.length cl) l := by
  obtain ⟨vp, vs, vb, us, e, -, -, h3, h4, h5⟩ := h
  simp at e
  obtain ⟨-, -, rfl⟩ := e
  have hk := (List.getElem?_eq_some_iff.1 hl).1
  obtain ⟨u, q1, q2⟩ := h5 k l hl
  obtain ⟨Al, cl, rfl, -⟩ := id q2
  rcases h3.2 with ⟨e, h0⟩ | ⟨g, cap, cur, e, hb, hg, hnc, _, _, ht⟩
  · omega
  · injection e with e1 e2 e3
    subst e1
    refine ⟨g, Al, cl, rfl, fun w' m => ?_, q2⟩
    have hg' := m.other _ _ _ hg (by decide) (by decide)
    rw [cell_of_row _ _ _ _ _ _ hg', take_get ht (by omega), q1]
end
end Go.Proofs.Ytiadpjhlomhjeaa

namespace Go.Proofs.Ytiadpjhlomhjeaa
open Go.RowKit Go.Shelf

set_option maxRecDepth 100000 in
set_option maxHeartbeats 16000000 in
theorem lawCopies_any (v : Value) (f : Fn) (w : World) (hf : FnAt w.heap.size w v f) (hn : longFn f = false → Nice f) :
    Calls Try.prog 7 #[v] w fun e w' => e = .returned (.bool true) ∧ Gr w w' := by
  have HL : Hid (∀ w1, Gr w w1 → Calls Try.prog 8 #[v] w1 fun e w' => e = .returned (.bool (longFn f)) ∧ Gr w1 w') := fun w1 q => Long_any v f w1 (hf.gr q)
  have HC1 : Hid (longFn f = false → ∀ w1, Gr w w1 → Calls Try.prog 30 #[v] w1 fun e w' => ∃ A1 c1 A2 c2 A3 c3, e = .returned (.agg #[.slice A1 f.params.length c1, .int .i64 f.ret, .slice A2 f.slots.length c2, .slice A3 f.blocks.length c3]) ∧ Hid (CpAt w1.heap.size w' (.agg #[.slice A1 f.params.length c1, .int .i64 f.ret, .slice A2 f.slots.length c2, .slice A3 f.blocks.length c3]) f) ∧ Gr w1 w') := fun h w1 q => rCopy_any v f w1 (hf.gr q) (hn h).blocks (hn h).block
  have HC2 : Hid (longFn f = false → ∀ w1, Gr w w1 → Calls Try.prog 31 #[v] w1 fun e w' => ∃ A1 c1 A2 c2 A3 c3, e = .returned (.agg #[.slice A1 f.params.length c1, .int .i64 f.ret, .slice A2 f.slots.length c2, .slice A3 f.blocks.length c3]) ∧ Hid (CpAt w1.heap.size w' (.agg #[.slice A1 f.params.length c1, .int .i64 f.ret, .slice A2 f.slots.length c2, .slice A3 f.blocks.length c3]) f) ∧ Gr w1 w') := fun h w1 q => iCopy_any v f w1 (hf.gr q) (hn h).blocks (hn h).block
  have HS1 : Hid (∀ w1 u, Gr w w1 → FnAt w1.heap.size w1 u f → Calls Try.prog 29 #[u, v] w1 fun e w' => e = .returned (.bool true) ∧ Gr w1 w') := fun w1 u q hu => by
    have := rSame_any u v f f w1 hu (hf.gr q)
    simpa using this
  have HS2 : Hid (∀ w1 u, Gr w w1 → FnAt w1.heap.size w1 u f → Calls Try.prog 28 #[u, v] w1 fun e w' => e = .returned (.bool true) ∧ Gr w1 w') := fun w1 u q hu => by
    have := iSame_any u v f f w1 hu (hf.gr q)
    simpa using this
  have HS3 : Hid (∀ w1 u, Gr w w1 → FnAt w1.heap.size w1 u f → Calls Try.prog 29 #[v, u] w1 fun e w' => e = .returned (.bool true) ∧ Gr w1 w') := fun w1 u q hu => by
    have := rSame_any v u f f w1 (hf.gr q) hu
    simpa using this
  have HKN : Hid (∀ w1, Calls Try.prog 9 #[] w1 fun e w' => e = .returned (.bool true) ∧ Gr w1 w') := known_any
  have HN := Lib.hid hn
  obtain ⟨vp, vs, vb, rfl, hp, hsl, hb⟩ := hf
  obtain ⟨Ap, cp, rfl, -, hp2, -⟩ := hp
  obtain ⟨As, cs, rfl, -, hs2, -⟩ := hsl
  obtain ⟨Ab, cb, rfl, -, hb2, -⟩ := hb
  obtain ⟨W, hW⟩ : ∃ W, w.alloc (.cells #[.slice Ap f.params.length cp, .int .i64 f.ret, .slice As f.slots.length cs, .slice Ab f.blocks.length cb] 25) = W := ⟨_, rfl⟩
  have hB0 : Gr w W := by rw [← hW]; exact (Gr.refl w).alloc _
  have g0 : Gr (w.alloc (.cells #[.slice Ap f.params.length cp, .int .i64 f.ret, .slice As f.slots.length cs, .slice Ab f.blocks.length cb] 25)) W := by rw [hW]; exact Gr.refl _
  have hWs : W.heap.size = w.heap.size + 1 := by rw [← hW]; simp
  have hrf : W.heap[w.heap.size]? = some (.cells #[.slice Ap f.params.length cp, .int .i64 f.ret, .slice As f.slots.length cs, .slice Ab f.blocks.length cb] 25 (0, 0)) := by rw [← hW]; exact heap_alloc_new w _
  have RF : Hid (∀ w', Gr W w' → w'.heap[w.heap.size]? = some (.cells #[.slice Ap f.params.length cp, .int .i64 f.ret, .slice As f.slots.length cs, .slice Ab f.blocks.length cb] 25 (0, 0))) := fun w' q => (q.heap _ (by omega)).trans hrf
  have B0 : Hid (∀ w', Gr W w' → (w'.cell? ⟨w.heap.size, 0, none⟩ = some (.slice Ap f.params.length cp) ∧ w'.cell? ⟨w.heap.size, 1, none⟩ = some (.int .i64 f.ret) ∧ w'.cell? ⟨w.heap.size, 2, none⟩ = some (.slice As f.slots.length cs) ∧ w'.cell? ⟨w.heap.size, 3, none⟩ = some (.slice Ab f.blocks.length cb))) :=
    fun w' q => ⟨(q.cell _ _ (by omega)).trans (cell_box _ _ 0 g0 rfl), (q.cell _ _ (by omega)).trans (cell_box _ _ 1 g0 rfl), (q.cell _ _ (by omega)).trans (cell_box _ _ 2 g0 rfl), (q.cell _ _ (by omega)).trans (cell_box _ _ 3 g0 rfl)⟩
  obtain ⟨k0, k1, k2, k3⟩ := B0.out W (Gr.refl _)
  obtain ⟨lg, hlg⟩ : ∃ lg, longFn f = lg := ⟨_, rfl⟩
  rw [hlg] at HL HC1 HC2 HN
  clear hlg hn g0 hrf
  cases lg with
  | true =>
    go_enter Try.func7, Try.ntmps7
    go_wp2_with (first
      | (go_at_call 8; refine (HL.out _ hB0).mono ?_; rintro e w1 ⟨rfl, g1⟩)
      | (go_at_call 9; refine (HKN.out _).mono ?_; rintro e w2 ⟨rfl, g2⟩))
    go_ret
    exact ⟨rfl, hB0.trans (g1.trans g2)⟩
  | false =>
    have IC1 := Lib.hid (HC1.out rfl)
    have IC2 := Lib.hid (HC2.out rfl)
    have HNI := Lib.hid (HN.out rfl)
    have hbl := (HN.out rfl).blocks
    clear HC1 HC2 HN
    go_enter Try.func7, Try.ntmps7
    go_wp2_with (first
      | (go_at_call 8; refine (HL.out _ hB0).mono ?_; rintro x1 w1 ⟨rfl, g1⟩; obtain ⟨l0, l1, l2, l3⟩ := B0.out _ g1)
      | (go_at_call 30; refine (IC1.out _ (hB0.trans g1)).mono ?_; rintro x2 w2 ⟨A1, c1, A2, c2, A3, c3, rfl, HO, g2⟩; have q2 := g1.trans g2; obtain ⟨m0, m1, m2, m3⟩ := B0.out _ (q2.alloc (.cells #[.slice A1 f.params.length c1, .int .i64 f.ret, .slice A2 f.slots.length c2, .slice A3 f.blocks.length c3] 25)))
      | (go_at_call 31; refine (IC2.out _ (hB0.trans (q2.alloc _))).mono ?_; rintro x3 w3 ⟨D1, d1, D2, d2, D3, d3, rfl, HA, g3⟩; have q3 := (q2.alloc _).trans g3; obtain ⟨n0, n1, n2, n3⟩ := B0.out _ (q3.alloc (.cells #[.slice D1 f.params.length d1, .int .i64 f.ret, .slice D2 f.slots.length d2, .slice D3 f.blocks.length d3] 25)))
      | (go_at_call 29; refine (HS1.out _ _ (hB0.trans (q3.alloc _)) ((HA.out.gr ((Gr.refl _).alloc _)).fn hb2)).mono ?_; rintro x4 w4 ⟨rfl, g4⟩; have q4 := (q3.alloc _).trans g4; obtain ⟨i0, i1, i2, i3⟩ := B0.out _ q4; have hbx := (g4.heap _ (Array.getElem?_eq_some_iff.1 (heap_alloc_new w3 (.cells #[.slice D1 f.params.length d1, .int .i64 f.ret, .slice D2 f.slots.length d2, .slice D3 f.blocks.length d3] 25))).1).trans (heap_alloc_new w3 _); have x0 := cell_of_row _ _ 0 _ _ _ hbx; have x1 := cell_of_row _ _ 1 _ _ _ hbx; have x2 := cell_of_row _ _ 2 _ _ _ hbx; have x3 := cell_of_row _ _ 3 _ _ _ hbx)
      | (go_at_call 28; refine (HS2.out _ _ (hB0.trans q4) (((HA.out.gr ((Gr.refl _).alloc _)).gr g4).fn hb2)).mono ?_; rintro x5 w5 ⟨rfl, g5⟩; have q5 := q4.trans g5; have hbx5 := (g5.heap _ (Array.getElem?_eq_some_iff.1 hbx).1).trans hbx; have y0 := cell_of_row _ _ 0 _ _ _ hbx5; have y2 := cell_of_row _ _ 2 _ _ _ hbx5; have y3 := cell_of_row _ _ 3 _ _ _ hbx5))
    have G25 : Gr (w2.alloc (.cells #[.slice A1 f.params.length c1, .int .i64 f.ret, .slice A2 f.slots.length c2, .slice A3 f.blocks.length c3] 25)) w5 := g3.trans (((Gr.refl _).alloc _).trans (g4.trans g5))
    have HCA := Lib.hid (((HA.out.gr ((Gr.refl _).alloc _)).gr g4).gr g5)
    have hro : w5.heap[w2.heap.size]? = some (.cells #[.slice A1 f.params.length c1, .int .i64 f.ret, .slice A2 f.slots.length c2, .slice A3 f.blocks.length c3] 25 (0, 0)) := (G25.heap _ (by simp)).trans (heap_alloc_new w2 _)
    have hrf := RF.out _ q5
    have hww2 : Gr w w2 := hB0.trans q2
    have hw25 : Gr w2 w5 := ((Gr.refl _).alloc _).trans G25
    have HOF := Lib.hid ((HO.out.gr hw25).fn hb2)
    have HOW := Lib.hid (HO.out.fn hb2)
    obtain ⟨n₀, hE⟩ : ∃ n, (w2.alloc (.cells #[.slice A1 f.params.length c1, .int .i64 f.ret, .slice A2 f.slots.length c2, .slice A3 f.blocks.length c3] 25)).heap.size = n := ⟨_, rfl⟩
    have hn5 := G25.size
    have hE2 : n₀ = w2.heap.size + 1 := by rw [← hE]; simp
    rw [hE] at HCA hn5
    have hwn := hww2.size
    have hnp := HNI.out.blocks
    have HNB : Hid (∀ l ∈ f.blocks, l.length ≤ 100000) := HNI.out.block
    have HWF : Hid (∀ l ∈ f.blocks, ∀ x ∈ l, WfI x) := HNI.out.wf
    have KA : Hid (∀ wr, Mu n₀ w5 wr → wr.cell? ⟨w3.heap.size, 0, none⟩ = some (.slice D1 f.params.length d1) ∧ wr.cell? ⟨w3.heap.size, 2, none⟩ = some (.slice D2 f.slots.length d2) ∧ wr.cell? ⟨w3.heap.size, 3, none⟩ = some (.slice D3 f.blocks.length d3)) := fun wr m => by
      have h := m.other _ _ _ hbx5 (by decide) (by decide)
      exact ⟨cell_of_row _ _ 0 _ _ _ h, cell_of_row _ _ 2 _ _ _ h, cell_of_row _ _ 3 _ _ _ h⟩
    have KO : Hid (∀ wr, Mu n₀ w5 wr → (wr.cell? ⟨w.heap.size, 0, none⟩ = some (.slice Ap f.params.length cp) ∧ wr.cell? ⟨w.heap.size, 1, none⟩ = some (.int .i64 f.ret) ∧ wr.cell? ⟨w.heap.size, 2, none⟩ = some (.slice As f.slots.length cs) ∧ wr.cell? ⟨w.heap.size, 3, none⟩ = some (.slice Ab f.blocks.length cb)) ∧
        (wr.cell? ⟨w2.heap.size, 0, none⟩ = some (.slice A1 f.params.length c1) ∧ wr.cell? ⟨w2.heap.size, 1, none⟩ = some (.int .i64 f.ret) ∧ wr.cell? ⟨w2.heap.size, 2, none⟩ = some (.slice A2 f.slots.length c2) ∧ wr.cell? ⟨w2.heap.size, 3, none⟩ = some (.slice A3 f.blocks.length c3))) := fun wr m => by
      have h := m.other _ _ _ hrf (by decide) (by decide)
      have h' := m.other _ _ _ hro (by decide) (by decide)
      exact ⟨⟨cell_of_row _ _ 0 _ _ _ h, cell_of_row _ _ 1 _ _ _ h, cell_of_row _ _ 2 _ _ _ h, cell_of_row _ _ 3 _ _ _ h⟩, ⟨cell_of_row _ _ 0 _ _ _ h', cell_of_row _ _ 1 _ _ _ h', cell_of_row _ _ 2 _ _ _ h', cell_of_row _ _ 3 _ _ _ h'⟩⟩
    have HG5 := Lib.hid (hB0.trans q5)
    clear k0 k1 k2 k3 l0 l1 l2 l3 m0 m1 m2 m3 n0 n1 n2 n3 i0 i1 i2 i3 x0 x1 x2 x3 y0 y2 y3 hbx hbx5 hro hrf hW hE IC1 IC2 HL HS1 HS2 B0 RF HA HO
    have HD1 : Hid (TI n₀ w5 (.slice D1 f.params.length d1) f.params) := HCA.out.ps.1
    have HD2 : Hid (TI n₀ w5 (.slice D2 f.slots.length d2) f.slots) := HCA.out.ps.2
    have HD3 : Hid (∀ (k : Nat) (l : List Ins), f.blocks[k]? = some l → ∃ (b : Nat) (Al : Option Addr) (cl : Nat), D3 = some ⟨b, 0, none⟩ ∧ (∀ w', Mu n₀ w5 w' → w'.cell? ⟨b, k, none⟩ = some (.slice Al l.length cl)) ∧ TB n₀ w5 (.slice Al l.length cl) l) := fun k l h => HCA.out.bl h
    clear HCA
    go_loopw [5] (fun i wr => ∃ k : Nat, k ≤ f.params.length ∧ i = .int .i64 k ∧ Hid (Mu n₀ w5 wr)) (fun i _ => f.params.length - (intOf i).toNat)
    case atStart => exact ⟨0, Nat.zero_le _, rfl, Mu.refl _ _⟩
    case round =>
      obtain ⟨k, hk, rfl, HM⟩ := hrel
      obtain ⟨x0, x2, x3⟩ := KA.out _ HM.out
      by_cases hlt : k < f.params.length
      · obtain ⟨b, rfl, hb, hAt⟩ := TI.at HD1.out hlt
        obtain ⟨z, cur, hc, hcz, hfz⟩ := hAt _ HM.out
        have z1 : (k : Int) < (f.params.length : Int) := by omega
        have HMS := Lib.hid (fun y => HM.out.trans (Mu.set_int hc hb k y))
        clear hc hAt
        go_wp2
        go_roundw
        case rel => exact ⟨k + 1, by omega, by go_num, HMS.out _⟩
        case measure => simp [intOf]; omega
      · obtain rfl : k = f.params.length := by omega
        go_wp2
        go_loopw [6] (fun i wr => ∃ k : Nat, k ≤ f.slots.length ∧ i = .int .i64 k ∧ Hid (Mu n₀ w5 wr)) (fun i _ => f.slots.length - (intOf i).toNat)
        case atStart => exact ⟨0, Nat.zero_le _, rfl, HM⟩
        case round =>
          clear x0 x2 x3 HM
          obtain ⟨k, hk, rfl, HM⟩ := hrel
          obtain ⟨x0, x2, x3⟩ := KA.out _ HM.out
          by_cases hlt : k < f.slots.length
          · obtain ⟨b, rfl, hb, hAt⟩ := TI.at HD2.out hlt
            obtain ⟨z, cur, hc, hcz, hfz⟩ := hAt _ HM.out
            have z1 : (k : Int) < (f.slots.length : Int) := by omega
            have HMS := Lib.hid (fun y => HM.out.trans (Mu.set_int hc hb k y))
            clear hc hAt
            go_wp2
            go_roundw
            case rel => exact ⟨k + 1, by omega, by go_num, HMS.out _⟩
            case measure => simp [intOf]; omega
          · obtain rfl : k = f.slots.length := by omega
            go_wp2
            go_loopw [7, 8, 9, 10, 11] (fun i _ _ _ _ wr => ∃ k : Nat, k ≤ f.blocks.length ∧ i = .int .i64 k ∧ Hid (Mu n₀ w5 wr)) (fun i _ _ _ _ _ => f.blocks.length - (intOf i).toNat)
            case atStart => exact ⟨0, Nat.zero_le _, rfl, HM⟩
            case round =>
              clear x0 x2 x3 HM
              obtain ⟨k, hk, rfl, HM⟩ := hrel
              obtain ⟨x0, x2, x3⟩ := KA.out _ HM.out
              by_cases hlt : k < f.blocks.length
              · obtain ⟨l, hl⟩ : ∃ l, f.blocks[k]? = some l := ⟨_, List.getElem?_eq_getElem hlt⟩
                have hll := HNB.out l (List.mem_of_getElem? hl)
                have hwf := HWF.out l (List.mem_of_getElem? hl)
                obtain ⟨b3, Al, cl, rfl, hAl, hTB⟩ := HD3.out k l hl
                have HAL := Lib.hid hAl
                have HTB := Lib.hid hTB
                have HWL := Lib.hid hwf
                have z1 : (k : Int) < (f.blocks.length : Int) := by omega
                have e1 := HAL.out _ HM.out
                clear hl hAl hTB hwf hlt
                go_wp2
                go_loopw [8, 9, 10, 11] (fun i _ _ _ wr => ∃ j : Nat, j ≤ l.length ∧ i = .int .i64 j ∧ Hid (Mu n₀ w5 wr)) (fun i _ _ _ _ => l.length - (intOf i).toNat)
                case atStart => exact ⟨0, Nat.zero_le _, rfl, HM⟩
                case round =>
                  clear x0 x2 x3 HM e1
                  obtain ⟨j, hj, rfl, HM⟩ := hrel
                  obtain ⟨x0, x2, x3⟩ := KA.out _ HM.out
                  have e1 := HAL.out _ HM.out
                  by_cases hlt2 : j < l.length
                  · obtain ⟨x, hx⟩ : ∃ x, l[j]? = some x := ⟨_, List.getElem?_eq_getElem hlt2⟩
                    have hxw := HWL.out x (List.mem_of_getElem? hx)
                    obtain ⟨bl, Aa, ca, At, ct, rfl, hbl, hta, htt, hAt⟩ := TB.at HTB.out hx
                    have HAT := Lib.hid hAt
                    have HTA := Lib.hid hta
                    have HTT := Lib.hid htt
                    obtain ⟨z, cur, -, ⟨r0, r1, r2, r3, r4, r5⟩, -⟩ := HAT.out _ HM.out
                    have z2 : (j : Int) < (l.length : Int) := by omega
                    have hwo : ∃ wo, wo = wr := ⟨wr, rfl⟩
                    obtain ⟨wo, ewo⟩ := hwo
                    subst ewo
                    have hso := HM.out.size
                    have HMX := Lib.hid (HM.out.alloc (by omega) (.cells #[.int .i64 z, .int .i64 x.width, .int .i64 x.flags, .slice Aa x.args.length ca, .int .u32 x.imm, .slice At x.to.length ct] 51))
                    have HXB : Hid (∀ wr, Mu n₀ (wo.alloc (.cells #[.int .i64 z, .int .i64 x.width, .int .i64 x.flags, .slice Aa x.args.length ca, .int .u32 x.imm, .slice At x.to.length ct] 51)) wr → wr.cell? ⟨wo.heap.size, 3, none⟩ = some (.slice Aa x.args.length ca) ∧ wr.cell? ⟨wo.heap.size, 5, none⟩ = some (.slice At x.to.length ct)) := fun wr m => ⟨m.keep (heap_alloc_new wo _) 3 (by decide), m.keep (heap_alloc_new wo _) 5 (by decide)⟩
                    have hla : x.args.length ≤ 17592186044416 := by obtain ⟨_, _, _, _, q, _⟩ := hta; exact q
                    have hlt' : x.to.length ≤ 17592186044416 := by obtain ⟨_, _, _, _, q, _⟩ := htt; exact q
                    clear hx hxw hta htt hAt hlt2 hso
                    go_wp2
                    go_loopw [10] (fun i wr => ∃ q : Nat, q ≤ x.args.length ∧ i = .int .i64 q ∧ Hid (Mu n₀ (wo.alloc (.cells #[.int .i64 z, .int .i64 x.width, .int .i64 x.flags, .slice Aa x.args.length ca, .int .u32 x.imm, .slice At x.to.length ct] 51)) wr)) (fun i _ => x.args.length - (intOf i).toNat)
                    case atStart => exact ⟨0, Nat.zero_le _, rfl, Mu.refl _ _⟩
                    case round =>
                      clear x0 x2 x3 e1 r0 r1 r2 r3 r4 r5
                      obtain ⟨q, hq, rfl, HQ⟩ := hrel
                      obtain ⟨s3, s5⟩ := HXB.out _ HQ.out
                      by_cases hlq : q < x.args.length
                      · obtain ⟨b, rfl, hb, hAq⟩ := TI.at HTA.out hlq
                        obtain ⟨y, cur', hc, hcz, hfz⟩ := hAq _ (HMX.out.trans HQ.out)
                        have z3 : (q : Int) < (x.args.length : Int) := by omega
                        have HMS := Lib.hid (fun y => HQ.out.trans (Mu.set_int hc hb q y))
                        clear hc hAq hlq
                        go_wp2
                        go_roundw
                        case rel => exact ⟨q + 1, by omega, by go_num, HMS.out _⟩
                        case measure => simp [intOf]; omega
                      · obtain rfl : q = x.args.length := by omega
                        go_wp2
                        go_loopw [11] (fun i wr => ∃ q : Nat, q ≤ x.to.length ∧ i = .int .i64 q ∧ Hid (Mu n₀ (wo.alloc (.cells #[.int .i64 z, .int .i64 x.width, .int .i64 x.flags, .slice Aa x.args.length ca, .int .u32 x.imm, .slice At x.to.length ct] 51)) wr)) (fun i _ => x.to.length - (intOf i).toNat)
                        case atStart => exact ⟨0, Nat.zero_le _, rfl, HQ⟩
                        case round =>
                          clear s3 s5 HQ
                          obtain ⟨q, hq, rfl, HQ⟩ := hrel
                          obtain ⟨s3, s5⟩ := HXB.out _ HQ.out
                          by_cases hlq : q < x.to.length
                          · obtain ⟨b, rfl, hb, hAq⟩ := TI.at HTT.out hlq
                            obtain ⟨y, cur', hc, hcz, hfz⟩ := hAq _ (HMX.out.trans HQ.out)
                            have z3 : (q : Int) < (x.to.length : Int) := by omega
                            have HMS := Lib.hid (fun y => HQ.out.trans (Mu.set_int hc hb q y))
                            clear hc hAq hlq
                            go_wp2
                            go_roundw
                            case rel => exact ⟨q + 1, by omega, by go_num, HMS.out _⟩
                            case measure => simp [intOf]; omega
                          · obtain rfl : q = x.to.length := by omega
                            have HMQ := Lib.hid (HMX.out.trans HQ.out)
                            obtain ⟨x0, x2, x3⟩ := KA.out _ HMQ.out
                            have e1 := HAL.out _ HMQ.out
                            obtain ⟨y, cur', hc, ⟨r0, -, -, -, -, -⟩, hfz⟩ := HAT.out _ HMQ.out
                            have HMS := Lib.hid (fun y => HMQ.out.trans (Mu.set_op hc hbl (j * 6) (by omega) y))
                            clear hc
                            go_wp2
                            go_roundw
                            case rel => exact ⟨j + 1, by omega, by go_num, HMS.out _⟩
                            case measure => simp [intOf]; omega
                  · obtain rfl : j = l.length := by omega
                    go_wp2
                    go_roundw
                    case rel => exact ⟨k + 1, by omega, by go_num, HM⟩
                    case measure => simp [intOf]; omega
              · obtain rfl : k = f.blocks.length := by omega
                obtain ⟨⟨p0, p1, p2, p3⟩, ⟨r0, r1, r2, r3⟩⟩ := KO.out _ HM.out
                have hgw : Gr w wr := HG5.out.below HM.out.below (by omega)
                have hg2 : Gr w2 wr := hw25.below HM.out.below (by omega)
                have HFO := Lib.hid (HOW.out.gr hg2)
                go_wp2_with (first
                  | (go_at_call 29; refine (HS3.out _ _ hgw HFO.out).mono ?_; rintro e8 w8 ⟨rfl, g8⟩)
                  | (go_at_call 9; refine (HKN.out _).mono ?_; rintro e9 w9 ⟨rfl, g9⟩))
                go_ret
                exact ⟨rfl, hgw.trans (g8.trans g9)⟩
end Go.Proofs.Ytiadpjhlomhjeaa

namespace Go.Proofs.Ytiadpjhlomhjeaa.copies
open Go.ChangeShapes Go.WideShapes Go.ChangeAt Go.RowKit
set_option linter.unusedVariables false

theorem own : ownKnob Try.prog.godebug = none := by kernel_rfl
theorem laidOut : laidOutB Try.prog = true := by kernel_rfl

set_option maxRecDepth 100000 in
theorem lifted (os : Os) (started : os.Started) (H : Type) (enc : TypeId × Value → H) :
    ReturnsInHanded {} Try.checked os 7 .any (Rows.irCopiesSpec.pre6 enc Try.prog Try.f7 Rows.irCopiesRow.domain false) (Rows.irCopiesSpec.post enc Try.prog Try.f7 false true false false) := by
  refine returnsInHanded_of_change_sized (C := Try.checked) own started (by kernel_rfl) Try.func7
    (ChangeSpec.witness6 (enc := enc) (C := Try.checked) false ⟨#[], #[.agg #[.slice none 0 0, .int .i64 0, .slice none 0 0, .slice none 0 0]], []⟩ 8 (by kernel_rfl) (by kernel_rfl) (by kernel_rfl) (by kernel_rfl)) ?_
  intro W base args ds gs before hval0 hW hcnd0 hsz0 _
  have hval : ∀ (j : Nat) t v, (Try.f7).params[j]? = some t → args[j]? = some v → Value.okWide Try.prog W .any base t v := hval0
  have hsz : (DataW.weightsEach Try.prog ((Try.f7).params.toList ++ Rows.irCopiesSpec.plain.varTypes Try.prog) (ds ++ gs)).all (· ≤ reachBytes) = true := hsz0
  have hW' := hW
  obtain ⟨p, q, hA0, hV, rfl, hfz, hnd⟩ := hW
  have hA : DataW.TrodAll enc Try.prog W 0 (fun _ => true) true (Try.f7).params.toList args.toList ds p := hA0
  rw [Try.params7] at hA hval hsz
  obtain ⟨v0, vs0, d0, ds0, p0, q0, hargs, rfl, rfl, h0, r0⟩ := trodAll_cons hA
  obtain ⟨rfl, rfl, rfl⟩ := trodAll_nil r0
  obtain rfl : args = #[v0] := by cases args; simp_all
  obtain ⟨rfl, rfl⟩ := trodVars_none hV
  have k0 := h0
  have lt0 : ∀ x ∈ p0, x.block < W.heap.size := by obtain ⟨m, hm⟩ := k0; exact DataW.trod_lt m _ _ _ hm
  obtain ⟨f, hf, hs⟩ := fn_open (hval 0 25 v0 rfl rfl) h0 (fun m hm => by
    have := List.all_eq_true.1 hsz m (DataW.weights_mem_each (j := 0) (t := 25) rfl rfl m hm)
    simpa using this)
  clear hA0 hval0 hsz0 hcnd0
  refine (lawCopies_any v0 f W hf (nice_of hs)).mono fun e W' ⟨he, bel⟩ => ?_
  subst he
  exact ⟨_, rfl, _, _, _, [], _, [], hW', trodAll_mk1 (shut_bool Try.underlying4 _), (trodAll_cons_mk (Below.trod laidOut (by kernel_rfl) (of_decide_eq_true (by kernel_rfl)) k0 bel lt0) trodAll_mk0), rfl, bel.frame _, fun h => by cases h⟩

theorem over : Rows.irCopiesRow.holds Try.pinned (OpenSpec.ofChange Rows.irCopiesSpec) :=
  OpenClaim.holds_of_wide 7 Try.f7 rfl rfl rfl rfl rfl rfl rfl ⟨rfl, rfl, rfl, rfl, rfl⟩ rfl rfl rfl rfl rfl (by kernel_rfl) Try.func7 (by kernel_rfl)
    (of_decide_eq_true (by kernel_rfl)) (by unfold Func.isWrapper; first | (rw [if_pos (by decide +kernel)]; kernel_rfl) | (rw [if_neg (by decide +kernel)]; exact ⟨rfl, rfl⟩))
    (fun os started H enc _ => lifted os started H enc)

/-- THE STATEMENT. -/
theorem proved : Rows.IrCopiesSaid := over
#print axioms proved
end Go.Proofs.Ytiadpjhlomhjeaa.copies

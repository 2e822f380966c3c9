/- The law backstaylaw03.IrAlikes returns true at every input, and the input reads as it did. -/
import Derived.Test.YtiadpjhlomhjeaaIrY
import Derived.Test.YtiadpjhlomhjeaaRefA
import Derived.Test.YtiadpjhlomhjeaaIrLast
import Derived.Test.YtiadpjhlomhjeaaIrMainM

namespace Go.Proofs.Ytiadpjhlomhjeaa
open Go.RowKit

theorem ins_eq (x y : Ins) : decide (x = y) = ((x.op == y.op) && (x.width == y.width) && (x.flags == y.flags) && (x.imm == y.imm) && decide (x.args = y.args) && decide (x.to = y.to)) := by
  obtain ⟨a, b, c, d, e, f⟩ := x
  obtain ⟨a', b', c', d', e', f'⟩ := y
  rw [Bool.eq_iff_iff]
  simp only [decide_eq_true_eq, Bool.and_eq_true, beq_iff_eq, Ins.mk.injEq]
  constructor
  · rintro ⟨h1, h2, h3, h4, h5, h6⟩; exact ⟨⟨⟨⟨⟨h1, h2⟩, h3⟩, h5⟩, h4⟩, h6⟩
  · rintro ⟨⟨⟨⟨⟨h1, h2⟩, h3⟩, h5⟩, h4⟩, h6⟩; exact ⟨h1, h2, h3, h4, h5, h6⟩

set_option maxRecDepth 100000 in
set_option maxHeartbeats 8000000 in
theorem SameInst_any (x y : Ins) (vx vy : Value) (w : World) (hx : InsV w.heap.size w vx x) (hy : InsV w.heap.size w vy y) :
    Calls Try.prog 60 #[vx, vy] w fun e w' => e = .returned (.bool (decide (x = y))) ∧ Gr w w' := by
  obtain ⟨va, vt, rfl, hxa, hxt⟩ := hx
  obtain ⟨ua, ut, rfl, hya, hyt⟩ := hy
  have HQ1 : Hid (∀ w1, Gr w w1 → Calls Try.prog 25 #[va, ua] w1 fun e w' => e = .returned (.bool (decide (x.args = y.args))) ∧ Gr w1 w') := fun w1 q => SameInts_any va ua _ _ w1 (hxa.gr q) (hya.gr q)
  have HQ2 : Hid (∀ w1, Gr w w1 → Calls Try.prog 25 #[vt, ut] w1 fun e w' => e = .returned (.bool (decide (x.to = y.to))) ∧ Gr w1 w') := fun w1 q => SameInts_any vt ut _ _ w1 (hxt.gr q) (hyt.gr q)
  have HE := Lib.hid (ins_eq x y)
  obtain ⟨Aa, ca, rfl, -, -, -⟩ := hxa
  obtain ⟨At, ct, rfl, -, -, -⟩ := hxt
  obtain ⟨Da, da, rfl, -, -, -⟩ := hya
  obtain ⟨Dt, dt, rfl, -, -, -⟩ := hyt
  obtain ⟨W, hW⟩ : ∃ W, (w.alloc (.cells #[.int .i64 x.op, .int .i64 x.width, .int .i64 x.flags, .slice Aa x.args.length ca, .int .u32 x.imm, .slice At x.to.length ct] 51)).alloc (.cells #[.int .i64 y.op, .int .i64 y.width, .int .i64 y.flags, .slice Da y.args.length da, .int .u32 y.imm, .slice Dt y.to.length dt] 51) = W := ⟨_, rfl⟩
  have hB0 : Gr w W := by rw [← hW]; exact ((Gr.refl w).alloc _).alloc _
  have hWs : W.heap.size = w.heap.size + 2 := by rw [← hW]; simp
  have B1 : Hid (∀ w' o, Gr W w' → w'.cell? ⟨w.heap.size, o, none⟩ = (#[.int .i64 x.op, .int .i64 x.width, .int .i64 x.flags, .slice Aa x.args.length ca, .int .u32 x.imm, .slice At x.to.length ct] : Array Value)[o]?) := by
    intro w' o g
    refine (g.cell w.heap.size o (by omega)).trans ?_
    rw [← hW]
    exact (((Gr.refl _).alloc _).cell w.heap.size o (by simp)).trans (cell_of_row _ _ _ _ _ _ (heap_alloc_new w _))
  have B2 : Hid (∀ w' o, Gr W w' → w'.cell? ⟨w.heap.size + 1, o, none⟩ = (#[.int .i64 y.op, .int .i64 y.width, .int .i64 y.flags, .slice Da y.args.length da, .int .u32 y.imm, .slice Dt y.to.length dt] : Array Value)[o]?) := by
    intro w' o g
    refine (g.cell (w.heap.size + 1) o (by omega)).trans ?_
    rw [← hW]
    exact cell_of_row _ _ _ _ _ _ (heap_alloc2_new w _ _)
  have KK : Hid (∀ w', Gr W w' → (w'.cell? ⟨w.heap.size, 0, none⟩ = some (.int .i64 x.op) ∧ w'.cell? ⟨w.heap.size, 1, none⟩ = some (.int .i64 x.width) ∧ w'.cell? ⟨w.heap.size, 2, none⟩ = some (.int .i64 x.flags) ∧ w'.cell? ⟨w.heap.size, 3, none⟩ = some (.slice Aa x.args.length ca) ∧ w'.cell? ⟨w.heap.size, 4, none⟩ = some (.int .u32 x.imm) ∧ w'.cell? ⟨w.heap.size, 5, none⟩ = some (.slice At x.to.length ct)) ∧
      (w'.cell? ⟨w.heap.size + 1, 0, none⟩ = some (.int .i64 y.op) ∧ w'.cell? ⟨w.heap.size + 1, 1, none⟩ = some (.int .i64 y.width) ∧ w'.cell? ⟨w.heap.size + 1, 2, none⟩ = some (.int .i64 y.flags) ∧ w'.cell? ⟨w.heap.size + 1, 3, none⟩ = some (.slice Da y.args.length da) ∧ w'.cell? ⟨w.heap.size + 1, 4, none⟩ = some (.int .u32 y.imm) ∧ w'.cell? ⟨w.heap.size + 1, 5, none⟩ = some (.slice Dt y.to.length dt))) :=
    fun w' g => ⟨⟨B1.out _ 0 g, B1.out _ 1 g, B1.out _ 2 g, B1.out _ 3 g, B1.out _ 4 g, B1.out _ 5 g⟩, ⟨B2.out _ 0 g, B2.out _ 1 g, B2.out _ 2 g, B2.out _ 3 g, B2.out _ 4 g, B2.out _ 5 g⟩⟩
  obtain ⟨⟨c0, c1, c2, c3, c4, c5⟩, ⟨d0, d1, d2, d3, d4, d5⟩⟩ := KK.out W (Gr.refl _)
  obtain ⟨b1, h1⟩ : ∃ b, (x.op == y.op) = b := ⟨_, rfl⟩
  obtain ⟨b2, h2⟩ : ∃ b, (x.width == y.width) = b := ⟨_, rfl⟩
  obtain ⟨b3, h3⟩ : ∃ b, (x.flags == y.flags) = b := ⟨_, rfl⟩
  obtain ⟨b4, h4⟩ : ∃ b, (x.imm == y.imm) = b := ⟨_, rfl⟩
  obtain ⟨b5, h5⟩ : ∃ b, decide (x.args = y.args) = b := ⟨_, rfl⟩
  obtain ⟨b6, h6⟩ : ∃ b, decide (x.to = y.to) = b := ⟨_, rfl⟩
  rw [h1, h2, h3, h4, h5, h6] at HE
  rw [h5] at HQ1
  rw [h6] at HQ2
  clear h5 h6 B1 B2
  unfold insVal
  rcases (by cases b1 <;> cases b2 <;> cases b3 <;> simp : b1 = false ∨ (b1 = true ∧ b2 = false) ∨ (b1 = true ∧ b2 = true ∧ b3 = false) ∨ (b1 = true ∧ b2 = true ∧ b3 = true)) with rfl | ⟨rfl, rfl⟩ | ⟨rfl, rfl, rfl⟩ | ⟨rfl, rfl, rfl⟩
  rotate_right 1
  · rcases (by cases b4 <;> cases b5 <;> simp : (b4 = false ∧ b5 = false) ∨ (b4 = false ∧ b5 = true) ∨ (b4 = true ∧ b5 = false) ∨ (b4 = true ∧ b5 = true)) with ⟨rfl, rfl⟩ | ⟨rfl, rfl⟩ | ⟨rfl, rfl⟩ | ⟨rfl, rfl⟩
    all_goals
      go_enter Try.func60, Try.ntmps60
      go_wp2_with (first
        | (go_at_call 25; with_reducible refine (HQ1.out _ hB0).mono ?_; rintro e w1 ⟨rfl, g1⟩; obtain ⟨⟨k0, k1, k2, k3, k4, k5⟩, ⟨m0, m1, m2, m3, m4, m5⟩⟩ := KK.out _ g1)
        | (go_at_call 25; with_reducible refine (HQ2.out _ (hB0.trans g1)).mono ?_; rintro e w2 ⟨rfl, g2⟩))
      go_ret
      first
        | exact ⟨ret_bool (by rw [HE.out]; simp), hB0.trans (g1.trans g2)⟩
        | exact ⟨ret_bool (by rw [HE.out]; simp), hB0.trans g1⟩
        | exact ⟨ret_bool (by rw [HE.out]; simp), hB0⟩
  all_goals
    go_enter Try.func60, Try.ntmps60
    go_wp2
    go_ret
    exact ⟨ret_bool (by rw [HE.out]; simp), hB0⟩

set_option maxRecDepth 100000 in
set_option maxHeartbeats 8000000 in
theorem iSame1_any (x y : Ins) (vx vy : Value) (w : World) (hx : InsV w.heap.size w vx x) (hy : InsV w.heap.size w vy y) :
    Calls Try.prog 56 #[vx, vy] w fun e w' => e = .returned (.bool (decide (x = y))) ∧ Gr w w' := by
  obtain ⟨va, vt, rfl, hxa, hxt⟩ := hx
  obtain ⟨ua, ut, rfl, hya, hyt⟩ := hy
  have HQ1 : Hid (∀ w1, Gr w w1 → Calls Try.prog 55 #[va, ua] w1 fun e w' => e = .returned (.bool (decide (x.args = y.args))) ∧ Gr w1 w') := fun w1 q => Equal_any va ua _ _ w1 (hxa.gr q) (hya.gr q)
  have HQ2 : Hid (∀ w1, Gr w w1 → Calls Try.prog 55 #[vt, ut] w1 fun e w' => e = .returned (.bool (decide (x.to = y.to))) ∧ Gr w1 w') := fun w1 q => Equal_any vt ut _ _ w1 (hxt.gr q) (hyt.gr q)
  have HE := Lib.hid (ins_eq x y)
  obtain ⟨Aa, ca, rfl, -, -, -⟩ := hxa
  obtain ⟨At, ct, rfl, -, -, -⟩ := hxt
  obtain ⟨Da, da, rfl, -, -, -⟩ := hya
  obtain ⟨Dt, dt, rfl, -, -, -⟩ := hyt
  obtain ⟨W, hW⟩ : ∃ W, (w.alloc (.cells #[.int .i64 x.op, .int .i64 x.width, .int .i64 x.flags, .slice Aa x.args.length ca, .int .u32 x.imm, .slice At x.to.length ct] 51)).alloc (.cells #[.int .i64 y.op, .int .i64 y.width, .int .i64 y.flags, .slice Da y.args.length da, .int .u32 y.imm, .slice Dt y.to.length dt] 51) = W := ⟨_, rfl⟩
  have hB0 : Gr w W := by rw [← hW]; exact ((Gr.refl w).alloc _).alloc _
  have hWs : W.heap.size = w.heap.size + 2 := by rw [← hW]; simp
  have B1 : Hid (∀ w' o, Gr W w' → w'.cell? ⟨w.heap.size, o, none⟩ = (#[.int .i64 x.op, .int .i64 x.width, .int .i64 x.flags, .slice Aa x.args.length ca, .int .u32 x.imm, .slice At x.to.length ct] : Array Value)[o]?) := by
    intro w' o g
    refine (g.cell w.heap.size o (by omega)).trans ?_
    rw [← hW]
    exact (((Gr.refl _).alloc _).cell w.heap.size o (by simp)).trans (cell_of_row _ _ _ _ _ _ (heap_alloc_new w _))
  have B2 : Hid (∀ w' o, Gr W w' → w'.cell? ⟨w.heap.size + 1, o, none⟩ = (#[.int .i64 y.op, .int .i64 y.width, .int .i64 y.flags, .slice Da y.args.length da, .int .u32 y.imm, .slice Dt y.to.length dt] : Array Value)[o]?) := by
    intro w' o g
    refine (g.cell (w.heap.size + 1) o (by omega)).trans ?_
    rw [← hW]
    exact cell_of_row _ _ _ _ _ _ (heap_alloc2_new w _ _)
  have KK : Hid (∀ w', Gr W w' → (w'.cell? ⟨w.heap.size, 0, none⟩ = some (.int .i64 x.op) ∧ w'.cell? ⟨w.heap.size, 1, none⟩ = some (.int .i64 x.width) ∧ w'.cell? ⟨w.heap.size, 2, none⟩ = some (.int .i64 x.flags) ∧ w'.cell? ⟨w.heap.size, 3, none⟩ = some (.slice Aa x.args.length ca) ∧ w'.cell? ⟨w.heap.size, 4, none⟩ = some (.int .u32 x.imm) ∧ w'.cell? ⟨w.heap.size, 5, none⟩ = some (.slice At x.to.length ct)) ∧
      (w'.cell? ⟨w.heap.size + 1, 0, none⟩ = some (.int .i64 y.op) ∧ w'.cell? ⟨w.heap.size + 1, 1, none⟩ = some (.int .i64 y.width) ∧ w'.cell? ⟨w.heap.size + 1, 2, none⟩ = some (.int .i64 y.flags) ∧ w'.cell? ⟨w.heap.size + 1, 3, none⟩ = some (.slice Da y.args.length da) ∧ w'.cell? ⟨w.heap.size + 1, 4, none⟩ = some (.int .u32 y.imm) ∧ w'.cell? ⟨w.heap.size + 1, 5, none⟩ = some (.slice Dt y.to.length dt))) :=
    fun w' g => ⟨⟨B1.out _ 0 g, B1.out _ 1 g, B1.out _ 2 g, B1.out _ 3 g, B1.out _ 4 g, B1.out _ 5 g⟩, ⟨B2.out _ 0 g, B2.out _ 1 g, B2.out _ 2 g, B2.out _ 3 g, B2.out _ 4 g, B2.out _ 5 g⟩⟩
  obtain ⟨⟨c0, c1, c2, c3, c4, c5⟩, ⟨d0, d1, d2, d3, d4, d5⟩⟩ := KK.out W (Gr.refl _)
  obtain ⟨b1, h1⟩ : ∃ b, (x.op == y.op) = b := ⟨_, rfl⟩
  obtain ⟨b2, h2⟩ : ∃ b, (x.width == y.width) = b := ⟨_, rfl⟩
  obtain ⟨b3, h3⟩ : ∃ b, (x.flags == y.flags) = b := ⟨_, rfl⟩
  obtain ⟨b4, h4⟩ : ∃ b, (x.imm == y.imm) = b := ⟨_, rfl⟩
  obtain ⟨b5, h5⟩ : ∃ b, decide (x.args = y.args) = b := ⟨_, rfl⟩
  obtain ⟨b6, h6⟩ : ∃ b, decide (x.to = y.to) = b := ⟨_, rfl⟩
  rw [h1, h2, h3, h4, h5, h6] at HE
  rw [h5] at HQ1
  rw [h6] at HQ2
  clear h5 h6 B1 B2
  unfold insVal
  rcases (by cases b1 <;> cases b2 <;> cases b3 <;> simp : b1 = false ∨ (b1 = true ∧ b2 = false) ∨ (b1 = true ∧ b2 = true ∧ b3 = false) ∨ (b1 = true ∧ b2 = true ∧ b3 = true)) with rfl | ⟨rfl, rfl⟩ | ⟨rfl, rfl, rfl⟩ | ⟨rfl, rfl, rfl⟩
  rotate_right 1
  · rcases (by cases b4 <;> cases b5 <;> simp : (b4 = false ∧ b5 = false) ∨ (b4 = false ∧ b5 = true) ∨ (b4 = true ∧ b5 = false) ∨ (b4 = true ∧ b5 = true)) with ⟨rfl, rfl⟩ | ⟨rfl, rfl⟩ | ⟨rfl, rfl⟩ | ⟨rfl, rfl⟩
    all_goals
      go_enter Try.func56, Try.ntmps56
      go_wp2_with (first
        | (go_at_call 55; with_reducible refine (HQ1.out _ hB0).mono ?_; rintro e w1 ⟨rfl, g1⟩; obtain ⟨⟨k0, k1, k2, k3, k4, k5⟩, ⟨m0, m1, m2, m3, m4, m5⟩⟩ := KK.out _ g1)
        | (go_at_call 55; with_reducible refine (HQ2.out _ (hB0.trans g1)).mono ?_; rintro e w2 ⟨rfl, g2⟩))
      go_ret
      first
        | exact ⟨ret_bool (by rw [HE.out]; simp), hB0.trans (g1.trans g2)⟩
        | exact ⟨ret_bool (by rw [HE.out]; simp), hB0.trans g1⟩
        | exact ⟨ret_bool (by rw [HE.out]; simp), hB0⟩
  all_goals
    go_enter Try.func56, Try.ntmps56
    go_wp2
    go_ret
    exact ⟨ret_bool (by rw [HE.out]; simp), hB0⟩

end Go.Proofs.Ytiadpjhlomhjeaa

namespace Go.Proofs.Ytiadpjhlomhjeaa
open Go.RowKit

theorem take_step {α : Type} [DecidableEq α] {a b : List α} {k : Nat} {x y : α} (h : a.take k = b.take k) (hx : a[k]? = some x) (hy : b[k]? = some y) (e : x = y) : a.take (k + 1) = b.take (k + 1) := by
  rw [List.take_add_one, List.take_add_one, h, hx, hy, e]
theorem ne_step {α : Type} {a b : List α} {k : Nat} {x y : α} (hx : a[k]? = some x) (hy : b[k]? = some y) (e : x ≠ y) : a ≠ b := by
  intro h; rw [h, hy] at hx; exact e (Option.some.inj hx).symm
theorem take_end {α : Type} {a b : List α} (h : a.take a.length = b.take a.length) (hl : a.length = b.length) : a = b := by
  rwa [List.take_length, hl, List.take_length] at h

set_option maxRecDepth 100000 in
set_option maxHeartbeats 8000000 in
theorem EqI_any (va vb : Value) (a b : List Ins) (w : World) (ha : BlkAt w.heap.size w va a) (hb : BlkAt w.heap.size w vb b) :
    Calls Try.prog 59 #[va, vb, .func (.func 56) #[] #[]] w fun e w' => e = .returned (.bool (decide (a = b))) ∧ Gr w w' := by
  obtain ⟨A, ca, rfl, ha1, ha2, ha3⟩ := ha
  obtain ⟨A', cb, rfl, hb1, hb2, hb3⟩ := hb
  have HA3 : Hid (0 < a.length → ∃ b_1 off, A = some ⟨b_1, off, none⟩ ∧ b_1 < w.heap.size ∧ ∀ j x, a[j]? = some x → InsAt w.heap.size w b_1 (off + j * 6) x) := ha3
  have HB3 : Hid (0 < b.length → ∃ b_1 off, A' = some ⟨b_1, off, none⟩ ∧ b_1 < w.heap.size ∧ ∀ j x, b[j]? = some x → InsAt w.heap.size w b_1 (off + j * 6) x) := hb3
  clear ha3 hb3
  by_cases hlen : a.length = b.length
  · have hl1 : ((a.length : Int) != (b.length : Int)) = false := by rw [hlen]; simp
    have HL : Hid (a.length = b.length) := hlen
    clear hlen
    go_enter Try.func59, Try.ntmps59
    go_wp2
    go_loopw [7, 8, 9, 17] (fun _ _ _ i wr => ∃ k : Nat, k ≤ a.length ∧ i = .int .i64 k ∧ Hid (a.take k = b.take k) ∧ Gr w wr) (fun _ _ _ i _ => a.length - (intOf i).toNat)
    case atStart => exact ⟨0, Nat.zero_le _, rfl, rfl, Gr.refl _⟩
    case round =>
      obtain ⟨k, hk, rfl, hrest, hg⟩ := hrel
      by_cases hlt : k < a.length
      · have hltb : k < b.length := by have := HL.out; omega
        obtain ⟨ba, oa, rfl, hba, hca⟩ := HA3.out (by omega)
        obtain ⟨bb, ob, rfl, hbb, hcb⟩ := HB3.out (by omega)
        obtain ⟨x, hx⟩ : ∃ x, a[k]? = some x := ⟨_, List.getElem?_eq_getElem hlt⟩
        obtain ⟨y, hy⟩ : ∃ y, b[k]? = some y := ⟨_, List.getElem?_eq_getElem hltb⟩
        obtain ⟨va, vt, x0, x1, x2, x3, x4, x5, hxa, hxt⟩ := hca k x hx
        obtain ⟨ua, ut, y0, y1, y2, y3, y4, y5, hya, hyt⟩ := hcb k y hy
        have IX : InsV w.heap.size w (insVal x va vt) x := ⟨va, vt, rfl, hxa, hxt⟩
        have IY : InsV w.heap.size w (insVal y ua ut) y := ⟨ua, ut, rfl, hya, hyt⟩
        have HC : Hid (∀ w1, Gr w w1 → Calls Try.prog 56 #[insVal x va vt, insVal y ua ut] w1 fun e w' => e = .returned (.bool (decide (x = y))) ∧ Gr w1 w') :=
          fun w1 q => iSame1_any x y _ _ w1 ⟨va, vt, rfl, hxa.gr q, hxt.gr q⟩ ⟨ua, ut, rfl, hya.gr q, hyt.gr q⟩
        obtain ⟨Aa, caa, rfl, -, -, -⟩ := hxa
        obtain ⟨At, cat, rfl, -, -, -⟩ := hxt
        obtain ⟨Da, daa, rfl, -, -, -⟩ := hya
        obtain ⟨Dt, dat, rfl, -, -, -⟩ := hyt
        unfold insVal at HC
        replace x0 := (hg.cell _ _ hba).trans x0
        replace x1 := (hg.cell _ _ hba).trans x1
        replace x2 := (hg.cell _ _ hba).trans x2
        replace x3 := (hg.cell _ _ hba).trans x3
        replace x4 := (hg.cell _ _ hba).trans x4
        replace x5 := (hg.cell _ _ hba).trans x5
        replace y0 : ∀ o, (wr.alloc o).cell? ⟨bb, ob + k * 6, none⟩ = some (.int .i64 y.op) := fun o => ((hg.alloc o).cell _ _ hbb).trans y0
        replace y1 : ∀ o, (wr.alloc o).cell? ⟨bb, ob + k * 6 + 1, none⟩ = some (.int .i64 y.width) := fun o => ((hg.alloc o).cell _ _ hbb).trans y1
        replace y2 : ∀ o, (wr.alloc o).cell? ⟨bb, ob + k * 6 + 2, none⟩ = some (.int .i64 y.flags) := fun o => ((hg.alloc o).cell _ _ hbb).trans y2
        replace y3 : ∀ o, (wr.alloc o).cell? ⟨bb, ob + k * 6 + 3, none⟩ = some (.slice Da y.args.length daa) := fun o => ((hg.alloc o).cell _ _ hbb).trans y3
        replace y4 : ∀ o, (wr.alloc o).cell? ⟨bb, ob + k * 6 + 4, none⟩ = some (.int .u32 y.imm) := fun o => ((hg.alloc o).cell _ _ hbb).trans y4
        replace y5 : ∀ o, (wr.alloc o).cell? ⟨bb, ob + k * 6 + 5, none⟩ = some (.slice Dt y.to.length dat) := fun o => ((hg.alloc o).cell _ _ hbb).trans y5
        have HX := Lib.hid hx
        have HY := Lib.hid hy
        obtain ⟨ev, hev⟩ : ∃ ev, decide (x = y) = ev := ⟨_, rfl⟩
        rw [hev] at HC
        have HE := Lib.hid hev
        have z2 : (k : Int) < (a.length : Int) := by omega
        have z3 : (k : Int) < (b.length : Int) := by omega
        clear hx hy hca hcb IX IY hev hlt hltb
        cases ev with
        | true =>
          go_wp2_with (go_at_call 56; refine (HC.out _ ((hg.alloc _).alloc _)).mono ?_; rintro e w1 ⟨rfl, g1⟩)
          go_roundw
          case rel => exact ⟨k + 1, by omega, by go_num, take_step hrest.out HX.out HY.out (of_decide_eq_true HE.out), ((hg.alloc _).alloc _).trans g1⟩
          case measure => simp [intOf]; omega
        | false =>
          go_wp2_with (go_at_call 56; refine (HC.out _ ((hg.alloc _).alloc _)).mono ?_; rintro e w1 ⟨rfl, g1⟩)
          go_ret
          exact ⟨ret_bool (decide_eq_false (ne_step HX.out HY.out (of_decide_eq_false HE.out))).symm, ((hg.alloc _).alloc _).trans g1⟩
      · obtain rfl : k = a.length := by omega
        go_wp2
        go_ret
        exact ⟨ret_bool (decide_eq_true (take_end hrest.out HL.out)).symm, hg⟩
  · have hl1 : ((a.length : Int) != (b.length : Int)) = true := by simp; omega
    have HL : Hid (a ≠ b) := fun h => hlen (by rw [h])
    clear hlen
    go_enter Try.func59, Try.ntmps59
    go_wp2
    go_ret
    exact ⟨ret_bool (decide_eq_false HL.out).symm, Gr.refl _⟩

set_option maxHeartbeats 2000000 in
theorem iSame2_any (va vb : Value) (a b : List Ins) (B : Nat) (w : World) (ha : BlkAt w.heap.size w va a) (hb : BlkAt w.heap.size w vb b) (hB : w.cell? ⟨B, 0, none⟩ = some (.func (.func 56) #[] #[])) :
    Calls Try.prog 58 #[va, vb, .pointer (some ⟨B, 0, none⟩)] w fun e w' => e = .returned (.bool (decide (a = b))) ∧ Gr w w' := by
  have HC := Lib.hid (EqI_any va vb a b w ha hb)
  obtain ⟨A, ca, rfl, -, -, -⟩ := ha
  obtain ⟨A', cb, rfl, -, -, -⟩ := hb
  go_enter Try.func58, Try.ntmps58
  go_wp2_with (go_at_call 59; refine HC.out.mono ?_; rintro e w1 ⟨rfl, g1⟩)
  go_ret
  exact ⟨rfl, g1⟩

set_option maxRecDepth 100000 in
set_option maxHeartbeats 8000000 in
theorem EqB_any (va vb : Value) (a b : List (List Ins)) (B : Nat) (w : World) (ha : BlksAt w.heap.size w va a) (hb : BlksAt w.heap.size w vb b) (hB : B < w.heap.size) (hBc : w.cell? ⟨B, 0, none⟩ = some (.func (.func 56) #[] #[])) :
    Calls Try.prog 57 #[va, vb, .func (.func 58) #[] #[.pointer (some ⟨B, 0, none⟩)]] w fun e w' => e = .returned (.bool (decide (a = b))) ∧ Gr w w' := by
  obtain ⟨A, ca, rfl, ha1, ha2, ha3⟩ := ha
  obtain ⟨A', cb, rfl, hb1, hb2, hb3⟩ := hb
  by_cases hlen : a.length = b.length
  · have hl1 : ((a.length : Int) != (b.length : Int)) = false := by rw [hlen]; simp
    have HL : Hid (a.length = b.length) := hlen
    clear hlen
    go_enter Try.func57, Try.ntmps57
    go_wp2
    go_loopw [7, 8, 9, 17] (fun _ _ _ i wr => ∃ k : Nat, k ≤ a.length ∧ i = .int .i64 k ∧ Hid (a.take k = b.take k) ∧ Gr w wr) (fun _ _ _ i _ => a.length - (intOf i).toNat)
    case atStart => exact ⟨0, Nat.zero_le _, rfl, rfl, Gr.refl _⟩
    case round =>
      obtain ⟨k, hk, rfl, hrest, hg⟩ := hrel
      by_cases hlt : k < a.length
      · have hltb : k < b.length := by have := HL.out; omega
        obtain ⟨ba, oa, rfl, hba, hca⟩ := ha3 (by omega)
        obtain ⟨bb, ob, rfl, hbb, hcb⟩ := hb3 (by omega)
        obtain ⟨x, hx⟩ : ∃ x, a[k]? = some x := ⟨_, List.getElem?_eq_getElem hlt⟩
        obtain ⟨y, hy⟩ : ∃ y, b[k]? = some y := ⟨_, List.getElem?_eq_getElem hltb⟩
        obtain ⟨u1, c1, i1⟩ := hca k x hx
        obtain ⟨u2, c2, i2⟩ := hcb k y hy
        replace c1 := (hg.cell _ _ hba).trans c1
        replace c2 := (hg.cell _ _ hbb).trans c2
        have HC : Hid (∀ w1, Gr w w1 → Calls Try.prog 58 #[u1, u2, .pointer (some ⟨B, 0, none⟩)] w1 fun e w' => e = .returned (.bool (decide (x = y))) ∧ Gr w1 w') :=
          fun w1 q => iSame2_any u1 u2 x y B w1 (i1.gr q) (i2.gr q) ((q.cell _ _ hB).trans hBc)
        have HX := Lib.hid hx
        have HY := Lib.hid hy
        obtain ⟨ev, hev⟩ : ∃ ev, decide (x = y) = ev := ⟨_, rfl⟩
        rw [hev] at HC
        have HE := Lib.hid hev
        have z2 : (k : Int) < (a.length : Int) := by omega
        have z3 : (k : Int) < (b.length : Int) := by omega
        clear hx hy hca hcb hev hlt hltb ha3 hb3 i1 i2
        cases ev with
        | true =>
          go_wp2_with (go_at_call 58; refine (HC.out _ hg).mono ?_; rintro e w1 ⟨rfl, g1⟩)
          go_roundw
          case rel => exact ⟨k + 1, by omega, by go_num, take_step hrest.out HX.out HY.out (of_decide_eq_true HE.out), hg.trans g1⟩
          case measure => simp [intOf]; omega
        | false =>
          go_wp2_with (go_at_call 58; refine (HC.out _ hg).mono ?_; rintro e w1 ⟨rfl, g1⟩)
          go_ret
          exact ⟨ret_bool (decide_eq_false (ne_step HX.out HY.out (of_decide_eq_false HE.out))).symm, hg.trans g1⟩
      · obtain rfl : k = a.length := by omega
        clear ha3 hb3
        go_wp2
        go_ret
        exact ⟨ret_bool (decide_eq_true (take_end hrest.out HL.out)).symm, hg⟩
  · have hl1 : ((a.length : Int) != (b.length : Int)) = true := by simp; omega
    have HL : Hid (a ≠ b) := fun h => hlen (by rw [h])
    clear hlen ha3 hb3
    go_enter Try.func57, Try.ntmps57
    go_wp2
    go_ret
    exact ⟨ret_bool (decide_eq_false HL.out).symm, Gr.refl _⟩
end Go.Proofs.Ytiadpjhlomhjeaa

namespace Go.Proofs.Ytiadpjhlomhjeaa
open Go.RowKit

/-- ONE WALK IN THE ORDER OF THE TEXT, for operations that yield the same in every world that has grown from this one. -/
theorem wp_region_quietGr {P : Program} {id : Nat} {Q : Exit → Act → World → Prop} {a : Act} {w : World} {l : List Oper} (hm : P.follows .mixedOrders = true) (hB : Region.lexB .any l.toArray = true)
    (h : wpQuiet P l.toArray (fun w' => ∃ u : GrW w, w' = u.val) (fun a' => ∀ w', (∃ u : GrW w, w' = u.val) → Q .normal a' w') l a) : (Code.region id l.toArray true).wp P Q a w :=
  wp_region_quiet (C := fun w' => ∃ u : GrW w, w' = u.val) hm hB ⟨⟨w.drew, (Gr.refl w).drew⟩, rfl⟩ (by simpa using h)
instance (w : World) : Nonempty (GrW w) := ⟨⟨w, Gr.refl w⟩⟩
theorem grW_call {P : Program} {f : FuncId} {args : Array Value} {w : World} {v : Value} (u : GrW w)
    (h : Calls P f args u.val fun e w' => e = .returned v ∧ Gr u.val w') : Calls P f args u.val fun e w'' => e = .returned v ∧ ∃ u' : GrW w, w'' = u'.val :=
  h.mono fun _ w' ⟨he, hm⟩ => ⟨he, ⟨w', u.gr.trans hm⟩, rfl⟩

theorem fn_eq (f g : Fn) : decide (f = g) = (decide (f.params = g.params) && (f.ret == g.ret) && decide (f.slots = g.slots) && decide (f.blocks = g.blocks)) := by
  obtain ⟨a, b, c, d⟩ := f
  obtain ⟨a', b', c', d'⟩ := g
  rw [Bool.eq_iff_iff]
  simp only [decide_eq_true_eq, Bool.and_eq_true, beq_iff_eq, Fn.mk.injEq]
  constructor
  · rintro ⟨h1, h2, h3, h4⟩; exact ⟨⟨⟨h1, h2⟩, h3⟩, h4⟩
  · rintro ⟨⟨⟨h1, h2⟩, h3⟩, h4⟩; exact ⟨h1, h2, h3, h4⟩

/-- The four cells of a function's box. -/
abbrev FBox (B : Nat) (w : World) (f : Fn) (Ap As Ab : Option Addr) (cp cs cb : Nat) : Prop :=
  w.cell? ⟨B, 0, none⟩ = some (.slice Ap f.params.length cp) ∧ w.cell? ⟨B, 1, none⟩ = some (.int .i64 f.ret) ∧ w.cell? ⟨B, 2, none⟩ = some (.slice As f.slots.length cs) ∧ w.cell? ⟨B, 3, none⟩ = some (.slice Ab f.blocks.length cb)
theorem FBox.gr {B : Nat} {w w' : World} {f : Fn} {Ap As Ab : Option Addr} {cp cs cb : Nat} (h : FBox B w f Ap As Ab cp cs cb) (hB : B < w.heap.size) (q : Gr w w') : FBox B w' f Ap As Ab cp cs cb :=
  ⟨(q.cell _ _ hB).trans h.1, (q.cell _ _ hB).trans h.2.1, (q.cell _ _ hB).trans h.2.2.1, (q.cell _ _ hB).trans h.2.2.2⟩
theorem FBox.new {B : Nat} {V W : World} {f : Fn} {Ap As Ab : Option Addr} {cp cs cb : Nat} (g : Gr (V.alloc (.cells #[.slice Ap f.params.length cp, .int .i64 f.ret, .slice As f.slots.length cs, .slice Ab f.blocks.length cb] 25)) W) (hB : V.heap.size = B) : FBox B W f Ap As Ab cp cs cb :=
  ⟨cell_box _ _ 0 g hB, cell_box _ _ 1 g hB, cell_box _ _ 2 g hB, cell_box _ _ 3 g hB⟩

set_option maxRecDepth 100000 in
set_option maxHeartbeats 8000000 in
theorem iSame_any (vf vg : Value) (f g : Fn) (w : World) (hf : FnAt w.heap.size w vf f) (hg : FnAt w.heap.size w vg g) :
    Calls Try.prog 28 #[vf, vg] w fun e w' => e = .returned (.bool (decide (f = g))) ∧ Gr w w' := by
  obtain ⟨vp, vs, vb, rfl, hp, hsl, hb⟩ := hf
  obtain ⟨up, us, ub, rfl, gp, gsl, gb⟩ := hg
  have HQ1 : Hid (∀ w1, Gr w w1 → Calls Try.prog 55 #[vp, up] w1 fun e w' => e = .returned (.bool (decide (f.params = g.params))) ∧ Gr w1 w') := fun w1 q => Equal_any vp up _ _ w1 (hp.gr q) (gp.gr q)
  have HQ2 : Hid (∀ w1, Gr w w1 → Calls Try.prog 55 #[vs, us] w1 fun e w' => e = .returned (.bool (decide (f.slots = g.slots))) ∧ Gr w1 w') := fun w1 q => Equal_any vs us _ _ w1 (hsl.gr q) (gsl.gr q)
  have HQ3 : Hid (∀ w1 B, Gr w w1 → B < w1.heap.size → w1.cell? ⟨B, 0, none⟩ = some (.func (.func 56) #[] #[]) → Calls Try.prog 57 #[vb, ub, .func (.func 58) #[] #[.pointer (some ⟨B, 0, none⟩)]] w1 fun e w' => e = .returned (.bool (decide (f.blocks = g.blocks))) ∧ Gr w1 w') :=
    fun w1 B q h1 h2 => EqB_any vb ub _ _ B w1 (hb.gr q) (gb.gr q) h1 h2
  have HE := Lib.hid (fn_eq f g)
  obtain ⟨Ap, cp, rfl, -, -, -⟩ := hp
  obtain ⟨As, cs, rfl, -, -, -⟩ := hsl
  obtain ⟨Ab, cb, rfl, -, -, -⟩ := hb
  obtain ⟨Dp, dp, rfl, -, -, -⟩ := gp
  obtain ⟨Ds, ds, rfl, -, -, -⟩ := gsl
  obtain ⟨Db, db, rfl, -, -, -⟩ := gb
  obtain ⟨W, hW⟩ : ∃ W, (w.alloc (.cells #[.slice Ap f.params.length cp, .int .i64 f.ret, .slice As f.slots.length cs, .slice Ab f.blocks.length cb] 25)).alloc (.cells #[.slice Dp g.params.length dp, .int .i64 g.ret, .slice Ds g.slots.length ds, .slice Db g.blocks.length db] 25) = W := ⟨_, rfl⟩
  have hB0 : Gr w W := by rw [← hW]; exact ((Gr.refl w).alloc _).alloc _
  have hWs : W.heap.size = w.heap.size + 2 := by rw [← hW]; simp
  have B0 : Hid (∀ w', Gr W w' → FBox w.heap.size w' f Ap As Ab cp cs cb ∧ FBox (w.heap.size + 1) w' g Dp Ds Db dp ds db) := by
    intro w' q
    refine ⟨(FBox.new (V := w) (by rw [← hW]; exact (Gr.refl _).alloc _) rfl).gr (by omega) q, (FBox.new (V := w.alloc _) (by rw [hW]; exact Gr.refl _) (by simp)).gr (by omega) q⟩
  obtain ⟨⟨c0, c1, c2, c3⟩, ⟨d0, d1, d2, d3⟩⟩ := B0.out W (Gr.refl _)
  obtain ⟨b1, h1⟩ : ∃ b, decide (f.params = g.params) = b := ⟨_, rfl⟩
  obtain ⟨b2, h2⟩ : ∃ b, (f.ret == g.ret) = b := ⟨_, rfl⟩
  obtain ⟨b2', h2'⟩ : ∃ b, (f.ret != g.ret) = b := ⟨_, rfl⟩
  have e2 : b2' = !b2 := by rw [← h2, ← h2']; rfl
  obtain ⟨b3, h3⟩ : ∃ b, decide (f.slots = g.slots) = b := ⟨_, rfl⟩
  obtain ⟨b4, h4⟩ : ∃ b, decide (f.blocks = g.blocks) = b := ⟨_, rfl⟩
  rw [h1, h2, h3, h4] at HE
  rw [h1] at HQ1
  rw [h3] at HQ2
  rw [h4] at HQ3
  clear h1 h3 h4
  cases b1 with
  | false =>
    go_enter Try.func28, Try.ntmps28
    go_wp2_with (go_at_call 55; (with_reducible refine (HQ1.out _ hB0).mono ?_; rintro e w1 ⟨rfl, g1⟩; obtain ⟨⟨k0, k1, k2, k3⟩, ⟨m0, m1, m2, m3⟩⟩ := B0.out _ g1))
    go_ret
    exact ⟨ret_bool (by rw [HE.out]; simp), hB0.trans g1⟩
  | true =>
    cases b2 with
    | false =>
      subst e2
      go_enter Try.func28, Try.ntmps28
      go_wp2_with (go_at_call 55; with_reducible refine (HQ1.out _ hB0).mono ?_; rintro e w1 ⟨rfl, g1⟩; obtain ⟨⟨k0, k1, k2, k3⟩, ⟨m0, m1, m2, m3⟩⟩ := B0.out _ g1)
      go_ret
      exact ⟨ret_bool (by rw [HE.out]; simp), hB0.trans g1⟩
    | true =>
      subst e2
      cases b3 with
      | false =>
        go_enter Try.func28, Try.ntmps28
        go_wp2_with (first
          | (go_at_call 55; with_reducible refine (HQ1.out _ hB0).mono ?_; rintro e w1 ⟨rfl, g1⟩; obtain ⟨⟨k0, k1, k2, k3⟩, ⟨m0, m1, m2, m3⟩⟩ := B0.out _ g1)
          | (go_at_call 55; with_reducible refine (HQ2.out _ (hB0.trans g1)).mono ?_; rintro e w2 ⟨rfl, g2⟩; have q2 := g1.trans g2; obtain ⟨⟨i0, i1, i2, i3⟩, ⟨j0, j1, j2, j3⟩⟩ := B0.out _ q2))
        go_ret
        exact ⟨ret_bool (by rw [HE.out]; simp), hB0.trans q2⟩
      | true =>
        go_enter Try.func28, Try.ntmps28
        go_wp2_with (first
          | (go_at_call 55; with_reducible refine (HQ1.out _ hB0).mono ?_; rintro e w1 ⟨rfl, g1⟩; obtain ⟨⟨k0, k1, k2, k3⟩, ⟨m0, m1, m2, m3⟩⟩ := B0.out _ g1)
          | (go_at_call 55; with_reducible refine (HQ2.out _ (hB0.trans g1)).mono ?_; rintro e w2 ⟨rfl, g2⟩; have hst := store_new w2 (.func (.func 56) #[] #[]) .nilFunc 71 w2.heap.size rfl rfl; have q2 := g1.trans g2; obtain ⟨⟨i0, i1, i2, i3⟩, ⟨j0, j1, j2, j3⟩⟩ := B0.out _ (q2.alloc (.cells #[.func (.func 56) #[] #[]] 71)))
          | (go_at_call 57; with_reducible refine (HQ3.out _ _ (hB0.trans (q2.alloc _)) (by simp) (cell_of_row _ _ 0 _ _ _ (heap_alloc_new _ _))).mono ?_; rintro e w3 ⟨rfl, g3⟩; have q3 := (q2.alloc _).trans g3))
        go_ret
        exact ⟨ret_bool (by rw [HE.out]; simp), hB0.trans q3⟩
end Go.Proofs.Ytiadpjhlomhjeaa

namespace Go.Proofs.Ytiadpjhlomhjeaa
open Go.RowKit

set_option maxRecDepth 100000 in
set_option maxHeartbeats 16000000 in
theorem rSame_any (vf vg : Value) (f g : Fn) (w : World) (hf : FnAt w.heap.size w vf f) (hg : FnAt w.heap.size w vg g) :
    Calls Try.prog 29 #[vf, vg] w fun e w' => e = .returned (.bool (decide (f = g))) ∧ Gr w w' := by
  obtain ⟨vp, vs, vb, rfl, hp, hsl, hb⟩ := hf
  obtain ⟨up, us, ub, rfl, gp, gsl, gb⟩ := hg
  have HQ1 : Hid (∀ w1, Gr w w1 → Calls Try.prog 25 #[vp, up] w1 fun e w' => e = .returned (.bool (decide (f.params = g.params))) ∧ Gr w1 w') := fun w1 q => SameInts_any vp up _ _ w1 (hp.gr q) (gp.gr q)
  have HQ2 : Hid (∀ w1, Gr w w1 → Calls Try.prog 25 #[vs, us] w1 fun e w' => e = .returned (.bool (decide (f.slots = g.slots))) ∧ Gr w1 w') := fun w1 q => SameInts_any vs us _ _ w1 (hsl.gr q) (gsl.gr q)
  have HE := Lib.hid (fn_eq f g)
  obtain ⟨Ap, cp, rfl, -, -, -⟩ := hp
  obtain ⟨As, cs, rfl, -, -, -⟩ := hsl
  obtain ⟨Ab, cb, rfl, -, hb2, hb3⟩ := hb
  obtain ⟨Dp, dp, rfl, -, -, -⟩ := gp
  obtain ⟨Ds, ds, rfl, -, -, -⟩ := gsl
  obtain ⟨Db, db, rfl, -, gb2, gb3⟩ := gb
  have H3 : Hid (0 < f.blocks.length → ∃ b off, Ab = some ⟨b, off, none⟩ ∧ b < w.heap.size ∧ ∀ j l, f.blocks[j]? = some l → ∃ u, w.cell? ⟨b, off + j, none⟩ = some u ∧ BlkAt w.heap.size w u l) := hb3
  have J3 : Hid (0 < g.blocks.length → ∃ b off, Db = some ⟨b, off, none⟩ ∧ b < w.heap.size ∧ ∀ j l, g.blocks[j]? = some l → ∃ u, w.cell? ⟨b, off + j, none⟩ = some u ∧ BlkAt w.heap.size w u l) := gb3
  clear hb3 gb3
  obtain ⟨W, hW⟩ : ∃ W, (w.alloc (.cells #[.slice Ap f.params.length cp, .int .i64 f.ret, .slice As f.slots.length cs, .slice Ab f.blocks.length cb] 25)).alloc (.cells #[.slice Dp g.params.length dp, .int .i64 g.ret, .slice Ds g.slots.length ds, .slice Db g.blocks.length db] 25) = W := ⟨_, rfl⟩
  have hB0 : Gr w W := by rw [← hW]; exact ((Gr.refl w).alloc _).alloc _
  have hWs : W.heap.size = w.heap.size + 2 := by rw [← hW]; simp
  have B0 : Hid (∀ w', Gr W w' → FBox w.heap.size w' f Ap As Ab cp cs cb ∧ FBox (w.heap.size + 1) w' g Dp Ds Db dp ds db) := by
    intro w' q
    refine ⟨(FBox.new (V := w) (by rw [← hW]; exact (Gr.refl _).alloc _) rfl).gr (by omega) q, (FBox.new (V := w.alloc _) (by rw [hW]; exact Gr.refl _) (by simp)).gr (by omega) q⟩
  obtain ⟨⟨c0, c1, c2, c3⟩, ⟨d0, d1, d2, d3⟩⟩ := B0.out W (Gr.refl _)
  obtain ⟨b1, h1⟩ : ∃ b, decide (f.params = g.params) = b := ⟨_, rfl⟩
  obtain ⟨b2, h2⟩ : ∃ b, (f.ret == g.ret) = b := ⟨_, rfl⟩
  obtain ⟨b2', h2'⟩ : ∃ b, (f.ret != g.ret) = b := ⟨_, rfl⟩
  have e2 : b2' = !b2 := by rw [← h2, ← h2']; rfl
  obtain ⟨b3, h3⟩ : ∃ b, decide (f.slots = g.slots) = b := ⟨_, rfl⟩
  rw [h1, h2, h3] at HE
  rw [h1] at HQ1
  rw [h3] at HQ2
  clear h1 h3
  cases b1 with
  | false =>
    go_enter Try.func29, Try.ntmps29
    go_wp2_with (go_at_call 25; with_reducible refine (HQ1.out _ hB0).mono ?_; rintro e w1 ⟨rfl, g1⟩; obtain ⟨⟨k0, k1, k2, k3⟩, ⟨m0, m1, m2, m3⟩⟩ := B0.out _ g1)
    go_ret
    exact ⟨ret_bool (by rw [HE.out]; simp), hB0.trans g1⟩
  | true =>
    cases b2 with
    | false =>
      subst e2
      go_enter Try.func29, Try.ntmps29
      go_wp2_with (go_at_call 25; with_reducible refine (HQ1.out _ hB0).mono ?_; rintro e w1 ⟨rfl, g1⟩; obtain ⟨⟨k0, k1, k2, k3⟩, ⟨m0, m1, m2, m3⟩⟩ := B0.out _ g1)
      go_ret
      exact ⟨ret_bool (by rw [HE.out]; simp), hB0.trans g1⟩
    | true =>
      subst e2
      cases b3 with
      | false =>
        go_enter Try.func29, Try.ntmps29
        go_wp2_with (first
          | (go_at_call 25; with_reducible refine (HQ1.out _ hB0).mono ?_; rintro e w1 ⟨rfl, g1⟩; obtain ⟨⟨k0, k1, k2, k3⟩, ⟨m0, m1, m2, m3⟩⟩ := B0.out _ g1)
          | (go_at_call 25; with_reducible refine (HQ2.out _ (hB0.trans g1)).mono ?_; rintro e w2 ⟨rfl, g2⟩; have q2 := g1.trans g2; obtain ⟨⟨i0, i1, i2, i3⟩, ⟨j0, j1, j2, j3⟩⟩ := B0.out _ q2))
        go_ret
        exact ⟨ret_bool (by rw [HE.out]; simp), hB0.trans q2⟩
      | true =>
        have HE2 : Hid (decide (f = g) = decide (f.blocks = g.blocks)) := by show _ = _; rw [HE.out]; simp
        clear HE
        by_cases hlen : f.blocks.length = g.blocks.length
        · have hl1 : ((f.blocks.length : Int) != (g.blocks.length : Int)) = false := by rw [hlen]; simp
          have HL : Hid (f.blocks.length = g.blocks.length) := hlen
          clear hlen
          go_enter Try.func29, Try.ntmps29
          go_wp2_with (first
            | (go_at_call 25; with_reducible refine (HQ1.out _ hB0).mono ?_; rintro e w1 ⟨rfl, g1⟩; obtain ⟨⟨k0, k1, k2, k3⟩, ⟨m0, m1, m2, m3⟩⟩ := B0.out _ g1)
            | (go_at_call 25; with_reducible refine (HQ2.out _ (hB0.trans g1)).mono ?_; rintro e w2 ⟨rfl, g2⟩; have q2 := g1.trans g2; obtain ⟨⟨i0, i1, i2, i3⟩, ⟨j0, j1, j2, j3⟩⟩ := B0.out _ q2))
          clear c0 c1 c2 c3 d0 d1 d2 d3 k0 k1 k2 k3 m0 m1 m2 m3 i0 i1 i2 i3 j0 j1 j2 j3
          go_loopw [5, 6] (fun i _ wr => ∃ k : Nat, k ≤ f.blocks.length ∧ i = .int .i64 k ∧ Hid (f.blocks.take k = g.blocks.take k) ∧ Gr W wr) (fun i _ _ => f.blocks.length - (intOf i).toNat)
          case atStart => exact ⟨0, Nat.zero_le _, rfl, rfl, q2⟩
          case round =>
            obtain ⟨k, hk, rfl, hrest, hgr⟩ := hrel
            obtain ⟨⟨-, -, -, c3⟩, ⟨-, -, -, d3⟩⟩ := B0.out _ hgr
            by_cases hlt : k < f.blocks.length
            · have hltb : k < g.blocks.length := by have := HL.out; omega
              obtain ⟨ba, oa, rfl, hba, hca⟩ := H3.out (by omega)
              obtain ⟨bb, ob, rfl, hbb, hcb⟩ := J3.out (by omega)
              obtain ⟨l, hl⟩ : ∃ x, f.blocks[k]? = some x := ⟨_, List.getElem?_eq_getElem hlt⟩
              obtain ⟨m, hm⟩ : ∃ x, g.blocks[k]? = some x := ⟨_, List.getElem?_eq_getElem hltb⟩
              obtain ⟨u1, x1, i1⟩ := hca k l hl
              obtain ⟨u2, x2, i2⟩ := hcb k m hm
              obtain ⟨Al, al, rfl, -, hl40, I3⟩ := i1
              obtain ⟨Bl, bl, rfl, -, hm40, K3⟩ := i2
              have I4 : Hid (0 < l.length → ∃ b off, Al = some ⟨b, off, none⟩ ∧ b < w.heap.size ∧ ∀ j x, l[j]? = some x → InsAt w.heap.size w b (off + j * 6) x) := I3
              have K4 : Hid (0 < m.length → ∃ b off, Bl = some ⟨b, off, none⟩ ∧ b < w.heap.size ∧ ∀ j x, m[j]? = some x → InsAt w.heap.size w b (off + j * 6) x) := K3
              have U12 : Hid (∀ w', Gr W w' → w'.cell? ⟨ba, oa + k, none⟩ = some (.slice Al l.length al) ∧ w'.cell? ⟨bb, ob + k, none⟩ = some (.slice Bl m.length bl)) := fun w' q => ⟨((hB0.trans q).cell _ _ hba).trans x1, ((hB0.trans q).cell _ _ hbb).trans x2⟩
              have HX := Lib.hid hl
              have HY := Lib.hid hm
              have z1 : (0 : Int) ≤ (k : Int) := by omega
              have z2 : (k : Int) < (f.blocks.length : Int) := by omega
              have z3 : (k : Int) < (g.blocks.length : Int) := by omega
              obtain ⟨y1, y2⟩ := U12.out _ hgr
              clear hl hm hca hcb hlt hltb x1 x2 I3 K3
              by_cases hlm : l.length = m.length
              · have hl2 : ((l.length : Int) != (m.length : Int)) = false := by rw [hlm]; simp
                have HLM : Hid (l.length = m.length) := hlm
                clear hlm
                go_wp2
                go_quiet (fail)
                go_wp2
                go_loopw [6] (fun i wr => ∃ j : Nat, j ≤ l.length ∧ i = .int .i64 j ∧ Hid (l.take j = m.take j) ∧ Gr W wr) (fun i _ => l.length - (intOf i).toNat)
                case atStart => exact ⟨0, Nat.zero_le _, rfl, rfl, hgr.drewN _⟩
                case round =>
                  obtain ⟨j, hj, rfl, hrest2, hgr2⟩ := hrel
                  obtain ⟨⟨-, -, -, c3⟩, ⟨-, -, -, d3⟩⟩ := B0.out _ hgr2
                  obtain ⟨y1, y2⟩ := U12.out _ hgr2
                  by_cases hlt2 : j < l.length
                  · have hltb2 : j < m.length := by have := HLM.out; omega
                    obtain ⟨pa, qa, rfl, hpa, hpca⟩ := I4.out (by omega)
                    obtain ⟨pb, qb, rfl, hpb, hpcb⟩ := K4.out (by omega)
                    obtain ⟨x, hx⟩ : ∃ x, l[j]? = some x := ⟨_, List.getElem?_eq_getElem hlt2⟩
                    obtain ⟨y, hy⟩ : ∃ x, m[j]? = some x := ⟨_, List.getElem?_eq_getElem hltb2⟩
                    obtain ⟨va, vt, a0, a1, a2, a3, a4, a5, hxa, hxt⟩ := hpca j x hx
                    obtain ⟨ua, ut, e0, e1, e2, e3, e4, e5, hya, hyt⟩ := hpcb j y hy
                    have HC : Hid (∀ w1, Gr w w1 → Calls Try.prog 60 #[insVal x va vt, insVal y ua ut] w1 fun e w' => e = .returned (.bool (decide (x = y))) ∧ Gr w1 w') :=
                      fun w1 q => SameInst_any x y _ _ w1 ⟨va, vt, rfl, hxa.gr q, hxt.gr q⟩ ⟨ua, ut, rfl, hya.gr q, hyt.gr q⟩
                    obtain ⟨Aa, caa, rfl, -, -, -⟩ := hxa
                    obtain ⟨At, cat, rfl, -, -, -⟩ := hxt
                    obtain ⟨Da, daa, rfl, -, -, -⟩ := hya
                    obtain ⟨Dt, dat, rfl, -, -, -⟩ := hyt
                    unfold insVal at HC
                    obtain ⟨ev, hev⟩ : ∃ ev, decide (x = y) = ev := ⟨_, rfl⟩
                    rw [hev] at HC
                    have HEV := Lib.hid hev
                    have HX2 := Lib.hid hx
                    have HY2 := Lib.hid hy
                    have z4 : (0 : Int) ≤ (j : Int) := by omega
                    have z5 : (j : Int) < (l.length : Int) := by omega
                    have z6 : (j : Int) < (m.length : Int) := by omega
                    have hgw2 : Gr w wr := hB0.trans hgr2
                    have U1 : ∀ u : GrW wr, u.val.cell? ⟨w.heap.size, 3, none⟩ = some (.slice (some ⟨ba, oa, none⟩) f.blocks.length cb) := fun u => (B0.out _ (hgr2.trans u.gr)).1.2.2.2
                    have U2 : ∀ u : GrW wr, u.val.cell? ⟨w.heap.size + 1, 3, none⟩ = some (.slice (some ⟨bb, ob, none⟩) g.blocks.length db) := fun u => (B0.out _ (hgr2.trans u.gr)).2.2.2.2
                    have U3 : ∀ u : GrW wr, u.val.cell? ⟨ba, oa + k, none⟩ = some (.slice (some ⟨pa, qa, none⟩) l.length al) := fun u => (U12.out _ (hgr2.trans u.gr)).1
                    have U4 : ∀ u : GrW wr, u.val.cell? ⟨bb, ob + k, none⟩ = some (.slice (some ⟨pb, qb, none⟩) m.length bl) := fun u => (U12.out _ (hgr2.trans u.gr)).2
                    have V0 : ∀ u : GrW wr, u.val.cell? ⟨pa, qa + j * 6, none⟩ = some (.int .i64 x.op) := fun u => ((hgw2.trans u.gr).cell _ _ hpa).trans a0
                    have V1 : ∀ u : GrW wr, u.val.cell? ⟨pa, qa + j * 6 + 1, none⟩ = some (.int .i64 x.width) := fun u => ((hgw2.trans u.gr).cell _ _ hpa).trans a1
                    have V2 : ∀ u : GrW wr, u.val.cell? ⟨pa, qa + j * 6 + 2, none⟩ = some (.int .i64 x.flags) := fun u => ((hgw2.trans u.gr).cell _ _ hpa).trans a2
                    have V3 : ∀ u : GrW wr, u.val.cell? ⟨pa, qa + j * 6 + 3, none⟩ = some (.slice Aa x.args.length caa) := fun u => ((hgw2.trans u.gr).cell _ _ hpa).trans a3
                    have V4 : ∀ u : GrW wr, u.val.cell? ⟨pa, qa + j * 6 + 4, none⟩ = some (.int .u32 x.imm) := fun u => ((hgw2.trans u.gr).cell _ _ hpa).trans a4
                    have V5 : ∀ u : GrW wr, u.val.cell? ⟨pa, qa + j * 6 + 5, none⟩ = some (.slice At x.to.length cat) := fun u => ((hgw2.trans u.gr).cell _ _ hpa).trans a5
                    have X0 : ∀ u : GrW wr, u.val.cell? ⟨pb, qb + j * 6, none⟩ = some (.int .i64 y.op) := fun u => ((hgw2.trans u.gr).cell _ _ hpb).trans e0
                    have X1 : ∀ u : GrW wr, u.val.cell? ⟨pb, qb + j * 6 + 1, none⟩ = some (.int .i64 y.width) := fun u => ((hgw2.trans u.gr).cell _ _ hpb).trans e1
                    have X2 : ∀ u : GrW wr, u.val.cell? ⟨pb, qb + j * 6 + 2, none⟩ = some (.int .i64 y.flags) := fun u => ((hgw2.trans u.gr).cell _ _ hpb).trans e2
                    have X3 : ∀ u : GrW wr, u.val.cell? ⟨pb, qb + j * 6 + 3, none⟩ = some (.slice Da y.args.length daa) := fun u => ((hgw2.trans u.gr).cell _ _ hpb).trans e3
                    have X4 : ∀ u : GrW wr, u.val.cell? ⟨pb, qb + j * 6 + 4, none⟩ = some (.int .u32 y.imm) := fun u => ((hgw2.trans u.gr).cell _ _ hpb).trans e4
                    have X5 : ∀ u : GrW wr, u.val.cell? ⟨pb, qb + j * 6 + 5, none⟩ = some (.slice Dt y.to.length dat) := fun u => ((hgw2.trans u.gr).cell _ _ hpb).trans e5
                    clear hx hy hpca hpcb hev hlt2 hltb2 a0 a1 a2 a3 a4 a5 e0 e1 e2 e3 e4 e5
                    have HGW := Lib.hid hgw2
                    go_wp2
                    refine wp_region_quietGr (by kernel_rfl) (by kernel_rfl) ?_
                    repeat (go_big_quiet_step ((rename_i u; go_at_call 60; exact grW_call u (HC.out _ (HGW.out.trans u.gr)))))
                    refine wpQuiet_nil ?_
                    intro w9 hw9
                    obtain ⟨u9, rfl⟩ := hw9
                    have g6 := u9.gr
                    clear U1 U2 U3 U4 V0 V1 V2 V3 V4 V5 X0 X1 X2 X3 X4 X5
                    cases ev with
                    | true =>
                      go_wp2
                      go_roundw
                      case rel => exact ⟨j + 1, by omega, by go_num, take_step hrest2.out HX2.out HY2.out (of_decide_eq_true HEV.out), hgr2.trans g6⟩
                      case measure => simp [intOf]; omega
                    | false =>
                      go_wp2
                      go_ret
                      exact ⟨ret_bool (by rw [HE2.out]; exact (decide_eq_false (ne_step HX.out HY.out (ne_step HX2.out HY2.out (of_decide_eq_false HEV.out)))).symm), hgw2.trans g6⟩
                  · obtain rfl : j = l.length := by omega
                    go_wp2
                    go_roundw
                    case rel => exact ⟨k + 1, by omega, by go_num, take_step hrest.out HX.out HY.out (take_end hrest2.out HLM.out), hgr2⟩
                    case measure => simp [intOf]; omega
              · have hl2 : ((l.length : Int) != (m.length : Int)) = true := by simp; omega
                have HLM : Hid (l ≠ m) := fun h => hlm (by rw [h])
                clear hlm
                go_wp2
                go_quiet (fail)
                go_wp2
                go_ret
                exact ⟨ret_bool (by rw [HE2.out]; exact (decide_eq_false (ne_step HX.out HY.out HLM.out)).symm), (hB0.trans hgr).drewN _⟩
            · obtain rfl : k = f.blocks.length := by omega
              go_wp2
              go_ret
              exact ⟨ret_bool (by rw [HE2.out]; exact (decide_eq_true (take_end hrest.out HL.out)).symm), hB0.trans hgr⟩
        · have hl1 : ((f.blocks.length : Int) != (g.blocks.length : Int)) = true := by simp; omega
          have HL : Hid (f.blocks ≠ g.blocks) := fun h => hlen (by rw [h])
          clear hlen
          go_enter Try.func29, Try.ntmps29
          go_wp2_with (first
            | (go_at_call 25; with_reducible refine (HQ1.out _ hB0).mono ?_; rintro e w1 ⟨rfl, g1⟩; obtain ⟨⟨k0, k1, k2, k3⟩, ⟨m0, m1, m2, m3⟩⟩ := B0.out _ g1)
            | (go_at_call 25; with_reducible refine (HQ2.out _ (hB0.trans g1)).mono ?_; rintro e w2 ⟨rfl, g2⟩; have q2 := g1.trans g2; obtain ⟨⟨i0, i1, i2, i3⟩, ⟨j0, j1, j2, j3⟩⟩ := B0.out _ q2))
          go_ret
          exact ⟨ret_bool (by rw [HE2.out]; exact (decide_eq_false HL.out).symm), hB0.trans q2⟩
end Go.Proofs.Ytiadpjhlomhjeaa

namespace Go.Proofs.Ytiadpjhlomhjeaa
open Go.RowKit

/-- What both sides return of two functions' being alike. -/
def Ref.alikeB (f g : Fn) : Bool := decide (f.params = g.params) && (f.ret == g.ret) && decide (f.slots = g.slots)
def Ref.alikeE (f g : Fn) : Int := if Ref.validate f = 0 then Ref.validate g else Ref.validate f
def Ref.alikeR (f g : Fn) : Bool := if Ref.alikeE f g = 0 then Ref.alikeB f g else false
theorem alike_cases (f g : Fn) (a b : Int) (ha : Ref.validate f = a) (hb : Ref.validate g = b) :
    (a ≠ 0 → Ref.alikeE f g = a ∧ Ref.alikeR f g = false) ∧ (a = 0 → b ≠ 0 → Ref.alikeE f g = b ∧ Ref.alikeR f g = false) ∧ (a = 0 → b = 0 → Ref.alikeE f g = 0 ∧ Ref.alikeR f g = Ref.alikeB f g) := by
  subst ha; subst hb
  have he : Ref.alikeE f g = if Ref.validate f = 0 then Ref.validate g else Ref.validate f := rfl
  have hr : Ref.alikeR f g = if Ref.alikeE f g = 0 then Ref.alikeB f g else false := rfl
  refine ⟨fun h => ?_, fun h h' => ?_, fun h h' => ?_⟩
  · rw [if_neg h] at he; rw [he, if_neg h] at hr; exact ⟨he, hr⟩
  · rw [if_pos h] at he; rw [he, if_neg h'] at hr; exact ⟨he, hr⟩
  · rw [if_pos h] at he; rw [he, if_pos h'] at hr; exact ⟨he.trans h', hr⟩

set_option maxRecDepth 100000 in
set_option maxHeartbeats 8000000 in
theorem iAlike_any (vf vg : Value) (f g : Fn) (w : World) (hf : FnAt w.heap.size w vf f) (hg : FnAt w.heap.size w vg g) (hnf : Nice f) (hng : Nice g) :
    Calls Try.prog 26 #[vf, vg] w fun e w' => e = .returned (.tuple #[.bool (Ref.alikeR f g), .int .i64 (Ref.alikeE f g)]) ∧ Gr w w' := by
  have HV1 : Hid (∀ w1, Gr w w1 → Calls Try.prog 10 #[vf] w1 fun e w' => e = .returned (.int .i64 (Ref.validate f)) ∧ Gr w1 w') := fun w1 q => ival_nice vf f w1 (hf.gr q) hnf
  have HV2 : Hid (∀ w1, Gr w w1 → Calls Try.prog 10 #[vg] w1 fun e w' => e = .returned (.int .i64 (Ref.validate g)) ∧ Gr w1 w') := fun w1 q => ival_nice vg g w1 (hg.gr q) hng
  obtain ⟨vp, vs, vb, rfl, hp, hsl, hb⟩ := hf
  obtain ⟨up, us, ub, rfl, gp, gsl, gb⟩ := hg
  have HQ1 : Hid (∀ w1, Gr w w1 → Calls Try.prog 55 #[vp, up] w1 fun e w' => e = .returned (.bool (decide (f.params = g.params))) ∧ Gr w1 w') := fun w1 q => Equal_any vp up _ _ w1 (hp.gr q) (gp.gr q)
  have HQ2 : Hid (∀ w1, Gr w w1 → Calls Try.prog 55 #[vs, us] w1 fun e w' => e = .returned (.bool (decide (f.slots = g.slots))) ∧ Gr w1 w') := fun w1 q => Equal_any vs us _ _ w1 (hsl.gr q) (gsl.gr q)
  have HE : Hid (Ref.alikeB f g = (decide (f.params = g.params) && (f.ret == g.ret) && decide (f.slots = g.slots))) := by show _ = _; rfl
  obtain ⟨Ap, cp, rfl, -, -, -⟩ := hp
  obtain ⟨As, cs, rfl, -, -, -⟩ := hsl
  obtain ⟨Ab, cb, rfl, -, -, -⟩ := hb
  obtain ⟨Dp, dp, rfl, -, -, -⟩ := gp
  obtain ⟨Ds, ds, rfl, -, -, -⟩ := gsl
  obtain ⟨Db, db, rfl, -, -, -⟩ := gb
  obtain ⟨W, hW⟩ : ∃ W, (w.alloc (.cells #[.slice Ap f.params.length cp, .int .i64 f.ret, .slice As f.slots.length cs, .slice Ab f.blocks.length cb] 25)).alloc (.cells #[.slice Dp g.params.length dp, .int .i64 g.ret, .slice Ds g.slots.length ds, .slice Db g.blocks.length db] 25) = W := ⟨_, rfl⟩
  have hB0 : Gr w W := by rw [← hW]; exact ((Gr.refl w).alloc _).alloc _
  have hWs : W.heap.size = w.heap.size + 2 := by rw [← hW]; simp
  have B0 : Hid (∀ w', Gr W w' → FBox w.heap.size w' f Ap As Ab cp cs cb ∧ FBox (w.heap.size + 1) w' g Dp Ds Db dp ds db) := by
    intro w' q
    refine ⟨(FBox.new (V := w) (by rw [← hW]; exact (Gr.refl _).alloc _) rfl).gr (by omega) q, (FBox.new (V := w.alloc _) (by rw [hW]; exact Gr.refl _) (by simp)).gr (by omega) q⟩
  obtain ⟨⟨c0, c1, c2, c3⟩, ⟨d0, d1, d2, d3⟩⟩ := B0.out W (Gr.refl _)
  obtain ⟨b1, h1⟩ : ∃ b, decide (f.params = g.params) = b := ⟨_, rfl⟩
  obtain ⟨b2, h2⟩ : ∃ b, (f.ret == g.ret) = b := ⟨_, rfl⟩
  obtain ⟨b3, h3⟩ : ∃ b, decide (f.slots = g.slots) = b := ⟨_, rfl⟩
  obtain ⟨e1, he1⟩ : ∃ e, Ref.validate f = e := ⟨_, rfl⟩
  obtain ⟨e2, he2⟩ : ∃ e, Ref.validate g = e := ⟨_, rfl⟩
  have HAC := Lib.hid (alike_cases f g e1 e2 he1 he2)
  rw [h1, h2, h3] at HE
  rw [h1] at HQ1
  rw [h3] at HQ2
  rw [he1] at HV1
  rw [he2] at HV2
  clear h1 h3 he1 he2
  by_cases z1 : e1 = 0
  · have n1 : (e1 != 0) = false := by simp [z1]
    by_cases z2 : e2 = 0
    · have n2 : (e2 != 0) = false := by simp [z2]
      have HR := Lib.hid (HAC.out.2.2 z1 z2)
      clear z1 z2
      rcases (by cases b1 <;> cases b2 <;> simp : b1 = false ∨ (b1 = true ∧ b2 = false) ∨ (b1 = true ∧ b2 = true)) with rfl | ⟨rfl, rfl⟩ | ⟨rfl, rfl⟩
      all_goals
        go_enter Try.func26, Try.ntmps26
        go_wp2_with (first
          | (go_at_call 10; with_reducible refine (HV1.out _ hB0).mono ?_; rintro e w1 ⟨rfl, g1⟩; obtain ⟨⟨k0, k1, k2, k3⟩, ⟨m0, m1, m2, m3⟩⟩ := B0.out _ g1)
          | (go_at_call 10; with_reducible refine (HV2.out _ (hB0.trans g1)).mono ?_; rintro e w2 ⟨rfl, g2⟩; have q2 := g1.trans g2; obtain ⟨⟨i0, i1, i2, i3⟩, ⟨j0, j1, j2, j3⟩⟩ := B0.out _ q2)
          | (go_at_call 55; with_reducible refine (HQ1.out _ (hB0.trans q2)).mono ?_; rintro e w3 ⟨rfl, g3⟩; have q3 := q2.trans g3; obtain ⟨⟨s0, s1, s2, s3⟩, ⟨t0, t1, t2, t3⟩⟩ := B0.out _ q3)
          | (go_at_call 55; with_reducible refine (HQ2.out _ (hB0.trans q3)).mono ?_; rintro e w4 ⟨rfl, g4⟩; have q4 := q3.trans g4))
        go_ret2
        first
          | exact ⟨by rw [HR.out.1, HR.out.2, HE.out]; simp, hB0.trans q4⟩
          | exact ⟨by rw [HR.out.1, HR.out.2, HE.out]; simp, hB0.trans q3⟩
    · have n2 : (e2 != 0) = true := by simp [z2]
      have HR := Lib.hid (HAC.out.2.1 z1 z2)
      clear z1 z2
      go_enter Try.func26, Try.ntmps26
      go_wp2_with (first
        | (go_at_call 10; with_reducible refine (HV1.out _ hB0).mono ?_; rintro e w1 ⟨rfl, g1⟩; obtain ⟨⟨k0, k1, k2, k3⟩, ⟨m0, m1, m2, m3⟩⟩ := B0.out _ g1)
        | (go_at_call 10; with_reducible refine (HV2.out _ (hB0.trans g1)).mono ?_; rintro e w2 ⟨rfl, g2⟩; have q2 := g1.trans g2))
      go_ret2
      exact ⟨by rw [HR.out.1, HR.out.2]; rfl, hB0.trans q2⟩
  · have n1 : (e1 != 0) = true := by simp [z1]
    have HR := Lib.hid (HAC.out.1 z1)
    clear z1
    go_enter Try.func26, Try.ntmps26
    go_wp2_with (go_at_call 10; with_reducible refine (HV1.out _ hB0).mono ?_; rintro e w1 ⟨rfl, g1⟩)
    go_ret2
    exact ⟨by rw [HR.out.1, HR.out.2]; rfl, hB0.trans g1⟩

set_option maxRecDepth 100000 in
set_option maxHeartbeats 8000000 in
theorem rAlike_any (vf vg : Value) (f g : Fn) (w : World) (hf : FnAt w.heap.size w vf f) (hg : FnAt w.heap.size w vg g) (hnf : Nice f) (hng : Nice g) :
    Calls Try.prog 27 #[vf, vg] w fun e w' => e = .returned (.tuple #[.bool (Ref.alikeR f g), .int .i64 (Ref.alikeE f g)]) ∧ Gr w w' := by
  have HV1 : Hid (∀ w1, Gr w w1 → Calls Try.prog 11 #[vf] w1 fun e w' => e = .returned (.int .i64 (Ref.validate f)) ∧ Gr w1 w') := fun w1 q => rval_nice vf f w1 (hf.gr q) hnf
  have HV2 : Hid (∀ w1, Gr w w1 → Calls Try.prog 11 #[vg] w1 fun e w' => e = .returned (.int .i64 (Ref.validate g)) ∧ Gr w1 w') := fun w1 q => rval_nice vg g w1 (hg.gr q) hng
  obtain ⟨vp, vs, vb, rfl, hp, hsl, hb⟩ := hf
  obtain ⟨up, us, ub, rfl, gp, gsl, gb⟩ := hg
  have HQ1 : Hid (∀ w1, Gr w w1 → Calls Try.prog 25 #[vp, up] w1 fun e w' => e = .returned (.bool (decide (f.params = g.params))) ∧ Gr w1 w') := fun w1 q => SameInts_any vp up _ _ w1 (hp.gr q) (gp.gr q)
  have HQ2 : Hid (∀ w1, Gr w w1 → Calls Try.prog 25 #[vs, us] w1 fun e w' => e = .returned (.bool (decide (f.slots = g.slots))) ∧ Gr w1 w') := fun w1 q => SameInts_any vs us _ _ w1 (hsl.gr q) (gsl.gr q)
  have HE : Hid (Ref.alikeB f g = (decide (f.params = g.params) && (f.ret == g.ret) && decide (f.slots = g.slots))) := by show _ = _; rfl
  obtain ⟨Ap, cp, rfl, -, -, -⟩ := hp
  obtain ⟨As, cs, rfl, -, -, -⟩ := hsl
  obtain ⟨Ab, cb, rfl, -, -, -⟩ := hb
  obtain ⟨Dp, dp, rfl, -, -, -⟩ := gp
  obtain ⟨Ds, ds, rfl, -, -, -⟩ := gsl
  obtain ⟨Db, db, rfl, -, -, -⟩ := gb
  obtain ⟨W, hW⟩ : ∃ W, (w.alloc (.cells #[.slice Ap f.params.length cp, .int .i64 f.ret, .slice As f.slots.length cs, .slice Ab f.blocks.length cb] 25)).alloc (.cells #[.slice Dp g.params.length dp, .int .i64 g.ret, .slice Ds g.slots.length ds, .slice Db g.blocks.length db] 25) = W := ⟨_, rfl⟩
  have hB0 : Gr w W := by rw [← hW]; exact ((Gr.refl w).alloc _).alloc _
  have hWs : W.heap.size = w.heap.size + 2 := by rw [← hW]; simp
  have B0 : Hid (∀ w', Gr W w' → FBox w.heap.size w' f Ap As Ab cp cs cb ∧ FBox (w.heap.size + 1) w' g Dp Ds Db dp ds db) := by
    intro w' q
    refine ⟨(FBox.new (V := w) (by rw [← hW]; exact (Gr.refl _).alloc _) rfl).gr (by omega) q, (FBox.new (V := w.alloc _) (by rw [hW]; exact Gr.refl _) (by simp)).gr (by omega) q⟩
  obtain ⟨⟨c0, c1, c2, c3⟩, ⟨d0, d1, d2, d3⟩⟩ := B0.out W (Gr.refl _)
  obtain ⟨b1, h1⟩ : ∃ b, decide (f.params = g.params) = b := ⟨_, rfl⟩
  obtain ⟨b2, h2⟩ : ∃ b, (f.ret == g.ret) = b := ⟨_, rfl⟩
  obtain ⟨b3, h3⟩ : ∃ b, decide (f.slots = g.slots) = b := ⟨_, rfl⟩
  obtain ⟨e1, he1⟩ : ∃ e, Ref.validate f = e := ⟨_, rfl⟩
  obtain ⟨e2, he2⟩ : ∃ e, Ref.validate g = e := ⟨_, rfl⟩
  have HAC := Lib.hid (alike_cases f g e1 e2 he1 he2)
  rw [h1, h2, h3] at HE
  rw [h1] at HQ1
  rw [h3] at HQ2
  rw [he1] at HV1
  rw [he2] at HV2
  clear h1 h3 he1 he2
  by_cases z1 : e1 = 0
  · have n1 : (e1 != 0) = false := by simp [z1]
    by_cases z2 : e2 = 0
    · have n2 : (e2 != 0) = false := by simp [z2]
      have HR := Lib.hid (HAC.out.2.2 z1 z2)
      clear z1 z2
      rcases (by cases b1 <;> cases b2 <;> simp : b1 = false ∨ (b1 = true ∧ b2 = false) ∨ (b1 = true ∧ b2 = true)) with rfl | ⟨rfl, rfl⟩ | ⟨rfl, rfl⟩
      all_goals
        go_enter Try.func27, Try.ntmps27
        go_wp2_with (first
          | (go_at_call 11; with_reducible refine (HV1.out _ hB0).mono ?_; rintro e w1 ⟨rfl, g1⟩; obtain ⟨⟨k0, k1, k2, k3⟩, ⟨m0, m1, m2, m3⟩⟩ := B0.out _ g1)
          | (go_at_call 11; with_reducible refine (HV2.out _ (hB0.trans g1)).mono ?_; rintro e w2 ⟨rfl, g2⟩; have q2 := g1.trans g2; obtain ⟨⟨i0, i1, i2, i3⟩, ⟨j0, j1, j2, j3⟩⟩ := B0.out _ q2)
          | (go_at_call 25; with_reducible refine (HQ1.out _ (hB0.trans q2)).mono ?_; rintro e w3 ⟨rfl, g3⟩; have q3 := q2.trans g3; obtain ⟨⟨s0, s1, s2, s3⟩, ⟨t0, t1, t2, t3⟩⟩ := B0.out _ q3)
          | (go_at_call 25; with_reducible refine (HQ2.out _ (hB0.trans q3)).mono ?_; rintro e w4 ⟨rfl, g4⟩; have q4 := q3.trans g4))
        go_ret2
        first
          | exact ⟨by rw [HR.out.1, HR.out.2, HE.out]; simp, hB0.trans q4⟩
          | exact ⟨by rw [HR.out.1, HR.out.2, HE.out]; simp, hB0.trans q3⟩
    · have n2 : (e2 != 0) = true := by simp [z2]
      have HR := Lib.hid (HAC.out.2.1 z1 z2)
      clear z1 z2
      go_enter Try.func27, Try.ntmps27
      go_wp2_with (first
        | (go_at_call 11; with_reducible refine (HV1.out _ hB0).mono ?_; rintro e w1 ⟨rfl, g1⟩; obtain ⟨⟨k0, k1, k2, k3⟩, ⟨m0, m1, m2, m3⟩⟩ := B0.out _ g1)
        | (go_at_call 11; with_reducible refine (HV2.out _ (hB0.trans g1)).mono ?_; rintro e w2 ⟨rfl, g2⟩; have q2 := g1.trans g2))
      go_ret2
      exact ⟨by rw [HR.out.1, HR.out.2]; rfl, hB0.trans q2⟩
  · have n1 : (e1 != 0) = true := by simp [z1]
    have HR := Lib.hid (HAC.out.1 z1)
    clear z1
    go_enter Try.func27, Try.ntmps27
    go_wp2_with (go_at_call 11; with_reducible refine (HV1.out _ hB0).mono ?_; rintro e w1 ⟨rfl, g1⟩)
    go_ret2
    exact ⟨by rw [HR.out.1, HR.out.2]; rfl, hB0.trans g1⟩

end Go.Proofs.Ytiadpjhlomhjeaa

namespace Go.Proofs.Ytiadpjhlomhjeaa
open Go.RowKit Go.Shelf

set_option maxRecDepth 100000 in
set_option maxHeartbeats 16000000 in
theorem lawAlikes_any (vf vg : Value) (f g : Fn) (w : World) (hf : FnAt w.heap.size w vf f) (hg : FnAt w.heap.size w vg g) (hnf : longFn f = false → Nice f) (hng : longFn g = false → Nice g) :
    Calls Try.prog 6 #[vf, vg] w fun e w' => e = .returned (.bool true) ∧ Gr w w' := by
  have HL1 : Hid (∀ w1, Gr w w1 → Calls Try.prog 8 #[vf] w1 fun e w' => e = .returned (.bool (longFn f)) ∧ Gr w1 w') := fun w1 q => Long_any vf f w1 (hf.gr q)
  have HL2 : Hid (∀ w1, Gr w w1 → Calls Try.prog 8 #[vg] w1 fun e w' => e = .returned (.bool (longFn g)) ∧ Gr w1 w') := fun w1 q => Long_any vg g w1 (hg.gr q)
  have HA : Hid (longFn f = false → longFn g = false → ∀ w1, Gr w w1 → Calls Try.prog 26 #[vf, vg] w1 fun e w' => e = .returned (.tuple #[.bool (Ref.alikeR f g), .int .i64 (Ref.alikeE f g)]) ∧ Gr w1 w') := fun h1 h2 w1 q => iAlike_any vf vg f g w1 (hf.gr q) (hg.gr q) (hnf h1) (hng h2)
  have HB : Hid (longFn f = false → longFn g = false → ∀ w1, Gr w w1 → Calls Try.prog 27 #[vf, vg] w1 fun e w' => e = .returned (.tuple #[.bool (Ref.alikeR f g), .int .i64 (Ref.alikeE f g)]) ∧ Gr w1 w') := fun h1 h2 w1 q => rAlike_any vf vg f g w1 (hf.gr q) (hg.gr q) (hnf h1) (hng h2)
  have HS1 : Hid (∀ w1, Gr w w1 → Calls Try.prog 28 #[vf, vg] w1 fun e w' => e = .returned (.bool (decide (f = g))) ∧ Gr w1 w') := fun w1 q => iSame_any vf vg f g w1 (hf.gr q) (hg.gr q)
  have HS2 : Hid (∀ w1, Gr w w1 → Calls Try.prog 29 #[vf, vg] w1 fun e w' => e = .returned (.bool (decide (f = g))) ∧ Gr w1 w') := fun w1 q => rSame_any vf vg f g w1 (hf.gr q) (hg.gr q)
  have HS3 : Hid (∀ w1, Gr w w1 → Calls Try.prog 28 #[vf, vf] w1 fun e w' => e = .returned (.bool true) ∧ Gr w1 w') := fun w1 q => by
    have := iSame_any vf vf f f w1 (hf.gr q) (hf.gr q)
    simpa using this
  have HKN : Hid (∀ w1, Calls Try.prog 9 #[] w1 fun e w' => e = .returned (.bool true) ∧ Gr w1 w') := known_any
  obtain ⟨vp, vs, vb, rfl, hp, hsl, hb⟩ := hf
  obtain ⟨up, us, ub, rfl, gp, gsl, gb⟩ := hg
  obtain ⟨Ap, cp, rfl, -, -, -⟩ := hp
  obtain ⟨As, cs, rfl, -, -, -⟩ := hsl
  obtain ⟨Ab, cb, rfl, -, -, -⟩ := hb
  obtain ⟨Dp, dp, rfl, -, -, -⟩ := gp
  obtain ⟨Ds, ds, rfl, -, -, -⟩ := gsl
  obtain ⟨Db, db, rfl, -, -, -⟩ := gb
  obtain ⟨W, hW⟩ : ∃ W, (w.alloc (.cells #[.slice Ap f.params.length cp, .int .i64 f.ret, .slice As f.slots.length cs, .slice Ab f.blocks.length cb] 25)).alloc (.cells #[.slice Dp g.params.length dp, .int .i64 g.ret, .slice Ds g.slots.length ds, .slice Db g.blocks.length db] 25) = W := ⟨_, rfl⟩
  have hB0 : Gr w W := by rw [← hW]; exact ((Gr.refl w).alloc _).alloc _
  have hWs : W.heap.size = w.heap.size + 2 := by rw [← hW]; simp
  have B0 : Hid (∀ w', Gr W w' → FBox w.heap.size w' f Ap As Ab cp cs cb ∧ FBox (w.heap.size + 1) w' g Dp Ds Db dp ds db) := by
    intro w' q
    refine ⟨(FBox.new (V := w) (by rw [← hW]; exact (Gr.refl _).alloc _) rfl).gr (by omega) q, (FBox.new (V := w.alloc _) (by rw [hW]; exact Gr.refl _) (by simp)).gr (by omega) q⟩
  obtain ⟨⟨c0, c1, c2, c3⟩, ⟨d0, d1, d2, d3⟩⟩ := B0.out W (Gr.refl _)
  obtain ⟨l1, hl1⟩ : ∃ b, longFn f = b := ⟨_, rfl⟩
  obtain ⟨l2, hl2⟩ : ∃ b, longFn g = b := ⟨_, rfl⟩
  rw [hl1] at HL1 HA HB
  rw [hl2] at HL2 HA HB
  clear hl1 hl2 hnf hng
  cases l1 with
  | true =>
    go_enter Try.func6, Try.ntmps6
    go_wp2_with (first
      | (go_at_call 8; with_reducible refine (HL1.out _ hB0).mono ?_; rintro e w1 ⟨rfl, g1⟩)
      | (go_at_call 9; refine (HKN.out _).mono ?_; rintro e w2 ⟨rfl, g2⟩))
    go_ret
    exact ⟨rfl, hB0.trans (g1.trans g2)⟩
  | false =>
    cases l2 with
    | true =>
      go_enter Try.func6, Try.ntmps6
      go_wp2_with (first
        | (go_at_call 8; with_reducible refine (HL1.out _ hB0).mono ?_; rintro e w1 ⟨rfl, g1⟩; obtain ⟨⟨k0, k1, k2, k3⟩, ⟨m0, m1, m2, m3⟩⟩ := B0.out _ g1)
        | (go_at_call 8; with_reducible refine (HL2.out _ (hB0.trans g1)).mono ?_; rintro e w2 ⟨rfl, g2⟩)
        | (go_at_call 9; refine (HKN.out _).mono ?_; rintro e w3 ⟨rfl, g3⟩))
      go_ret
      exact ⟨rfl, hB0.trans (g1.trans (g2.trans g3))⟩
    | false =>
      have HA1 := Lib.hid (HA.out rfl rfl)
      have HB1 := Lib.hid (HB.out rfl rfl)
      obtain ⟨e, he⟩ : ∃ e, Ref.alikeE f g = e := ⟨_, rfl⟩
      obtain ⟨a, ha⟩ : ∃ a, Ref.alikeR f g = a := ⟨_, rfl⟩
      obtain ⟨s, hs⟩ : ∃ s, decide (f = g) = s := ⟨_, rfl⟩
      rw [he, ha] at HA1 HB1
      rw [hs] at HS1 HS2
      have hee : (e == e) = true := by simp
      have haa : (a == a) = true := by simp
      have hss : (s == s) = true := by simp
      clear HA HB he ha hs
      go_enter Try.func6, Try.ntmps6
      go_wp2_with (first
        | (go_at_call 8; with_reducible refine (HL1.out _ hB0).mono ?_; rintro e1 w1 ⟨rfl, g1⟩; obtain ⟨⟨k0, k1, k2, k3⟩, ⟨m0, m1, m2, m3⟩⟩ := B0.out _ g1)
        | (go_at_call 8; with_reducible refine (HL2.out _ (hB0.trans g1)).mono ?_; rintro e2 w2 ⟨rfl, g2⟩; have q2 := g1.trans g2; obtain ⟨⟨i0, i1, i2, i3⟩, ⟨j0, j1, j2, j3⟩⟩ := B0.out _ q2)
        | (go_at_call 26; refine (HA1.out _ (hB0.trans q2)).mono ?_; rintro e3 w3 ⟨rfl, g3⟩; have q3 := q2.trans g3; obtain ⟨⟨r0, r1, r2, r3⟩, ⟨t0, t1, t2, t3⟩⟩ := B0.out _ q3)
        | (go_at_call 27; refine (HB1.out _ (hB0.trans q3)).mono ?_; rintro e4 w4 ⟨rfl, g4⟩; have q4 := q3.trans g4))
      clear c0 c1 c2 c3 d0 d1 d2 d3 k0 k1 k2 k3 m0 m1 m2 m3 i0 i1 i2 i3 j0 j1 j2 j3 r0 r1 r2 r3 t0 t1 t2 t3
      have U0 : ∀ u : GrW w4, u.val.cell? ⟨w.heap.size, 0, none⟩ = some (.slice Ap f.params.length cp) := fun u => (B0.out _ (q4.trans u.gr)).1.1
      have U1 : ∀ u : GrW w4, u.val.cell? ⟨w.heap.size, 1, none⟩ = some (.int .i64 f.ret) := fun u => (B0.out _ (q4.trans u.gr)).1.2.1
      have U2 : ∀ u : GrW w4, u.val.cell? ⟨w.heap.size, 2, none⟩ = some (.slice As f.slots.length cs) := fun u => (B0.out _ (q4.trans u.gr)).1.2.2.1
      have U3 : ∀ u : GrW w4, u.val.cell? ⟨w.heap.size, 3, none⟩ = some (.slice Ab f.blocks.length cb) := fun u => (B0.out _ (q4.trans u.gr)).1.2.2.2
      have V0 : ∀ u : GrW w4, u.val.cell? ⟨w.heap.size + 1, 0, none⟩ = some (.slice Dp g.params.length dp) := fun u => (B0.out _ (q4.trans u.gr)).2.1
      have V1 : ∀ u : GrW w4, u.val.cell? ⟨w.heap.size + 1, 1, none⟩ = some (.int .i64 g.ret) := fun u => (B0.out _ (q4.trans u.gr)).2.2.1
      have V2 : ∀ u : GrW w4, u.val.cell? ⟨w.heap.size + 1, 2, none⟩ = some (.slice Ds g.slots.length ds) := fun u => (B0.out _ (q4.trans u.gr)).2.2.2.1
      have V3 : ∀ u : GrW w4, u.val.cell? ⟨w.heap.size + 1, 3, none⟩ = some (.slice Db g.blocks.length db) := fun u => (B0.out _ (q4.trans u.gr)).2.2.2.2
      have HQ4 := Lib.hid (hB0.trans q4)
      refine wp_region_quietGr (by kernel_rfl) (by kernel_rfl) ?_
      repeat (go_big_quiet_step ((rename_i u; first
        | (go_at_call 28; with_reducible exact grW_call u (HS1.out _ (HQ4.out.trans u.gr)))
        | (go_at_call 28; with_reducible exact grW_call u (HS3.out _ (HQ4.out.trans u.gr)))
        | (go_at_call 29; with_reducible exact grW_call u (HS2.out _ (HQ4.out.trans u.gr)))
        | (go_at_call 9; with_reducible exact grW_call u (HKN.out _)))))
      refine wpQuiet_nil ?_
      intro w9 hw9
      obtain ⟨u9, rfl⟩ := hw9
      go_wp2
      go_ret
      exact ⟨rfl, HQ4.out.trans u9.gr⟩
end Go.Proofs.Ytiadpjhlomhjeaa

namespace Go.Proofs.Ytiadpjhlomhjeaa.alikes
open Go.ChangeShapes Go.WideShapes Go.ChangeAt Go.RowKit
set_option linter.unusedVariables false

theorem own : ownKnob Try.prog.godebug = none := by kernel_rfl
theorem laidOut : laidOutB Try.prog = true := by kernel_rfl

set_option maxRecDepth 100000 in
theorem lifted (os : Os) (started : os.Started) (H : Type) (enc : TypeId × Value → H) :
    ReturnsInHanded {} Try.checked os 6 .any (Rows.irAlikesSpec.pre6 enc Try.prog Try.f6 Rows.irAlikesRow.domain false) (Rows.irAlikesSpec.post enc Try.prog Try.f6 false true false false) := by
  refine returnsInHanded_of_change_sized (C := Try.checked) own started (by kernel_rfl) Try.func6
    (ChangeSpec.witness6 (enc := enc) (C := Try.checked) false ⟨#[], #[.agg #[.slice none 0 0, .int .i64 0, .slice none 0 0, .slice none 0 0], .agg #[.slice none 0 0, .int .i64 0, .slice none 0 0, .slice none 0 0]], []⟩ 8 (by kernel_rfl) (by kernel_rfl) (by kernel_rfl) (by kernel_rfl)) ?_
  intro W base args ds gs before hval0 hW hcnd0 hsz0 _
  have hval : ∀ (j : Nat) t v, (Try.f6).params[j]? = some t → args[j]? = some v → Value.okWide Try.prog W .any base t v := hval0
  have hsz : (DataW.weightsEach Try.prog ((Try.f6).params.toList ++ Rows.irAlikesSpec.plain.varTypes Try.prog) (ds ++ gs)).all (· ≤ reachBytes) = true := hsz0
  have hW' := hW
  obtain ⟨p, q, hA0, hV, rfl, hfz, hnd⟩ := hW
  have hA : DataW.TrodAll enc Try.prog W 0 (fun _ => true) true (Try.f6).params.toList args.toList ds p := hA0
  rw [Try.params6] at hA hval hsz
  obtain ⟨v0, vs0, d0, ds0, p0, q0, hargs, rfl, rfl, h0, r0⟩ := trodAll_cons hA
  obtain ⟨v1, vs1, d1, ds1, p1, q1, rfl, rfl, rfl, h1, r1⟩ := trodAll_cons r0
  obtain ⟨rfl, rfl, rfl⟩ := trodAll_nil r1
  obtain rfl : args = #[v0, v1] := by cases args; simp_all
  obtain ⟨rfl, rfl⟩ := trodVars_none hV
  have k0 := h0
  have k1 := h1
  have lt0 : ∀ x ∈ p0, x.block < W.heap.size := by obtain ⟨m, hm⟩ := k0; exact DataW.trod_lt m _ _ _ hm
  have lt1 : ∀ x ∈ p1, x.block < W.heap.size := by obtain ⟨m, hm⟩ := k1; exact DataW.trod_lt m _ _ _ hm
  obtain ⟨f, hf, hs⟩ := fn_open (hval 0 25 v0 rfl rfl) h0 (fun m hm => by
    have := List.all_eq_true.1 hsz m (DataW.weights_mem_each (j := 0) (t := 25) rfl rfl m hm)
    simpa using this)
  obtain ⟨g, hg, hs'⟩ := fn_open (hval 1 25 v1 rfl rfl) h1 (fun m hm => by
    have := List.all_eq_true.1 hsz m (DataW.weights_mem_each (j := 1) (t := 25) rfl rfl m hm)
    simpa using this)
  clear hA0 hval0 hsz0 hcnd0
  refine (lawAlikes_any v0 v1 f g W hf hg (nice_of hs) (nice_of hs')).mono fun e W' ⟨he, bel⟩ => ?_
  subst he
  exact ⟨_, rfl, _, _, _, [], _, [], hW', trodAll_mk1 (shut_bool Try.underlying4 _), (trodAll_cons_mk (Below.trod laidOut (by kernel_rfl) (of_decide_eq_true (by kernel_rfl)) k0 bel lt0) (trodAll_cons_mk (Below.trod laidOut (by kernel_rfl) (of_decide_eq_true (by kernel_rfl)) k1 bel lt1) trodAll_mk0)), rfl, bel.frame _, fun h => by cases h⟩

theorem over : Rows.irAlikesRow.holds Try.pinned (OpenSpec.ofChange Rows.irAlikesSpec) :=
  OpenClaim.holds_of_wide 6 Try.f6 rfl rfl rfl rfl rfl rfl rfl ⟨rfl, rfl, rfl, rfl, rfl⟩ rfl rfl rfl rfl rfl (by kernel_rfl) Try.func6 (by kernel_rfl)
    (of_decide_eq_true (by kernel_rfl)) (by unfold Func.isWrapper; first | (rw [if_pos (by decide +kernel)]; kernel_rfl) | (rw [if_neg (by decide +kernel)]; exact ⟨rfl, rfl⟩))
    (fun os started H enc _ => lifted os started H enc)

/-- THE STATEMENT. -/
theorem proved : Rows.IrAlikesSaid := over
#print axioms proved
end Go.Proofs.Ytiadpjhlomhjeaa.alikes

/- The law backstaylaw03.IrGraphs returns true at every input, and the input reads as it did. -/
import Derived.Test.YtiadpjhlomhjeaaIrLast
import Derived.Test.YtiadpjhlomhjeaaIrMainM

namespace Go.Proofs.Ytiadpjhlomhjeaa
open Go.RowKit Go.Shelf

/-- What both sides return as a graph. -/
def Ref.graphR (f : Fn) : List (List Int) := if Ref.validate f = 0 then Ref.graph f else []
theorem valid_rules {f : Fn} (h : Ref.validate f = 0) : Ref.rules f = true := by
  cases hr : Ref.rules f with
  | true => rfl
  | false =>
    unfold Ref.validate at h
    rw [hr] at h
    repeat (split at h <;> first | (cases h; done) | skip)
    all_goals simp_all

set_option maxHeartbeats 2000000 in
theorem Graph_any (v : Value) (f : Fn) (w : World) (hf : FnAt w.heap.size w v f) (hn : Nice f) :
    Calls Try.prog 12 #[v] w fun e w' => ∃ A n c, e = .returned (.tuple #[.slice A n c, .int .i64 (Ref.validate f)]) ∧ Hid (TabAt w'.heap.size w' (.slice A n c) (Ref.graphR f)) ∧ Gr w w' := by
  have HV : Hid (∀ w1, Gr w w1 → Calls Try.prog 10 #[v] w1 fun e w' => e = .returned (.int .i64 (Ref.validate f)) ∧ Gr w1 w') := fun w1 q => ival_nice v f w1 (hf.gr q) hn
  have HG : Hid (Ref.validate f = 0 → ∀ w1, Gr w w1 → Calls Try.prog 45 #[v] w1 fun e w' => ∃ A n c, e = .returned (.slice A n c) ∧ Hid (TabAt w'.heap.size w' (.slice A n c) (Ref.graphR f)) ∧ Gr w1 w') := by
    intro h w1 q
    refine (igraph_any v f w1 (hf.gr q) hn.blocks (rules_ne (valid_rules h))).mono ?_
    rintro e w' ⟨u, q1, q2, q3⟩
    have q2' : TabAt w'.heap.size w' u (Ref.graphR f) := by unfold Ref.graphR; rw [if_pos h]; exact q2
    obtain ⟨A, c, rfl, -, -, -⟩ := q2
    exact ⟨A, _, c, q1, q2', q3⟩
  have HN : Hid (Ref.validate f ≠ 0 → ∀ w', TabAt (World.heap w').size w' (.slice none 0 0) (Ref.graphR f)) := by
    intro h w'
    unfold Ref.graphR
    rw [if_neg h]
    exact ⟨none, 0, rfl, by simp, by simp, by simp⟩
  obtain ⟨vp, vs, vb, rfl, hp, hsl, hb⟩ := hf
  obtain ⟨Ap, cp, rfl, hp1, hp2, -⟩ := hp
  obtain ⟨As, cs, rfl, hs1, hs2, -⟩ := hsl
  obtain ⟨Ab, cb, rfl, hb1, hb2, -⟩ := hb
  obtain ⟨W, hW⟩ : ∃ W, w.alloc (.cells #[.slice Ap f.params.length cp, .int .i64 f.ret, .slice As f.slots.length cs, .slice Ab f.blocks.length cb] 25) = W := ⟨_, rfl⟩
  have hB0 : Gr w W := by rw [← hW]; exact (Gr.refl w).alloc _
  have g0 : Gr (w.alloc (.cells #[.slice Ap f.params.length cp, .int .i64 f.ret, .slice As f.slots.length cs, .slice Ab f.blocks.length cb] 25)) W := by rw [hW]; exact Gr.refl _
  have hWs : W.heap.size = w.heap.size + 1 := by rw [← hW]; simp
  have B0 : Hid (∀ w', Gr W w' → (w'.cell? ⟨w.heap.size, 0, none⟩ = some (.slice Ap f.params.length cp) ∧ w'.cell? ⟨w.heap.size, 1, none⟩ = some (.int .i64 f.ret) ∧ w'.cell? ⟨w.heap.size, 2, none⟩ = some (.slice As f.slots.length cs) ∧ w'.cell? ⟨w.heap.size, 3, none⟩ = some (.slice Ab f.blocks.length cb))) :=
    fun w' q => ⟨(q.cell _ _ (by omega)).trans (cell_box _ _ 0 g0 rfl), (q.cell _ _ (by omega)).trans (cell_box _ _ 1 g0 rfl), (q.cell _ _ (by omega)).trans (cell_box _ _ 2 g0 rfl), (q.cell _ _ (by omega)).trans (cell_box _ _ 3 g0 rfl)⟩
  obtain ⟨k0, k1, k2, k3⟩ := B0.out W (Gr.refl _)
  obtain ⟨e, he⟩ : ∃ e, Ref.validate f = e := ⟨_, rfl⟩
  rw [he] at HV HG HN ⊢
  clear he hn g0
  by_cases h0 : e = 0
  · have hn0 : (e != 0) = false := by simp [h0]
    have HG1 := Lib.hid (HG.out h0)
    have HE0 := Lib.hid h0
    clear h0
    go_enter Try.func12, Try.ntmps12
    go_wp2_with (first
      | (go_at_call 10; refine (HV.out _ hB0).mono ?_; rintro e w1 ⟨rfl, g1⟩; obtain ⟨l0, l1, l2, l3⟩ := B0.out _ g1)
      | (go_at_call 45; refine (HG1.out _ (hB0.trans g1)).mono ?_; rintro e w2 ⟨A2, n2, c2, rfl, HT2, g2⟩))
    go_ret2
    exact ⟨A2, n2, c2, by rw [HE0.out]; rfl, HT2, hB0.trans (g1.trans g2)⟩
  · have hn0 : (e != 0) = true := by simp [h0]
    have HN1 := Lib.hid (HN.out h0)
    clear h0
    go_enter Try.func12, Try.ntmps12
    go_wp2_with (go_at_call 10; refine (HV.out _ hB0).mono ?_; rintro e w1 ⟨rfl, g1⟩)
    go_ret2
    exact ⟨none, 0, 0, rfl, HN1.out _, hB0.trans g1⟩

set_option maxHeartbeats 2000000 in
theorem rGraph_any (v : Value) (f : Fn) (w : World) (hf : FnAt w.heap.size w v f) (hn : Nice f) :
    Calls Try.prog 13 #[v] w fun e w' => ∃ A n c, e = .returned (.tuple #[.slice A n c, .int .i64 (Ref.validate f)]) ∧ Hid (TabAt w'.heap.size w' (.slice A n c) (Ref.graphR f)) ∧ Gr w w' := by
  have HV : Hid (∀ w1, Gr w w1 → Calls Try.prog 11 #[v] w1 fun e w' => e = .returned (.int .i64 (Ref.validate f)) ∧ Gr w1 w') := fun w1 q => rval_nice v f w1 (hf.gr q) hn
  have HG : Hid (Ref.validate f = 0 → ∀ w1, Gr w w1 → Calls Try.prog 46 #[v] w1 fun e w' => ∃ A n c, e = .returned (.slice A n c) ∧ Hid (TabAt w'.heap.size w' (.slice A n c) (Ref.graphR f)) ∧ Gr w1 w') := by
    intro h w1 q
    refine (rgraph_any v f w1 (hf.gr q) hn.blocks (rules_ne (valid_rules h))).mono ?_
    rintro e w' ⟨u, q1, q2, q3⟩
    have q2' : TabAt w'.heap.size w' u (Ref.graphR f) := by unfold Ref.graphR; rw [if_pos h]; exact q2
    obtain ⟨A, c, rfl, -, -, -⟩ := q2
    exact ⟨A, _, c, q1, q2', q3⟩
  have HN : Hid (Ref.validate f ≠ 0 → ∀ w', TabAt (World.heap w').size w' (.slice none 0 0) (Ref.graphR f)) := by
    intro h w'
    unfold Ref.graphR
    rw [if_neg h]
    exact ⟨none, 0, rfl, by simp, by simp, by simp⟩
  obtain ⟨vp, vs, vb, rfl, hp, hsl, hb⟩ := hf
  obtain ⟨Ap, cp, rfl, hp1, hp2, -⟩ := hp
  obtain ⟨As, cs, rfl, hs1, hs2, -⟩ := hsl
  obtain ⟨Ab, cb, rfl, hb1, hb2, -⟩ := hb
  obtain ⟨W, hW⟩ : ∃ W, w.alloc (.cells #[.slice Ap f.params.length cp, .int .i64 f.ret, .slice As f.slots.length cs, .slice Ab f.blocks.length cb] 25) = W := ⟨_, rfl⟩
  have hB0 : Gr w W := by rw [← hW]; exact (Gr.refl w).alloc _
  have g0 : Gr (w.alloc (.cells #[.slice Ap f.params.length cp, .int .i64 f.ret, .slice As f.slots.length cs, .slice Ab f.blocks.length cb] 25)) W := by rw [hW]; exact Gr.refl _
  have hWs : W.heap.size = w.heap.size + 1 := by rw [← hW]; simp
  have B0 : Hid (∀ w', Gr W w' → (w'.cell? ⟨w.heap.size, 0, none⟩ = some (.slice Ap f.params.length cp) ∧ w'.cell? ⟨w.heap.size, 1, none⟩ = some (.int .i64 f.ret) ∧ w'.cell? ⟨w.heap.size, 2, none⟩ = some (.slice As f.slots.length cs) ∧ w'.cell? ⟨w.heap.size, 3, none⟩ = some (.slice Ab f.blocks.length cb))) :=
    fun w' q => ⟨(q.cell _ _ (by omega)).trans (cell_box _ _ 0 g0 rfl), (q.cell _ _ (by omega)).trans (cell_box _ _ 1 g0 rfl), (q.cell _ _ (by omega)).trans (cell_box _ _ 2 g0 rfl), (q.cell _ _ (by omega)).trans (cell_box _ _ 3 g0 rfl)⟩
  obtain ⟨k0, k1, k2, k3⟩ := B0.out W (Gr.refl _)
  obtain ⟨e, he⟩ : ∃ e, Ref.validate f = e := ⟨_, rfl⟩
  rw [he] at HV HG HN ⊢
  clear he hn g0
  by_cases h0 : e = 0
  · have hn0 : (e != 0) = false := by simp [h0]
    have HG1 := Lib.hid (HG.out h0)
    have HE0 := Lib.hid h0
    clear h0
    go_enter Try.func13, Try.ntmps13
    go_wp2_with (first
      | (go_at_call 11; refine (HV.out _ hB0).mono ?_; rintro e w1 ⟨rfl, g1⟩; obtain ⟨l0, l1, l2, l3⟩ := B0.out _ g1)
      | (go_at_call 46; refine (HG1.out _ (hB0.trans g1)).mono ?_; rintro e w2 ⟨A2, n2, c2, rfl, HT2, g2⟩))
    go_ret2
    exact ⟨A2, n2, c2, by rw [HE0.out]; rfl, HT2, hB0.trans (g1.trans g2)⟩
  · have hn0 : (e != 0) = true := by simp [h0]
    have HN1 := Lib.hid (HN.out h0)
    clear h0
    go_enter Try.func13, Try.ntmps13
    go_wp2_with (go_at_call 11; refine (HV.out _ hB0).mono ?_; rintro e w1 ⟨rfl, g1⟩)
    go_ret2
    exact ⟨none, 0, 0, rfl, HN1.out _, hB0.trans g1⟩


set_option maxHeartbeats 2000000 in
theorem SameTables_any (va vb : Value) (a b : List (List Int)) (w : World) (ha : TabAt w.heap.size w va a) (hb : TabAt w.heap.size w vb b) :
    Calls Try.prog 16 #[va, vb] w fun e w' => e = .returned (.bool (decide (a = b))) ∧ Gr w w' := by
  have HSI : Hid (∀ w1 u1 u2 xs ys, IntsAt (World.heap w1).size w1 u1 xs → IntsAt w1.heap.size w1 u2 ys → Calls Try.prog 25 #[u1, u2] w1 fun e w' => e = .returned (.bool (decide (xs = ys))) ∧ Gr w1 w') := fun w1 u1 u2 xs ys h1 h2 => SameInts_any u1 u2 xs ys w1 h1 h2
  obtain ⟨A, ca, rfl, ha1, ha2, ha3⟩ := ha
  obtain ⟨A', cb, rfl, hb1, hb2, hb3⟩ := hb
  by_cases hlen : a.length = b.length
  · have hl1 : ((a.length : Int) != (b.length : Int)) = false := by rw [hlen]; simp
    have HL : Hid (a.length = b.length) := hlen
    clear hlen
    go_enter Try.func16, Try.ntmps16
    go_wp2
    go_loopw [5] (fun i wr => ∃ k : Nat, k ≤ a.length ∧ i = .int .i64 k ∧ Hid (a.take k = b.take k) ∧ Gr w wr) (fun i _ => a.length - (intOf i).toNat)
    case atStart => exact ⟨0, Nat.zero_le _, rfl, rfl, Gr.refl _⟩
    case round =>
      obtain ⟨k, hk, rfl, hrest, hg⟩ := hrel
      by_cases hlt : k < a.length
      · obtain ⟨ba, oa, rfl, hba, hca⟩ := ha3 (by omega)
        obtain ⟨bb, ob, rfl, hbb, hcb⟩ := hb3 (by have := HL.out; omega)
        obtain ⟨x, hx⟩ : ∃ x, a[k]? = some x := ⟨a[k], List.getElem?_eq_getElem hlt⟩
        obtain ⟨y, hy⟩ : ∃ y, b[k]? = some y := ⟨b[k]'(by have := HL.out; omega), List.getElem?_eq_getElem _⟩
        obtain ⟨u1, c1, i1⟩ := hca k x hx
        obtain ⟨u2, c2, i2⟩ := hcb k y hy
        have hc1 : wr.cell? ⟨ba, oa + k, none⟩ = some u1 := (hg.cell _ _ hba).trans c1
        have hc2 : wr.cell? ⟨bb, ob + k, none⟩ = some u2 := (hg.cell _ _ hbb).trans c2
        have I1 := Lib.hid (i1.gr hg)
        have I2 := Lib.hid (i2.gr hg)
        have hlt' : (k : Int) < b.length := by have := HL.out; omega
        have hlt2 : (k : Int) < a.length := by omega
        have HX := Lib.hid hx
        have HY := Lib.hid hy
        obtain ⟨ev, hev⟩ : ∃ ev, decide (x = y) = ev := ⟨_, rfl⟩
        have HC : Hid (∀ w1, Gr wr w1 → Calls Try.prog 25 #[u1, u2] w1 fun e w' => e = .returned (.bool ev) ∧ Gr w1 w') := by
          rw [← hev]; exact fun w1 q => HSI.out w1 u1 u2 x y (I1.out.gr q) (I2.out.gr q)
        have HE := Lib.hid hev
        clear ha3 hb3 hca hcb c1 c2 i1 i2 hx hy hev hlt
        have KP : Hid (∀ w', Gr wr w' → w'.cell? ⟨ba, oa + k, none⟩ = some u1 ∧ w'.cell? ⟨bb, ob + k, none⟩ = some u2) := fun w' q => ⟨(q.cell _ _ (by have := hg.size; omega)).trans hc1, (q.cell _ _ (by have := hg.size; omega)).trans hc2⟩
        cases ev with
        | true =>
          go_wp2
          go_region_held3 (fun w' => w'.cell? ⟨ba, oa + k, none⟩ = some u1 ∧ w'.cell? ⟨bb, ob + k, none⟩ = some u2) (first | exact KP.out _ (Gr.refl _).drew | exact KP.out _ g3) (first | (go_at_call 25; ((with_reducible refine (HC.out _ (Gr.refl _).drew).mono ?_); rintro e3 w3 ⟨rfl, g30⟩; have g3 : Gr wr w3 := (Gr.refl _).drew.trans g30)))
          all_goals go_wp2
          all_goals go_roundw
          case rel =>
            refine ⟨k + 1, by omega, by go_num, ?_, hg.trans g3⟩
            show a.take (k + 1) = b.take (k + 1)
            rw [List.take_add_one, List.take_add_one, hrest.out, HX.out, HY.out, of_decide_eq_true HE.out]
          case measure => simp [intOf]; omega
        | false =>
          go_wp2
          go_region_held3 (fun w' => w'.cell? ⟨ba, oa + k, none⟩ = some u1 ∧ w'.cell? ⟨bb, ob + k, none⟩ = some u2) (first | exact KP.out _ (Gr.refl _).drew | exact KP.out _ g3) (first | (go_at_call 25; ((with_reducible refine (HC.out _ (Gr.refl _).drew).mono ?_); rintro e3 w3 ⟨rfl, g30⟩; have g3 : Gr wr w3 := (Gr.refl _).drew.trans g30)))
          all_goals go_wp2
          all_goals go_ret
          all_goals refine ⟨ret_bool ?_, hg.trans g3⟩
          all_goals (symm; rw [decide_eq_false_iff_not]; intro h; rw [h, HY.out] at HX; exact of_decide_eq_false HE.out (Option.some.inj HX.out).symm)
      · obtain rfl : k = a.length := by omega
        have hge : (b.length : Int) ≤ (a.length : Int) := by have := HL.out; omega
        clear ha3 hb3
        go_wp2
        go_ret
        refine ⟨ret_bool ?_, hg⟩
        symm; rw [decide_eq_true_iff]
        have h1 := hrest.out
        rw [List.take_length, HL.out, List.take_length] at h1
        exact h1
  · have hl1 : ((a.length : Int) != (b.length : Int)) = true := by simp; omega
    have HL : Hid (a ≠ b) := fun h => hlen (by rw [h])
    clear hlen ha3 hb3
    go_enter Try.func16, Try.ntmps16
    go_wp2
    go_ret
    exact ⟨ret_bool (decide_eq_false HL.out).symm, Gr.refl _⟩
end Go.Proofs.Ytiadpjhlomhjeaa

namespace Go.Proofs.Ytiadpjhlomhjeaa
open Go.RowKit Go.Shelf
attribute [local go_sem] Oper.semAt_some

def Ref.opPure (x : Ins) : Bool := !(x.op == 21 || x.op == 23 || x.op == 32)
def Ref.pureB (f : Fn) : Bool := f.slots.isEmpty && f.blocks.all fun l => l.all Ref.opPure
/-- What both sides return of a function's being pure. -/
def Ref.pureR (f : Fn) : Bool := if Ref.validate f = 0 then Ref.pureB f else false

theorem heap_setCell_ne {W : World} {B i C : Nat} (v : Value) (h : B ≠ C) : (W.setCell ⟨B, i, none⟩ v).heap[C]? = W.heap[C]? := by
  show (W.heap.modify B _)[C]? = _
  rw [Array.getElem?_modify, if_neg h]
theorem results_be (fn : Func) (tmps : Array Value) (t1 t2 : Nat) (w : World) (B1 B2 : Nat) (b : Bool) (e : Int) (h : fn.results = #[.cell t1 4, .cell t2 28]) (ht1 : tmps[t1]?.getD undef = .pointer (some ⟨B1, 0, none⟩))
    (ht2 : tmps[t2]?.getD undef = .pointer (some ⟨B2, 0, none⟩)) (hc1 : w.cell? ⟨B1, 0, none⟩ = some (.bool b)) (hc2 : w.cell? ⟨B2, 0, none⟩ = some (.int .i64 e)) :
    (results fn tmps).run Try.prog w = .ok (.tuple #[.bool b, .int .i64 e]) w := by simp [results, h, ht1, ht2, go_sem, hc1, hc2]
theorem retBE {fn : Func} {R : Ending → World → Prop} {a : Act} {w w0 : World} {D B1 B2 t1 t2 : Nat} {b : Bool} {e : Int} (hd : a.defers = [{ target := .collected D, args := #[] }]) (hK : w.heap[D]? = some (.deferred (some []))) (hf : fn.results = #[.cell t1 4, .cell t2 28])
    (ht1 : a.tmps[t1]?.getD undef = .pointer (some ⟨B1, 0, none⟩)) (ht2 : a.tmps[t2]?.getD undef = .pointer (some ⟨B2, 0, none⟩)) (hb1 : w.heap[B1]? = some (.cells #[.bool b] 4 (0, 0))) (hb2 : w.heap[B2]? = some (.cells #[.int .i64 e] 28 (0, 0)))
    (hw : Below w0.heap.size w0 w) (hD : w0.heap.size ≤ D) (hR : ∀ w', Gr w0 w' → R (.returned (.tuple #[.bool b, .int .i64 e])) w') : bodyPostM Fence.wide 5 Try.prog fn R .ret a w := by
  have hne1 : B1 ≠ D := fun e => by rw [e, hK] at hb1; cases hb1
  have hne2 : B2 ≠ D := fun e => by rw [e, hK] at hb2; cases hb2
  have h1 : (w.putObj D (.deferred none)).heap[B1]? = some (.cells #[.bool b] 4 (0, 0)) := (World.putObj_heap_other hne1).trans hb1
  have h2 : (w.putObj D (.deferred none)).heap[B2]? = some (.cells #[.int .i64 e] 28 (0, 0)) := (World.putObj_heap_other hne2).trans hb2
  refine retD hd hK (results_be fn a.tmps t1 t2 _ B1 B2 b e hf ht1 ht2 (cell_of_one h1) (cell_of_one h2)) (hR _ ?_)
  exact Below.trans hw (belowK_b (w := w0) (Nat.le_refl _) w D _ _ hD hK rfl rfl)

set_option maxRecDepth 100000 in
set_option maxHeartbeats 8000000 in
theorem IsPure_any (v : Value) (f : Fn) (w : World) (hf : FnAt w.heap.size w v f) (hn : Nice f) :
    Calls Try.prog 14 #[v] w fun e w' => e = .returned (.tuple #[.bool (Ref.pureR f), .int .i64 (Ref.validate f)]) ∧ Gr w w' := by
  have HV : Hid (∀ w1, Gr w w1 → Calls Try.prog 10 #[v] w1 fun e w' => e = .returned (.int .i64 (Ref.validate f)) ∧ Gr w1 w') := fun w1 q => ival_nice v f w1 (hf.gr q) hn
  have HP : Hid (Ref.pureR f = if Ref.validate f = 0 then Ref.pureB f else false) := by show _ = _; rfl
  have HPB : Hid (Ref.pureB f = (f.slots.isEmpty && (Ir.items f).all fun it => Ref.opPure it.ins)) := by show _ = _; rw [items_all]; rfl
  have HBL := Lib.hid hn.blocks
  have hf0 := hf
  obtain ⟨vp, vs, vb, rfl, hp, hsl, hb⟩ := hf
  obtain ⟨Ap, cp, rfl, -, -, -⟩ := hp
  obtain ⟨As, cs, rfl, -, -, -⟩ := hsl
  obtain ⟨Ab, cb, rfl, -, -, -⟩ := hb
  obtain ⟨W, hW⟩ : ∃ W, ((w.alloc (.cells #[.slice Ap f.params.length cp, .int .i64 f.ret, .slice As f.slots.length cs, .slice Ab f.blocks.length cb] 25)).alloc (.cells #[.bool false] 4)).alloc (.cells #[.int .i64 0] 28) = W := ⟨_, rfl⟩
  have hB0 : Gr w W := by rw [← hW]; exact (((Gr.refl w).alloc _).alloc _).alloc _
  have hWs : W.heap.size = w.heap.size + 3 := by rw [← hW]; simp
  have g0 : Gr (w.alloc (.cells #[.slice Ap f.params.length cp, .int .i64 f.ret, .slice As f.slots.length cs, .slice Ab f.blocks.length cb] 25)) W := by rw [← hW]; exact ((Gr.refl _).alloc _).alloc _
  have B0 : Hid (∀ w', Gr W w' → w'.cell? ⟨w.heap.size, 0, none⟩ = some (.slice Ap f.params.length cp) ∧ w'.cell? ⟨w.heap.size, 1, none⟩ = some (.int .i64 f.ret) ∧ w'.cell? ⟨w.heap.size, 2, none⟩ = some (.slice As f.slots.length cs) ∧ w'.cell? ⟨w.heap.size, 3, none⟩ = some (.slice Ab f.blocks.length cb)) :=
    fun w' q => ⟨(q.cell _ _ (by omega)).trans (cell_box _ _ 0 g0 rfl), (q.cell _ _ (by omega)).trans (cell_box _ _ 1 g0 rfl), (q.cell _ _ (by omega)).trans (cell_box _ _ 2 g0 rfl), (q.cell _ _ (by omega)).trans (cell_box _ _ 3 g0 rfl)⟩
  have hr1 : W.heap[w.heap.size + 1]? = some (.cells #[.bool false] 4 (0, 0)) := by
    rw [← hW]
    have h1 : w.heap.size + 1 < ((w.alloc (.cells #[.slice Ap f.params.length cp, .int .i64 f.ret, .slice As f.slots.length cs, .slice Ab f.blocks.length cb] 25)).alloc (.cells #[.bool false] 4)).heap.size := by simp
    exact (((Gr.refl _).alloc _).heap _ h1).trans (heap_alloc2_new w _ _)
  have hr2 : W.heap[w.heap.size + 2]? = some (.cells #[.int .i64 0] 28 (0, 0)) := by
    rw [← hW]
    have h1 : ((w.alloc (.cells #[.slice Ap f.params.length cp, .int .i64 f.ret, .slice As f.slots.length cs, .slice Ab f.blocks.length cb] 25)).alloc (.cells #[.bool false] 4)).heap.size = w.heap.size + 2 := by simp
    rw [← h1]; exact heap_alloc_new _ _
  have R1 : Hid (∀ w', Gr W w' → w'.heap[w.heap.size + 1]? = some (.cells #[.bool false] 4 (0, 0))) := fun w' q => (q.heap _ (by omega)).trans hr1
  have R2 : Hid (∀ w', Gr W w' → w'.heap[w.heap.size + 2]? = some (.cells #[.int .i64 0] 28 (0, 0))) := fun w' q => (q.heap _ (by omega)).trans hr2
  have HCA : Hid (∀ w1, Calls Try.prog 34 #[.agg #[.slice Ap f.params.length cp, .int .i64 f.ret, .slice As f.slots.length cs, .slice Ab f.blocks.length cb]] w1 fun e w' => e = .returned (.func (.func 67) #[] #[.pointer (some ⟨w1.heap.size, 0, none⟩)]) ∧ w' = w1.alloc (.cells #[.slice Ap f.params.length cp, .int .i64 f.ret, .slice As f.slots.length cs, .slice Ab f.blocks.length cb] 25)) := fun w1 => all_in f Ap As _ _ _ _ cp cs cb w1
  obtain ⟨ev, hev⟩ : ∃ e, Ref.validate f = e := ⟨_, rfl⟩
  rw [hev] at HV HP ⊢
  refine (callsIn_wide (n := 5)).1 ?_
  refine callsIn_of_wp_marks Try.func14 rfl trivial ?_ rfl
  simp only [Try.ntmps14, List.size_toArray, List.length_cons, List.length_nil, Nat.reduceAdd, Nat.reduceSub, Array.replicate_succ, Array.replicate_zero, List.push_toArray, List.append_toArray, List.nil_append, List.cons_append]
  refine wpIn_wide.2 ?_
  obtain ⟨k0, k1, k2, k3⟩ := B0.out W (Gr.refl _)
  clear g0 hr1 hr2 hn hev
  by_cases h0 : ev = 0
  · have hn0 : (ev != 0) = false := by simp [h0]
    have HP2 : Hid (Ref.pureR f = (f.slots.isEmpty && (Ir.items f).all fun it => Ref.opPure it.ins)) := by show _ = _; rw [HP.out, if_pos h0, HPB.out]
    have HE0 := Lib.hid h0
    clear h0
    go_wp2_with (first
      | (go_at_call 10; refine (HV.out _ hB0).mono ?_; rintro e w1 ⟨rfl, g1⟩; obtain ⟨l0, l1, l2, l3⟩ := B0.out _ g1)
      | (go_at_call 34; refine (HCA.out _).mono ?_; rintro e w2 ⟨rfl, rfl⟩))
    obtain ⟨W0, hW0⟩ : ∃ W0, w1.alloc (.cells #[.slice Ap f.params.length cp, .int .i64 f.ret, .slice As f.slots.length cs, .slice Ab f.blocks.length cb] 25) = W0 := ⟨_, rfl⟩
    have hgw1 : Gr w w1 := hB0.trans g1
    have hg10 : Gr w1 W0 := by rw [← hW0]; exact (Gr.refl _).alloc _
    have hgw0 : Gr w W0 := hgw1.trans hg10
    have hgr0 : Gr W W0 := g1.trans hg10
    have hsz : W0.heap.size = w1.heap.size + 1 := by rw [← hW0]; simp
    have hbx0 : ∀ o, W0.cell? ⟨w1.heap.size, o, none⟩ = (#[.slice Ap f.params.length cp, .int .i64 f.ret, .slice As f.slots.length cs, .slice Ab f.blocks.length cb] : Array Value)[o]? := by
      intro o; rw [← hW0]; exact cell_of_row _ _ _ _ _ _ (heap_alloc_new w1 _)
    have hsw := hB0.size
    have hww := hgw0.size
    have hs1 := g1.size
    rw [hW0]
    clear l0 l1 l2 l3
    refine range_all (w := w) (f := f) (q := 5) (Bf := w1.heap.size) rfl hf0 hgw0 HBL.out (by omega) (hbx0 0) (hbx0 3) (fun pre Wr => (∀ it ∈ pre, Ref.opPure it.ins = true) ∧ Gr W0 Wr)
      (fun c pre Wr => c = .ret ∧ (∃ it ∈ pre, Ref.opPure it.ins = false) ∧ Below w.heap.size w Wr ∧ Wr.heap[w.heap.size + 1]? = some (.cells #[.bool false] 4 (0, 0)) ∧ Wr.heap[w.heap.size + 2]? = some (.cells #[.int .i64 0] 28 (0, 0)))
      (OwnFrom.and (ownFrom_pure _ _) (ownFrom_gr W0)) (fun c => OwnFrom.and (ownFrom_pure _ _) (OwnFrom.and (ownFrom_pure _ _) (OwnFrom.and (ownFrom_below (Nat.le_refl _) (by omega)) (OwnFrom.and (cells_own _ _ _) (cells_own _ _ _))))) (fun pre Wr h => h.2.size) ⟨fun it h => by simp at h, Gr.refl _⟩ ?hassign ?hbody ?hdone ?hstop
    case hassign =>
      intro l it aa ta ca ct Wr K hK
      simp only [List.setIfInBounds_toArray, List.set_cons_succ, List.set_cons_zero, encV, rowV] at hK ⊢
      gi_wp2
      exact hK
    case hbody =>
      rintro l pre it aa ta ca ct Wr Bx ⟨hok, hg0⟩ hva hvt hmem hlt hBx hrow
      simp only [List.setIfInBounds_toArray, List.set_cons_succ, List.set_cons_zero, encV]
      have hBxl : Bx < Wr.heap.size := (Array.getElem?_eq_some_iff.1 hrow).1
      have HX : Hid (∀ w' o, Gr Wr w' → w'.cell? ⟨Bx, o, none⟩ = (rowV it aa ta ca ct)[o]?) := fun w' o q => (q.cell Bx o hBxl).trans (cell_of_row _ _ _ _ _ _ hrow)
      have x0 : Wr.cell? ⟨Bx, 0, none⟩ = some (.int .i64 it.ins.op) := HX.out _ 0 (Gr.refl _)
      have y1 := R1.out _ (hgr0.trans hg0)
      have y2 := R2.out _ (hgr0.trans hg0)
      have c1 := cell_of_one y1
      have c2 := cell_of_one y2
      have f1 := free_of_one y1
      have f2 := free_of_one y2
      have HMEM := Lib.hid hmem
      clear hmem hlt hrow
      have HNO : Hid (Ref.opPure it.ins = false → ∀ W', W' = (Wr.setCell ⟨w.heap.size + 1, 0, none⟩ (.bool false)).setCell ⟨w.heap.size + 2, 0, none⟩ (.int .i64 0) → KeepsOthers Wr W' ∧ Below w.heap.size w W' ∧ W'.heap[w.heap.size + 1]? = some (.cells #[.bool false] 4 (0, 0)) ∧ W'.heap[w.heap.size + 2]? = some (.cells #[.int .i64 0] 28 (0, 0))) := by
        rintro - W' rfl
        refine ⟨(KeepsOthers.setCell _ _ _).trans (KeepsOthers.setCell _ _ _), ?_, ?_, ?_⟩
        · exact ((hgw0.trans hg0).setCell (by show w.heap.size ≤ w.heap.size + 1; omega) _).setCell (by show w.heap.size ≤ w.heap.size + 2; omega) _
        · exact (heap_setCell_ne _ (by omega)).trans (heap_setCell_at (i := 0) (.bool false) y1)
        · exact heap_setCell_at (i := 0) (.int .i64 0) ((heap_setCell_ne _ (by omega)).trans y2)
      by_cases o1 : it.ins.op = 21
      · have b1 : (it.ins.op == 21) = true := by simp [o1]
        have HPK : Hid (Ref.opPure it.ins = false) := by show _ = _; unfold Ref.opPure; simp [o1]
        clear o1
        gi_wp2
        obtain ⟨q1, q2, q3, q4⟩ := HNO.out HPK.out _ rfl
        exact ⟨q1.from _, rfl, ⟨it, by simp, HPK.out⟩, q2, q3, q4⟩
      · have b1 : (it.ins.op == 21) = false := by simp [o1]
        by_cases o2 : it.ins.op = 23
        · have b2 : (it.ins.op == 23) = true := by simp [o2]
          have HPK : Hid (Ref.opPure it.ins = false) := by show _ = _; unfold Ref.opPure; simp [o2]
          clear o1 o2
          gi_wp2
          obtain ⟨q1, q2, q3, q4⟩ := HNO.out HPK.out _ rfl
          exact ⟨q1.from _, rfl, ⟨it, by simp, HPK.out⟩, q2, q3, q4⟩
        · have b2 : (it.ins.op == 23) = false := by simp [o2]
          by_cases o3 : it.ins.op = 32
          · have b3 : (it.ins.op == 32) = true := by simp [o3]
            have HPK : Hid (Ref.opPure it.ins = false) := by show _ = _; unfold Ref.opPure; simp [o3]
            clear o1 o2 o3
            gi_wp2
            obtain ⟨q1, q2, q3, q4⟩ := HNO.out HPK.out _ rfl
            exact ⟨q1.from _, rfl, ⟨it, by simp, HPK.out⟩, q2, q3, q4⟩
          · have b3 : (it.ins.op == 32) = false := by simp [o3]
            have HPK : Hid (Ref.opPure it.ins = true) := by show _ = _; unfold Ref.opPure; simp [o1, o2, o3]
            clear o1 o2 o3
            gi_wp2
            refine ⟨(KeepsOthers.refl _).from _, Below.refl _ _, ?_, hg0⟩
            intro it' hi'
            rcases List.mem_append.1 hi' with h | h
            · exact hok it' h
            · simp at h; subst h; exact HPK.out
    case hdone =>
      rintro D Wr hD ⟨hok, hg0⟩ hK
      have y1 := R1.out _ (hgr0.trans hg0)
      have y2 := R2.out _ (hgr0.trans hg0)
      have c1 := cell_of_one y1
      have c2 := cell_of_one y2
      have f1 := free_of_one y1
      have f2 := free_of_one y2
      obtain ⟨m0, m1, m2, m3⟩ := B0.out _ (hgr0.trans hg0)
      obtain ⟨bs, hbs⟩ : ∃ bs, ((f.slots.length : Int) == 0) = bs := ⟨_, rfl⟩
      have HT : Hid (Ref.pureR f = bs) := by
        show _ = _
        rw [HP2.out, List.all_eq_true.2 (fun it h => hok it h), Bool.and_true, ← hbs]
        cases f.slots <;> simp; try omega
      have HK := Lib.hid hK
      clear hok hK
      go_wp2
      refine retBE (w0 := w) (B1 := w.heap.size + 1) (B2 := w.heap.size + 2) (b := bs) (e := 0) (t1 := 2) (t2 := 3) rfl (((KeepsOthers.setCell _ _ _).trans (KeepsOthers.setCell _ _ _)).same D _ HK.out rfl) rfl rfl rfl
        ((heap_setCell_ne _ (by omega)).trans (heap_setCell_at (i := 0) (.bool bs) y1)) (heap_setCell_at (i := 0) (.int .i64 0) ((heap_setCell_ne _ (by omega)).trans y2))
        (((hgw0.trans hg0).setCell (by show w.heap.size ≤ w.heap.size + 1; omega) _).setCell (by show w.heap.size ≤ w.heap.size + 2; omega) _) (by omega) ?_
      exact fun w' g => ⟨by rw [HT.out, HE0.out], g⟩
    case hstop =>
      rintro D c pre Wr hD hpre ⟨rfl, ⟨it, hm, hno⟩, hB, hb1, hb2⟩ hK
      have HF : Hid (Ref.pureR f = false) := by show _ = _; rw [HP2.out, Bool.and_eq_false_iff]; exact Or.inr (List.all_eq_false.2 ⟨it, hpre.subset hm, by simp [hno]⟩)
      have HK := Lib.hid hK
      clear hK hm hno
      go_wp2
      refine retBE (w0 := w) (B1 := w.heap.size + 1) (B2 := w.heap.size + 2) (b := false) (e := 0) (t1 := 2) (t2 := 3) rfl HK.out rfl rfl rfl hb1 hb2 hB (by omega) ?_
      exact fun w' g => ⟨by rw [HF.out, HE0.out], g⟩
  · have hn0 : (ev != 0) = true := by simp [h0]
    have HP2 : Hid (Ref.pureR f = false) := by show _ = _; rw [HP.out, if_neg h0]
    clear h0
    go_wp2_with (go_at_call 10; refine (HV.out _ hB0).mono ?_; rintro e w1 ⟨rfl, g1⟩; have x1 := R1.out _ g1; have x2 := R2.out _ g1; have c1 := cell_of_one x1; have c2 := cell_of_one x2; have f1 := free_of_one x1; have f2 := free_of_one x2)
    refine retM rfl (results_be _ _ 2 3 _ _ _ false ev rfl rfl rfl (cell_of_one (t := 4) ?_) (cell_of_one (t := 28) ?_)) ⟨by rw [HP2.out], ?_⟩
    · exact (heap_setCell_ne _ (by omega)).trans (heap_setCell_at (i := 0) (.bool false) x1)
    · exact heap_setCell_at (i := 0) (.int .i64 ev) ((heap_setCell_ne _ (by omega)).trans x2)
    · exact ((hB0.trans g1).setCell (by show w.heap.size ≤ w.heap.size + 1; omega) _).setCell (by show w.heap.size ≤ w.heap.size + 2; omega) _
end Go.Proofs.Ytiadpjhlomhjeaa

namespace Go.Proofs.Ytiadpjhlomhjeaa
open Go.RowKit Go.Shelf

set_option maxRecDepth 100000 in
set_option maxHeartbeats 4000000 in
theorem rIsPure_any (v : Value) (f : Fn) (w : World) (hf : FnAt w.heap.size w v f) (hn : Nice f) :
    Calls Try.prog 15 #[v] w fun e w' => e = .returned (.tuple #[.bool (Ref.pureR f), .int .i64 (Ref.validate f)]) ∧ Gr w w' := by
  have HV : Hid (∀ w1, Gr w w1 → Calls Try.prog 11 #[v] w1 fun e w' => e = .returned (.int .i64 (Ref.validate f)) ∧ Gr w1 w') := fun w1 q => rval_nice v f w1 (hf.gr q) hn
  have HP : Hid (Ref.pureR f = if Ref.validate f = 0 then Ref.pureB f else false) := by show _ = _; rfl
  obtain ⟨vp, vs, vb, rfl, hp, hsl, hb⟩ := hf
  obtain ⟨Ap, cp, rfl, -, -, -⟩ := hp
  obtain ⟨As, cs, rfl, -, -, -⟩ := hsl
  obtain ⟨Ab, cb, rfl, hb1, hb2, hb3⟩ := hb
  have H3 := Lib.hid hb3
  obtain ⟨W, hW⟩ : ∃ W, w.alloc (.cells #[.slice Ap f.params.length cp, .int .i64 f.ret, .slice As f.slots.length cs, .slice Ab f.blocks.length cb] 25) = W := ⟨_, rfl⟩
  have hB0 : Gr w W := by rw [← hW]; exact (Gr.refl w).alloc _
  have g0 : Gr (w.alloc (.cells #[.slice Ap f.params.length cp, .int .i64 f.ret, .slice As f.slots.length cs, .slice Ab f.blocks.length cb] 25)) W := by rw [hW]; exact Gr.refl _
  have hWs : W.heap.size = w.heap.size + 1 := by rw [← hW]; simp
  have B0 : Hid (∀ w', Gr W w' → (w'.cell? ⟨w.heap.size, 0, none⟩ = some (.slice Ap f.params.length cp) ∧ w'.cell? ⟨w.heap.size, 1, none⟩ = some (.int .i64 f.ret) ∧ w'.cell? ⟨w.heap.size, 2, none⟩ = some (.slice As f.slots.length cs) ∧ w'.cell? ⟨w.heap.size, 3, none⟩ = some (.slice Ab f.blocks.length cb))) :=
    fun w' q => ⟨(q.cell _ _ (by omega)).trans (cell_box _ _ 0 g0 rfl), (q.cell _ _ (by omega)).trans (cell_box _ _ 1 g0 rfl), (q.cell _ _ (by omega)).trans (cell_box _ _ 2 g0 rfl), (q.cell _ _ (by omega)).trans (cell_box _ _ 3 g0 rfl)⟩
  obtain ⟨k0, k1, k2, k3⟩ := B0.out W (Gr.refl _)
  obtain ⟨ev, hev⟩ : ∃ e, Ref.validate f = e := ⟨_, rfl⟩
  rw [hev] at HV HP ⊢
  clear hev hn g0 hb3
  by_cases h0 : ev = 0
  · have hn0 : (ev != 0) = false := by simp [h0]
    have HP2 : Hid (Ref.pureR f = Ref.pureB f) := by show _ = _; rw [HP.out, if_pos h0]
    have HE0 := Lib.hid h0
    clear h0
    by_cases hs0 : 0 < f.slots.length
    · have hs1 : (0 : Int) < (f.slots.length : Int) := by omega
      have HF : Hid (Ref.pureB f = false) := by show _ = _; unfold Ref.pureB; cases hsl : f.slots with | nil => (rw [hsl] at hs0; simp at hs0) | cons a b => rfl
      clear hs0
      go_enter Try.func15, Try.ntmps15
      go_wp2_with (go_at_call 11; refine (HV.out _ hB0).mono ?_; rintro e w1 ⟨rfl, g1⟩; obtain ⟨l0, l1, l2, l3⟩ := B0.out _ g1)
      go_ret2
      exact ⟨by rw [HP2.out, HF.out, HE0.out]; rfl, hB0.trans g1⟩
    · have hs1 : (f.slots.length : Int) ≤ 0 := by omega
      have HF : Hid (Ref.pureB f = f.blocks.all fun l => l.all Ref.opPure) := by show _ = _; unfold Ref.pureB; rw [List.eq_nil_of_length_eq_zero (show f.slots.length = 0 by omega)]; rfl
      clear hs0
      go_enter Try.func15, Try.ntmps15
      go_wp2_with (go_at_call 11; refine (HV.out _ hB0).mono ?_; rintro e w1 ⟨rfl, g1⟩; obtain ⟨l0, l1, l2, l3⟩ := B0.out _ g1)
      have hgw1 : Gr w w1 := hB0.trans g1
      clear k0 k1 k2 k3 l0 l1 l2
      go_loop [5, 6, 7] (fun b _ _ => ∃ k : Nat, k ≤ f.blocks.length ∧ b = .int .i64 k ∧ Hid ((f.blocks.all fun l => l.all Ref.opPure) = ((f.blocks.drop k).all fun l => l.all Ref.opPure))) (fun b _ _ => f.blocks.length - (intOf b).toNat)
      case atStart => exact ⟨0, Nat.zero_le _, rfl, rfl⟩
      case round =>
        obtain ⟨k, hk, rfl, hrest⟩ := hrel
        rcases hr : f.blocks.drop k with _ | ⟨l, r⟩
        · have hkn := drop_nil hr hk
          subst hkn
          have HT : Hid (Ref.pureR f = true) := by show _ = _; rw [HP2.out, HF.out, hrest.out, hr]; rfl
          clear hr hrest
          go_wp2
          go_ret2
          exact ⟨by rw [HT.out, HE0.out]; rfl, hgw1⟩
        · obtain ⟨hlt, hl, hr'⟩ := drop_cons hr
          obtain ⟨bb, ob, rfl, hbb, hcells⟩ := H3.out (by omega)
          obtain ⟨u, hu0, hul⟩ := hcells k l hl
          have hu := (hgw1.cell _ _ hbb).trans hu0
          obtain ⟨Al, cl, rfl, hl1, hl2, hl3⟩ := hul
          have HR : Hid ((f.blocks.all fun l => l.all Ref.opPure) = (l.all Ref.opPure && r.all fun l => l.all Ref.opPure)) := by
            show _ = _
            rw [hrest.out, hr]; rfl
          have HR' : Hid (f.blocks.drop (k + 1) = r) := hr'
          clear hr hl hr' hrest hcells hu0
          go_wp2
          go_loop [6, 7] (fun i _ => ∃ j : Nat, j ≤ l.length ∧ i = .int .i64 j ∧ Hid (l.all Ref.opPure = (l.drop j).all Ref.opPure)) (fun i _ => l.length - (intOf i).toNat)
          case atStart => exact ⟨0, Nat.zero_le _, rfl, rfl⟩
          case round =>
            obtain ⟨j, hj, rfl, hrest2⟩ := hrel
            rcases hr2 : l.drop j with _ | ⟨x, r2⟩
            · have hjn := drop_nil hr2 hj
              subst hjn
              have HL0 : Hid (l.all Ref.opPure = true) := by show _ = _; rw [hrest2.out, hr2]; rfl
              clear hr2 hrest2
              go_wp2
              go_round
              case rel => (repeat apply Exists.intro); exact ⟨⟨k + 1, by omega, by go_num, by show _ = _; rw [HR.out, HL0.out, HR'.out]; simp⟩, rfl, rfl, rfl⟩
              case measure => simp [intOf]; omega
            · obtain ⟨hlt2, hx, hr2'⟩ := drop_cons hr2
              obtain ⟨bl, ol, rfl, hbl, hcells2⟩ := hl3 (by omega)
              obtain ⟨va, vt, x00, -⟩ := hcells2 j x hx
              have x0 := (hgw1.cell _ _ hbl).trans x00
              have HR2 : Hid (l.all Ref.opPure = (Ref.opPure x && r2.all Ref.opPure)) := by
                show _ = _
                rw [hrest2.out, hr2]; rfl
              have HR2' : Hid (l.drop (j + 1) = r2) := hr2'
              clear hr2 hx hr2' hrest2 hcells2 hl3 x00
              have HNO : Hid (Ref.opPure x = false → Ref.pureR f = false) := by intro h; rw [HP2.out, HF.out, HR.out, HR2.out, h]; simp
              by_cases o1 : x.op = 21
              · have b1 : (x.op == 21) = true := by simp [o1]
                have HPK : Hid (Ref.pureR f = false) := HNO.out (by unfold Ref.opPure; simp [o1])
                clear o1
                go_wp2
                go_ret2
                exact ⟨by rw [HPK.out, HE0.out]; rfl, hgw1⟩
              · have b1 : (x.op == 21) = false := by simp [o1]
                by_cases o2 : x.op = 23
                · have b2 : (x.op == 23) = true := by simp [o2]
                  have HPK : Hid (Ref.pureR f = false) := HNO.out (by unfold Ref.opPure; simp [o2])
                  clear o1 o2
                  go_wp2
                  go_ret2
                  exact ⟨by rw [HPK.out, HE0.out]; rfl, hgw1⟩
                · have b2 : (x.op == 23) = false := by simp [o2]
                  by_cases o3 : x.op = 32
                  · have b3 : (x.op == 32) = true := by simp [o3]
                    have HPK : Hid (Ref.pureR f = false) := HNO.out (by unfold Ref.opPure; simp [o3])
                    clear o1 o2 o3
                    go_wp2
                    go_ret2
                    exact ⟨by rw [HPK.out, HE0.out]; rfl, hgw1⟩
                  · have b3 : (x.op == 32) = false := by simp [o3]
                    have HPK : Hid (Ref.opPure x = true) := by show _ = _; unfold Ref.opPure; simp [o1, o2, o3]
                    clear o1 o2 o3
                    go_wp2
                    go_round
                    case rel => exact ⟨j + 1, by omega, by go_num, by show _ = _; rw [HR2.out, HPK.out, HR2'.out]; simp⟩
                    case measure => simp [intOf]; omega
  · have hn0 : (ev != 0) = true := by simp [h0]
    have HP2 : Hid (Ref.pureR f = false) := by show _ = _; rw [HP.out, if_neg h0]
    clear h0
    go_enter Try.func15, Try.ntmps15
    go_wp2_with (go_at_call 11; refine (HV.out _ hB0).mono ?_; rintro e w1 ⟨rfl, g1⟩)
    go_ret2
    exact ⟨by rw [HP2.out]; rfl, hB0.trans g1⟩
end Go.Proofs.Ytiadpjhlomhjeaa

namespace Go.Proofs.Ytiadpjhlomhjeaa
open Go.RowKit Go.Shelf

set_option maxRecDepth 100000 in
set_option maxHeartbeats 4000000 in
theorem lawGraphs_any (v : Value) (f : Fn) (w : World) (hf : FnAt w.heap.size w v f) (hn : longFn f = false → Nice f) :
    Calls Try.prog 4 #[v] w fun e w' => e = .returned (.bool true) ∧ Gr w w' := by
  have HL : Hid (∀ w1, Gr w w1 → Calls Try.prog 8 #[v] w1 fun e w' => e = .returned (.bool (longFn f)) ∧ Gr w1 w') := fun w1 q => Long_any v f w1 (hf.gr q)
  have HG : Hid (longFn f = false → ∀ w1, Gr w w1 → Calls Try.prog 12 #[v] w1 fun e w' => ∃ A n c, e = .returned (.tuple #[.slice A n c, .int .i64 (Ref.validate f)]) ∧ Hid (TabAt w'.heap.size w' (.slice A n c) (Ref.graphR f)) ∧ Gr w1 w') := fun h w1 q => Graph_any v f w1 (hf.gr q) (hn h)
  have HRG : Hid (longFn f = false → ∀ w1, Gr w w1 → Calls Try.prog 13 #[v] w1 fun e w' => ∃ A n c, e = .returned (.tuple #[.slice A n c, .int .i64 (Ref.validate f)]) ∧ Hid (TabAt w'.heap.size w' (.slice A n c) (Ref.graphR f)) ∧ Gr w1 w') := fun h w1 q => rGraph_any v f w1 (hf.gr q) (hn h)
  have HI : Hid (longFn f = false → ∀ w1, Gr w w1 → Calls Try.prog 14 #[v] w1 fun e w' => e = .returned (.tuple #[.bool (Ref.pureR f), .int .i64 (Ref.validate f)]) ∧ Gr w1 w') := fun h w1 q => IsPure_any v f w1 (hf.gr q) (hn h)
  have HRI : Hid (longFn f = false → ∀ w1, Gr w w1 → Calls Try.prog 15 #[v] w1 fun e w' => e = .returned (.tuple #[.bool (Ref.pureR f), .int .i64 (Ref.validate f)]) ∧ Gr w1 w') := fun h w1 q => rIsPure_any v f w1 (hf.gr q) (hn h)
  have HS : Hid (∀ w1 va vb, TabAt (World.heap w1).size w1 va (Ref.graphR f) → TabAt w1.heap.size w1 vb (Ref.graphR f) → Calls Try.prog 16 #[va, vb] w1 fun e w' => e = .returned (.bool true) ∧ Gr w1 w') := by
    intro w1 va vb h1 h2
    have := SameTables_any va vb _ _ w1 h1 h2
    simpa using this
  have HKN : Hid (∀ w1, Calls Try.prog 9 #[] w1 fun e w' => e = .returned (.bool true) ∧ Gr w1 w') := known_any
  obtain ⟨vp, vs, vb, rfl, hp, hsl, hb⟩ := hf
  obtain ⟨Ap, cp, rfl, hp1, hp2, -⟩ := hp
  obtain ⟨As, cs, rfl, hs1, hs2, -⟩ := hsl
  obtain ⟨Ab, cb, rfl, hb1, hb2, -⟩ := hb
  obtain ⟨W, hW⟩ : ∃ W, w.alloc (.cells #[.slice Ap f.params.length cp, .int .i64 f.ret, .slice As f.slots.length cs, .slice Ab f.blocks.length cb] 25) = W := ⟨_, rfl⟩
  have hB0 : Gr w W := by rw [← hW]; exact (Gr.refl w).alloc _
  have g0 : Gr (w.alloc (.cells #[.slice Ap f.params.length cp, .int .i64 f.ret, .slice As f.slots.length cs, .slice Ab f.blocks.length cb] 25)) W := by rw [hW]; exact Gr.refl _
  have hWs : W.heap.size = w.heap.size + 1 := by rw [← hW]; simp
  have B0 : Hid (∀ w', Gr W w' → (w'.cell? ⟨w.heap.size, 0, none⟩ = some (.slice Ap f.params.length cp) ∧ w'.cell? ⟨w.heap.size, 1, none⟩ = some (.int .i64 f.ret) ∧ w'.cell? ⟨w.heap.size, 2, none⟩ = some (.slice As f.slots.length cs) ∧ w'.cell? ⟨w.heap.size, 3, none⟩ = some (.slice Ab f.blocks.length cb))) :=
    fun w' q => ⟨(q.cell _ _ (by omega)).trans (cell_box _ _ 0 g0 rfl), (q.cell _ _ (by omega)).trans (cell_box _ _ 1 g0 rfl), (q.cell _ _ (by omega)).trans (cell_box _ _ 2 g0 rfl), (q.cell _ _ (by omega)).trans (cell_box _ _ 3 g0 rfl)⟩
  obtain ⟨k0, k1, k2, k3⟩ := B0.out W (Gr.refl _)
  obtain ⟨e, he⟩ : ∃ e, Ref.validate f = e := ⟨_, rfl⟩
  obtain ⟨pr, hpr⟩ : ∃ pr, Ref.pureR f = pr := ⟨_, rfl⟩
  obtain ⟨lg, hlg⟩ : ∃ lg, longFn f = lg := ⟨_, rfl⟩
  rw [he] at HG HRG HI HRI
  rw [hpr] at HI HRI
  rw [hlg] at HL HG HRG HI HRI
  clear he hlg hn g0 hpr
  cases lg with
  | true =>
    go_enter Try.func4, Try.ntmps4
    go_wp2_with (first
      | (go_at_call 8; refine (HL.out _ hB0).mono ?_; rintro e w1 ⟨rfl, g1⟩)
      | (go_at_call 9; refine (HKN.out _).mono ?_; rintro e w2 ⟨rfl, g2⟩))
    go_ret
    exact ⟨rfl, hB0.trans (g1.trans g2)⟩
  | false =>
    have HG1 := Lib.hid (HG.out rfl)
    have HRG1 := Lib.hid (HRG.out rfl)
    have HI1 := Lib.hid (HI.out rfl)
    have HRI1 := Lib.hid (HRI.out rfl)
    have hee : (e == e) = true := by simp
    have hpp : (pr == pr) = true := by simp
    clear HG HRG HI HRI
    go_enter Try.func4, Try.ntmps4
    go_wp2_with (first
      | (go_at_call 8; refine (HL.out _ hB0).mono ?_; rintro e1 w1 ⟨rfl, g1⟩; obtain ⟨l0, l1, l2, l3⟩ := B0.out _ g1)
      | (go_at_call 12; refine (HG1.out _ (hB0.trans g1)).mono ?_; rintro e2 w2 ⟨A2, n2, c2, rfl, T2, g2⟩; have q2 := g1.trans g2; obtain ⟨m0, m1, m2, m3⟩ := B0.out _ q2)
      | (go_at_call 13; refine (HRG1.out _ (hB0.trans q2)).mono ?_; rintro e3 w3 ⟨A3, n3, c3, rfl, T3, g3⟩; have q3 := q2.trans g3; obtain ⟨i0, i1, i2, i3⟩ := B0.out _ q3)
      | (go_at_call 14; refine (HI1.out _ (hB0.trans q3)).mono ?_; rintro e4 w4 ⟨rfl, g4⟩; have q4 := q3.trans g4; obtain ⟨j0, j1, j2, j3⟩ := B0.out _ q4)
      | (go_at_call 15; refine (HRI1.out _ (hB0.trans q4)).mono ?_; rintro e5 w5 ⟨rfl, g5⟩; have q5 := q4.trans g5)
      | (go_at_call 16; refine (HS.out _ _ _ (T2.out.gr (g3.trans (g4.trans g5))) (T3.out.gr (g4.trans g5))).mono ?_; rintro e6 w6 ⟨rfl, g6⟩; have q6 := q5.trans g6)
      | (go_at_call 9; refine (HKN.out _).mono ?_; rintro e7 w7 ⟨rfl, g7⟩; have q7 := q6.trans g7))
    all_goals go_ret
    all_goals exact ⟨ret_bool (by simp), hB0.trans q7⟩
end Go.Proofs.Ytiadpjhlomhjeaa

namespace Go.Proofs.Ytiadpjhlomhjeaa.graphs
open Go.ChangeShapes Go.WideShapes Go.ChangeAt Go.RowKit
set_option linter.unusedVariables false

theorem own : ownKnob Try.prog.godebug = none := by kernel_rfl
theorem laidOut : laidOutB Try.prog = true := by kernel_rfl

set_option maxRecDepth 100000 in
theorem lifted (os : Os) (started : os.Started) (H : Type) (enc : TypeId × Value → H) :
    ReturnsInHanded {} Try.checked os 4 .any (Rows.irGraphsSpec.pre6 enc Try.prog Try.f4 Rows.irGraphsRow.domain false) (Rows.irGraphsSpec.post enc Try.prog Try.f4 false true false false) := by
  refine returnsInHanded_of_change_sized (C := Try.checked) own started (by kernel_rfl) Try.func4
    (ChangeSpec.witness6 (enc := enc) (C := Try.checked) false ⟨#[], #[.agg #[.slice none 0 0, .int .i64 0, .slice none 0 0, .slice none 0 0]], []⟩ 8 (by kernel_rfl) (by kernel_rfl) (by kernel_rfl) (by kernel_rfl)) ?_
  intro W base args ds gs before hval0 hW hcnd0 hsz0 _
  have hval : ∀ (j : Nat) t v, (Try.f4).params[j]? = some t → args[j]? = some v → Value.okWide Try.prog W .any base t v := hval0
  have hsz : (DataW.weightsEach Try.prog ((Try.f4).params.toList ++ Rows.irGraphsSpec.plain.varTypes Try.prog) (ds ++ gs)).all (· ≤ reachBytes) = true := hsz0
  have hW' := hW
  obtain ⟨p, q, hA0, hV, rfl, hfz, hnd⟩ := hW
  have hA : DataW.TrodAll enc Try.prog W 0 (fun _ => true) true (Try.f4).params.toList args.toList ds p := hA0
  rw [Try.params4] at hA hval hsz
  obtain ⟨v0, vs0, d0, ds0, p0, q0, hargs, rfl, rfl, h0, r0⟩ := trodAll_cons hA
  obtain ⟨rfl, rfl, rfl⟩ := trodAll_nil r0
  obtain rfl : args = #[v0] := by cases args; simp_all
  obtain ⟨rfl, rfl⟩ := trodVars_none hV
  have k0 := h0
  have lt0 : ∀ x ∈ p0, x.block < W.heap.size := by obtain ⟨m, hm⟩ := k0; exact DataW.trod_lt m _ _ _ hm
  obtain ⟨f, hf, hs⟩ := fn_open (hval 0 25 v0 rfl rfl) h0 (fun m hm => by
    have := List.all_eq_true.1 hsz m (DataW.weights_mem_each (j := 0) (t := 25) rfl rfl m hm)
    simpa using this)
  clear hA0 hval0 hsz0 hcnd0
  refine (lawGraphs_any v0 f W hf (nice_of hs)).mono fun e W' ⟨he, bel⟩ => ?_
  subst he
  exact ⟨_, rfl, _, _, _, [], _, [], hW', trodAll_mk1 (shut_bool Try.underlying4 _), (trodAll_cons_mk (Below.trod laidOut (by kernel_rfl) (of_decide_eq_true (by kernel_rfl)) k0 bel lt0) trodAll_mk0), rfl, bel.frame _, fun h => by cases h⟩

theorem over : Rows.irGraphsRow.holds Try.pinned (OpenSpec.ofChange Rows.irGraphsSpec) :=
  OpenClaim.holds_of_wide 4 Try.f4 rfl rfl rfl rfl rfl rfl rfl ⟨rfl, rfl, rfl, rfl, rfl⟩ rfl rfl rfl rfl rfl (by kernel_rfl) Try.func4 (by kernel_rfl)
    (of_decide_eq_true (by kernel_rfl)) (by unfold Func.isWrapper; first | (rw [if_pos (by decide +kernel)]; kernel_rfl) | (rw [if_neg (by decide +kernel)]; exact ⟨rfl, rfl⟩))
    (fun os started H enc _ => lifted os started H enc)

/-- THE STATEMENT. -/
theorem proved : Rows.IrGraphsSaid := over
#print axioms proved
end Go.Proofs.Ytiadpjhlomhjeaa.graphs

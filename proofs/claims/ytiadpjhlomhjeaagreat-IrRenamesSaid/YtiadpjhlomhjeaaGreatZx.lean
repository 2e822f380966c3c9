/- changed of the program. -/
import Derived.Test.YtiadpjhlomhjeaaGreatZp
import Derived.Maps.OwnSet
import Derived.Test.YtiadpjhlomhjeaaGreatZw
import Derived.Test.YtiadpjhlomhjeaaGreatShelfZ
import Derived.Deep.DeepCutAuto
import Derived.Test.YtiadpjhlomhjeaaGreatZv

namespace Go.Proofs.YtiadpjhlomhjeaaGreat
open Go.RowKit Go.Maps
set_option linter.unusedVariables false

def Word (k : Int) : Prop := -9223372036854775808 ≤ k ∧ k ≤ 9223372036854775807
theorem Word.wf {k : Int} (h : Word k) : (Lit.int .i64 k).wf = true := by
  obtain ⟨h1, h2⟩ := h
  simp [Lit.wf, show IntKind.i64.min = -9223372036854775808 from rfl, show IntKind.i64.max = 9223372036854775807 from rfl]
  omega
theorem keyed_int : Keyed Tryz.prog 3 := int_keyed Tryz.underlying3
/-- Block r is a map of at most n entries that holds M. -/
def MapAt (r n : Nat) (w : World) (M : Int → Option Int) : Prop :=
  ∃ D : DataW Unit, w.ownsMap Tryz.prog 3 (plainElem Tryz.prog 3) r n D ∧ ∀ k, Word k → Maps.has D (.int .i64 k) = (M k).isSome ∧ D.atKey (.int .i64 k) (.lit (.int .i64 0)) = .lit (.int .i64 ((M k).getD 0))
section
variable {r n : Nat} {w w' : World} {M : Int → Option Int}
theorem MapAt.made (w : World) : MapAt w.heap.size 0 (w.alloc (.map #[] 0)) fun _ => none :=
  ⟨_, World.ownsMap_made _ _ _ _, fun k _ => ⟨rfl, rfl⟩⟩
theorem MapAt.ob (h : MapAt r n w M) : ∃ es clock, w.heap[r]? = some (.map es clock) := by
  obtain ⟨D, ⟨es, clock, hb, -⟩, -⟩ := h
  exact ⟨es, clock, hb⟩
theorem MapAt.same (h : MapAt r n w M) (hs : ∀ o, w.heap[r]? = some o → o.isCells = false → w'.heap[r]? = some o) : MapAt r n w' M := by
  obtain ⟨D, ⟨es, clock, hb, hr⟩, h2⟩ := h
  exact ⟨D, ⟨es, clock, hs _ hb rfl, hr⟩, h2⟩
theorem MapAt.gr (h : MapAt r n w M) (g : Gr w w') : MapAt r n w' M := h.same fun o hb _ => (g.heap _ (Array.getElem?_eq_some_iff.1 hb).1).trans hb
theorem MapAt.keeps (h : MapAt r n w M) (g : KeepsOthers w w') : MapAt r n w' M := h.same fun o hb ho => g.same _ _ hb ho
theorem MapAt.lt (h : MapAt r n w M) : r < w.heap.size := by
  obtain ⟨D, h1, -⟩ := h
  exact h1.lt
theorem zero_int (w : World) : (zeroValue 3).run Tryz.prog w = .ok (.int .i64 0) w := by kernel_rfl
theorem MapAt.look (h : MapAt r n w M) {k : Int} (hk : Word k) : (Instr.lookup 69 (.map (some r)) (.int .i64 k) false).run Tryz.prog w = .ok (.int .i64 ((M k).getD 0)) w := by
  obtain ⟨D, h1, h2⟩ := h
  obtain ⟨c, hr, hc, -⟩ := h1.lookup_int keyed_int Tryz.underlying69 Tryz.underlying3 (zero_int w) (keyOf_int_mk Tryz.underlying3 hk.wf)
  rw [(h2 k hk).2] at hc
  have : (M k).getD 0 = c := by simpa using hc
  rw [this]; exact hr
theorem MapAt.look2 (h : MapAt r n w M) {k : Int} (hk : Word k) : (Instr.lookup 69 (.map (some r)) (.int .i64 k) true).run Tryz.prog w = .ok (.tuple #[.int .i64 ((M k).getD 0), .bool (M k).isSome]) w := by
  obtain ⟨D, h1, h2⟩ := h
  obtain ⟨v, ps, hr, hv⟩ := h1.look_ok keyed_int Tryz.underlying69 (zero_int w) (plainElem_int Tryz.underlying3 (by decide)) (keyOf_int_mk Tryz.underlying3 hk.wf)
  obtain ⟨c, rfl, hc, -⟩ := plainElem_int_inv Tryz.underlying3 hv
  have hc := congrArg Prod.fst hc
  simp only [(h2 k hk).2] at hc
  have : (M k).getD 0 = c := by simpa using hc
  rw [this, ← (h2 k hk).1]; exact hr
/-- 'm[k] = v'. -/
theorem MapAt.store {ops : Array Oper} {rest : List Oper} {o : Oper} {a : Act} {Q : Exit → Act → World → Prop} (h : MapAt r n w M) (hn : n ≤ 1000000) (k v : Int) (hk : Word k) (hv : Word v)
    (hg : o.guard = none) (m x y : Operand) (hop : o.op = Op.mapUpdate 69 m x y) (hm : a.eval m = .map (some r)) (hx : a.eval x = .int .i64 k) (hy : a.eval y = .int .i64 v)
    (hK : ∀ w', MapAt r (n + 1) w' (fun j => if j = k then some v else M j) → w.grownBy w' (some r) → wpList Tryz.prog ops Q rest (a.put o.dst undef) w') :
    wpList Tryz.prog ops Q (o :: rest) a w := by
  obtain ⟨D, h1, h2⟩ := h
  refine wpList_mapUpdate_own _ hg m x y 69 hop 3 3 keyed_int Tryz.underlying69 _ r n D hm h1 (by unfold maxLen; omega) _ _ (.int .i64 k) hx hy (keyOf_int_mk Tryz.underlying3 hk.wf) (.lit (.int .i64 v)) [] (plainElem_int Tryz.underlying3 hv.wf) ?_
  intro w' o1 g1
  refine hK w' ⟨_, o1, fun j hj => ?_⟩ g1
  have hM := h1.isMap
  have hkl : WideAt.IsKeyLit (.int .i64 k) := trivial
  show _ = (if j = k then some v else M j).isSome ∧ _ = DataW.lit (.int .i64 ((if j = k then some v else M j).getD 0))
  by_cases e : j = k
  · subst e
    rw [if_pos rfl]
    exact ⟨has_put_same hM hkl _, atKey_put_same hM hkl _ _⟩
  · have hne : (Lit.int .i64 j) ≠ .int .i64 k := fun q => by injection q with _ q; exact e q
    rw [if_neg e, has_put_other hne, atKey_put_other hne]
    exact h2 j hj
end
end Go.Proofs.YtiadpjhlomhjeaaGreat

namespace Go.Proofs.YtiadpjhlomhjeaaGreat
set_option linter.unusedSimpArgs false
set_option linter.unusedVariables false
open Go.RowKit

/-- What a map of numbers says at a key. -/
def mg (M : Int → Option Int) (z : Int) : Int := (M z).getD 0
set_option maxRecDepth 100000 in
set_option maxHeartbeats 8000000 in
theorem changed_no (x : Ins) (v : Value) (rv rb nv nb : Nat) (MV MB : Int → Option Int) (w : World) (hx : InsV w.heap.size w v x) (hmv : MapAt rv nv w MV) (hmb : MapAt rb nb w MB) (ho : x.op ≠ 28)
    (ha : ∀ z ∈ x.args, Word z) (hto : ∀ z ∈ x.to, Word z) (hl1 : x.args.length ≤ 100000) (hl2 : x.to.length ≤ 100000) :
    Calls Tryz.prog 37 #[v, .map (some rv), .map (some rb)] w fun e w' => ∃ A3 c3 A4 c4, e = .returned (.agg #[.int .i64 x.op, .int .i64 x.width, .int .i64 x.flags, .slice A3 x.args.length c3, .int .u32 x.imm, .slice A4 x.to.length c4]) ∧ Hid (TI w.heap.size w' (.slice A3 x.args.length c3) (x.args.map (mg MV)) ∧ TI w.heap.size w' (.slice A4 x.to.length c4) (x.to.map (mg MB))) ∧ Gr w w' := by
  obtain ⟨va, vo, rfl, hxa, hxt⟩ := hx
  obtain ⟨W, hW⟩ : ∃ W, (w.alloc (.cells (insVal x va vo).cells 38)).alloc (.cells #[.int .i64 0, .int .i64 0, .int .i64 0, .slice none 0 0, .int .u32 0, .slice none 0 0] 38) = W := ⟨_, rfl⟩
  have hB0 : Gr w W := by rw [← hW]; exact ((Gr.refl w).alloc _).alloc _
  have hWs : W.heap.size = w.heap.size + 2 := by rw [← hW]; simp
  obtain ⟨Aa, ca, rfl, a1, a2, a3⟩ := hxa
  obtain ⟨At, ct, rfl, t1, t2, t3⟩ := hxt
  have hr0 : W.heap[w.heap.size]? = some (.cells #[.int .i64 x.op, .int .i64 x.width, .int .i64 x.flags, .slice Aa x.args.length ca, .int .u32 x.imm, .slice At x.to.length ct] 38 (0, 0)) := by
    rw [← hW]; exact (((Gr.refl _).alloc _).heap _ (by simp)).trans (heap_alloc_new w _)
  have hr1 : W.heap[w.heap.size + 1]? = some (.cells #[.int .i64 0, .int .i64 0, .int .i64 0, .slice none 0 0, .int .u32 0, .slice none 0 0] 38 (0, 0)) := by
    rw [← hW]; exact heap_alloc2_new w _ _
  have k0 := cell_of_row _ _ 0 _ _ _ hr0
  have k1 := cell_of_row _ _ 1 _ _ _ hr0
  have k2 := cell_of_row _ _ 2 _ _ _ hr0
  have k3 := cell_of_row _ _ 3 _ _ _ hr0
  have k4 := cell_of_row _ _ 4 _ _ _ hr0
  have k5 := cell_of_row _ _ 5 _ _ _ hr0
  have cop : (x.op != 28) = true := by simpa using ho
  unfold insVal at hW ⊢
  simp only [Value.cells] at hW
  have R0 : Hid (∀ w', Gr W w' → w'.heap[w.heap.size]? = some (.cells #[.int .i64 x.op, .int .i64 x.width, .int .i64 x.flags, .slice Aa x.args.length ca, .int .u32 x.imm, .slice At x.to.length ct] 38 (0, 0))) := fun w' q => (q.heap _ (by omega)).trans hr0
  have R1 : Hid (∀ w', Gr W w' → w'.heap[w.heap.size + 1]? = some (.cells #[.int .i64 0, .int .i64 0, .int .i64 0, .slice none 0 0, .int .u32 0, .slice none 0 0] 38 (0, 0))) := fun w' q => (q.heap _ (by omega)).trans hr1
  have HA : Hid (∀ z ∈ x.args, Word z) := ha
  have HTO : Hid (∀ z ∈ x.to, Word z) := hto
  have HMV := Lib.hid hmv
  have HMB := Lib.hid hmb
  have A3 : Hid (0 < x.args.length → ∃ b off, Aa = some ⟨b, off, none⟩ ∧ b < w.heap.size ∧ ∀ j z, x.args[j]? = some z → w.cell? ⟨b, off + j, none⟩ = some (.int .i64 z)) := a3
  have T3 : Hid (0 < x.to.length → ∃ b off, At = some ⟨b, off, none⟩ ∧ b < w.heap.size ∧ ∀ j z, x.to[j]? = some z → w.cell? ⟨b, off + j, none⟩ = some (.int .i64 z)) := t3
  have HB0 := Lib.hid hB0
  obtain ⟨V, hV⟩ : ∃ V, W.alloc (.cells #[.int .i64 0, .int .i64 0, .int .i64 0, .slice none 0 0, .int .u32 0, .slice none 0 0] 38) = V := ⟨_, rfl⟩
  have hv0 : V.heap[W.heap.size]? = some (.cells #[.int .i64 0, .int .i64 0, .int .i64 0, .slice none 0 0, .int .u32 0, .slice none 0 0] 38 (0, 0)) := by rw [← hV]; exact heap_alloc_new W _
  have hgV : Gr W V := by rw [← hV]; exact (Gr.refl W).alloc _
  obtain ⟨⟨v0, v1, v2, v3, v4, v5⟩, f0, f1, f2, f3, f4, f5⟩ := six_facts hv0
  have HV0 := Lib.hid hv0
  have HGV := Lib.hid hgV
  obtain ⟨V1, hV1⟩ : ∃ V1, ((((((V.setCell ⟨W.heap.size, 0, none⟩ (.int .i64 x.op)).setCell ⟨W.heap.size, 1, none⟩ (.int .i64 x.width)).setCell ⟨W.heap.size, 2, none⟩ (.int .i64 x.flags)).setCell ⟨W.heap.size, 3, none⟩ (.slice Aa x.args.length ca)).setCell ⟨W.heap.size, 4, none⟩ (.int .u32 x.imm)).setCell ⟨W.heap.size, 5, none⟩ (.slice At x.to.length ct)) = V1 := ⟨_, rfl⟩
  have hs1 := six_stores HV0.out (.int .i64 x.op) (.int .i64 x.width) (.int .i64 x.flags) (.slice Aa x.args.length ca) (.int .u32 x.imm) (.slice At x.to.length ct)
  rw [hV1] at hs1
  have HS1 := Lib.hid hs1
  have HG1 : Hid (Gr W V1) := by
    show Gr W V1
    rw [← hV1]
    iterate 6 refine Gr.setCell ?_ (Nat.le_refl _) _
    exact HGV.out
  obtain ⟨V2, hV2⟩ : ∃ V2, (V1.setCell ⟨W.heap.size, 3, none⟩ (.slice none 0 0)).setCell ⟨W.heap.size, 5, none⟩ (.slice none 0 0) = V2 := ⟨_, rfl⟩
  have HY0 : Hid (YI W W.heap.size x.op x.width x.flags x.imm (.slice none 0 0) (.slice none 0 0) [] [] V2) := by
    rw [← hV2]
    refine YI.start ?_ (by simpa using heap_setCell_at (i := 5) (.slice none 0 0) (heap_setCell_at (i := 3) (.slice none 0 0) HS1.out)) (Nat.le_refl _)
    exact (HG1.out.setCell (Nat.le_refl _) _).setCell (Nat.le_refl _) _
  have HWS := Lib.hid hWs
  clear hr0 hr1 ha hto a3 t3 hB0 hv0 hgV hWs hs1 hmv hmb
  have HV1 := Lib.hid hV1
  have HV2 := Lib.hid hV2
  clear hV1 hV2
  go_enter Tryz.func37, Tryz.ntmps37
  go_upto_region 2 with (fail)
  rw [HV1.out]
  clear v0 v1 v2 v3 v4 v5 f0 f1 f2 f3 f4 f5 k0 k1 k2 k3 k4 k5
  obtain ⟨⟨-, -, -, u3, -, u5⟩, -, -, -, g3, -, g5⟩ := six_facts HS1.out
  go_upto_region 3 with (fail)
  rw [HV2.out]
  clear g3 g5 u3 u5
  obtain ⟨⟨k0, k1, k2, k3, k4, k5⟩, -⟩ := six_facts (R0.out _ HY0.out.gr)
  go_wp2_with (fail)
  go_loopw [28] (fun i wr => ∃ (k : Nat) (va : Value) (L : List Int), k ≤ x.args.length ∧ i = .int .i64 k ∧ Hid (L = (x.args.take k).map (mg MV)) ∧ Hid (YI W W.heap.size x.op x.width x.flags x.imm va (.slice none 0 0) L [] wr)) (fun i _ => x.args.length - (intOf i).toNat)
  case atStart => exact ⟨0, _, [], Nat.zero_le _, rfl, Lib.hid (by simp), HY0⟩
  case round =>
    clear k0 k1 k2 k3 k4 k5
    obtain ⟨k, va, L, hk, rfl, HL, HI⟩ := hrel
    obtain ⟨Av, cv, rfl⟩ := HI.out.form3
    obtain ⟨⟨-, -, -, y3, -, -⟩, -⟩ := HI.out.cells
    by_cases hlt : k < x.args.length
    · obtain ⟨z, hz⟩ : ∃ z, x.args[k]? = some z := ⟨_, List.getElem?_eq_getElem hlt⟩
      obtain ⟨ba, oa, rfl, hba, hca⟩ := A3.out (by omega)
      have hzr := HA.out z (List.mem_of_getElem? hz)
      have hgw := HB0.out.trans HI.out.gr
      have l0 := (hgw.cell _ _ hba).trans (hca k z hz)
      have l1 := (HMV.out.gr hgw).look hzr
      have HM : Hid (L ++ [mg MV z] = (x.args.take (k + 1)).map (mg MV)) := by show _ = _; rw [HL.out]; exact (map_take_snoc _ hz).symm
      obtain ⟨y, hy⟩ : ∃ y, (MV z).getD 0 = y := ⟨_, rfl⟩
      rw [hy] at l1
      unfold mg at HM
      rw [hy] at HM
      have z0 : (0 : Int) ≤ (k : Int) := by omega
      have z1 : (k : Int) < (x.args.length : Int) := by omega
      have HLL : Hid (L.length ≤ 1000000) := by show _ ≤ _; rw [HL.out, List.length_map, List.length_take]; omega
      clear hz hca hy hlt hgw hzr
      go_wp2_with (at_builtin; refine YI.app3 HI.out y rfl (.tmp 33) (.tmp 37) rfl rfl rfl HLL.out ?_; intro g c w1 hb1 hy1; obtain ⟨⟨q0, q1, q2, q3, q4, q5⟩, p0, p1, p2, p3, p4, p5⟩ := six_facts hb1; have HY1 := Lib.hid hy1; clear hy1 hb1)
      go_roundw
      case rel => exact ⟨k + 1, _, L ++ [y], by omega, by go_num, HM, HY1⟩
      case measure => simp [intOf] <;> omega
    · obtain rfl : k = x.args.length := by omega
      have HLA : Hid (L = x.args.map (mg MV)) := by show _ = _; rw [HL.out, List.take_length]
      have HI0 := HI
      clear HL y3
      obtain ⟨va, hva⟩ : ∃ va, Value.slice Av L.length cv = va := ⟨_, rfl⟩
      rw [hva] at HI0
      clear hva
      obtain ⟨⟨k0, k1, k2, k3, k4, k5⟩, -⟩ := six_facts (R0.out _ HI.out.gr)
      clear HI
      go_wp2_with (fail)
      go_loopw [44] (fun i wr => ∃ (k : Nat) (vt : Value) (T : List Int), k ≤ x.to.length ∧ i = .int .i64 k ∧ Hid (T = (x.to.take k).map (mg MB)) ∧ Hid (YI W W.heap.size x.op x.width x.flags x.imm va vt L T wr)) (fun i _ => x.to.length - (intOf i).toNat)
      case atStart => exact ⟨0, _, [], Nat.zero_le _, rfl, Lib.hid (by simp), HI0⟩
      case round =>
        clear k0 k1 k2 k3 k4 k5
        obtain ⟨k, vt, T, hk, rfl, HT, HI⟩ := hrel
        obtain ⟨Aw, cw, rfl⟩ := HI.out.form5
        obtain ⟨Av', cv', rfl⟩ := HI.out.form3
        obtain ⟨⟨y0, y1, y2, y3, y4, y5⟩, -⟩ := HI.out.cells
        by_cases hlt : k < x.to.length
        · obtain ⟨z, hz⟩ : ∃ z, x.to[k]? = some z := ⟨_, List.getElem?_eq_getElem hlt⟩
          obtain ⟨ba, oa, rfl, hba, hca⟩ := T3.out (by omega)
          have hzr := HTO.out z (List.mem_of_getElem? hz)
          have hgw := HB0.out.trans HI.out.gr
          have l0 := (hgw.cell _ _ hba).trans (hca k z hz)
          have l1 := (HMB.out.gr hgw).look hzr
          have HM : Hid (T ++ [mg MB z] = (x.to.take (k + 1)).map (mg MB)) := by show _ = _; rw [HT.out]; exact (map_take_snoc _ hz).symm
          obtain ⟨y, hy⟩ : ∃ y, (MB z).getD 0 = y := ⟨_, rfl⟩
          rw [hy] at l1
          unfold mg at HM
          rw [hy] at HM
          have z0 : (0 : Int) ≤ (k : Int) := by omega
          have z1 : (k : Int) < (x.to.length : Int) := by omega
          have HLL : Hid (T.length ≤ 1000000) := by show _ ≤ _; rw [HT.out, List.length_map, List.length_take]; omega
          clear hz hca hy hlt hgw hzr y0 y1 y2 y3 y4
          go_wp2_with (at_builtin; refine YI.app5 HI.out y rfl (.tmp 49) (.tmp 53) rfl rfl rfl HLL.out ?_; intro g c w1 hb1 hy1; obtain ⟨⟨q0, q1, q2, q3, q4, q5⟩, p0, p1, p2, p3, p4, p5⟩ := six_facts hb1; have HY1 := Lib.hid hy1; clear hy1 hb1)
          go_roundw
          case rel => exact ⟨k + 1, _, T ++ [y], by omega, by go_num, HM, HY1⟩
          case measure => simp [intOf] <;> omega
        · obtain rfl : k = x.to.length := by omega
          have HTA : Hid (T = x.to.map (mg MB)) := by show _ = _; rw [HT.out, List.take_length]
          clear HT
          have HRQ := Lib.hid (R1.out _ HI.out.gr)
          obtain ⟨⟨r0, r1, r2, r3, r4, r5⟩, g0, g1, g2, g3, g4, g5⟩ := six_facts HRQ.out
          go_wp2_with (fail)
          refine bodyPost_ret (results_inst _ _ 6 _ (w.heap.size + 1) _ _ _ _ _ _ _ rfl rfl (six_stores HRQ.out _ _ _ _ _ _) ⟨_, rfl⟩ ⟨_, rfl⟩ ⟨_, rfl⟩ ⟨_, _, _, rfl⟩ ⟨_, rfl⟩ ⟨_, _, _, rfl⟩) rfl ?_
          have e1 : L.length = x.args.length := by rw [HLA.out, List.length_map]
          have e2 : T.length = x.to.length := by rw [HTA.out, List.length_map]
          obtain ⟨ta, tt⟩ := HI.out.ti (by omega) (by omega)
          have ta' := (six_kt HRQ.out ta (by decide) (.int .i64 x.op) (.int .i64 x.width) (.int .i64 x.flags) (.slice Av' L.length cv') (.int .u32 x.imm) (.slice Aw T.length cw)).lower (n₀ := w.heap.size) (by have := HWS.out; omega)
          have tt' := (six_kt HRQ.out tt (by decide) (.int .i64 x.op) (.int .i64 x.width) (.int .i64 x.flags) (.slice Av' L.length cv') (.int .u32 x.imm) (.slice Aw T.length cw)).lower (n₀ := w.heap.size) (by have := HWS.out; omega)
          rw [HLA.out] at ta'
          rw [HTA.out] at tt'
          refine ⟨Av', cv', Aw, cw, by rw [e1, e2], ⟨?_, ?_⟩, ?_⟩
          · simpa [e1, e2, HLA.out, HTA.out] using ta'
          · simpa [e1, e2, HLA.out, HTA.out] using tt'
          · iterate 6 refine Gr.setCell ?_ (by show w.heap.size ≤ w.heap.size + 1; omega) _
            exact HB0.out.trans HI.out.gr
end Go.Proofs.YtiadpjhlomhjeaaGreat

namespace Go.Proofs.YtiadpjhlomhjeaaGreat
set_option linter.unusedSimpArgs false
set_option linter.unusedVariables false
open Go.RowKit Go.Sort Go.Shelf

theorem info_pair : (Tryz.prog.info? 95).map (fun i => (i.zero, i.size, i.bytes)) = some (some (.agg #[.int .i64 0, .int .i64 0]), 2, 16) := by kernel_rfl
def prCells (ps : List (Int × Int)) : List Value := ps.flatMap fun p => [.int .i64 p.1, .int .i64 p.2]
theorem prCells_len : ∀ ps : List (Int × Int), (prCells ps).length = ps.length * 2
  | [] => rfl
  | p :: r => by
    have := prCells_len r
    unfold prCells at *
    rw [List.flatMap_cons, List.length_append, this]; simp; omega
theorem prCells_get : ∀ (ps : List (Int × Int)) (j : Nat) (p : Int × Int), ps[j]? = some p → (prCells ps)[j * 2]? = some (.int .i64 p.1) ∧ (prCells ps)[j * 2 + 1]? = some (.int .i64 p.2)
  | [], j, p, h => by simp at h
  | q :: r, 0, p, h => by simp at h; subst h; exact ⟨rfl, rfl⟩
  | q :: r, j + 1, p, h => by
    have := prCells_get r j p (by simpa using h)
    unfold prCells at *
    rw [List.flatMap_cons]
    constructor
    · rw [show (j + 1) * 2 = j * 2 + 1 + 1 by omega]; exact this.1
    · rw [show (j + 1) * 2 + 1 = j * 2 + 1 + 1 + 1 by omega]; exact this.2
/-- v owns, in a row from block B on, the pairs ps. -/
def OwnP (B : Nat) (w : World) (v : Value) (ps : List (Int × Int)) : Prop := w.ownsRow B 95 2 v ps.length (prCells ps)
section
variable {B : Nat} {w w' : World} {v : Value} {ps : List (Int × Int)}
theorem OwnP.nil (B : Nat) (w : World) : OwnP B w (.slice none 0 0) [] := World.ownsRow_nil _ _ _ _
theorem OwnP.gr (h : OwnP B w v ps) (g : Gr w w') : OwnP B w' v ps := own_gr h g
theorem OwnP.form (h : OwnP B w v ps) : ∃ A c, v = .slice A ps.length c := by
  obtain ⟨A, c, hv, _⟩ := own_form h
  exact ⟨A, c, hv⟩
theorem OwnP.app {ops : Array Oper} {rest : List Oper} {o : Oper} {a : Act} {Q : Exit → Act → World → Prop} (h : OwnP B w v ps) (p : Int × Int) (hlt : ps.length ≤ 1000000) (hB : B ≤ w.heap.size)
    (hgd : o.guard = none) (s y : Operand) (ho : o.op = .call { callee := .builtin .append, args := #[s, y], argTypes := #[93, 93] }) (hs : a.eval s = v) (hy : a.eval y = .slice (some ⟨w.heap.size, 0, none⟩) 1 1) {e' : TypeId}
    (hK : ∀ A c w', OwnP B w' (.slice A (ps.length + 1) c) (ps ++ [p]) → Below B w w' → wpList Tryz.prog ops Q rest (a.put o.dst (.slice A (ps.length + 1) c)) w') :
    wpList Tryz.prog ops Q (o :: rest) a (w.alloc (.cells #[.int .i64 p.1, .int .i64 p.2] e')) := by
  obtain ⟨i0, hi, hz0, hz1, hz2⟩ := info_parts info_pair
  refine wpList_append_src hgd s y 93 ho B 95 i0 _ 2 16 Tryz.underlying93 hi hz0 hz1 hz2 rfl (by omega) v ps.length (prCells ps) hs (own_gr h ((Gr.refl _).alloc _)) _ 1 [.int .i64 p.1, .int .i64 p.2] hy (Src.newN w [.int .i64 p.1, .int .i64 p.2] e') ?_ ?_ ?_ ?_ ?_
  · intro u hu; simp at hu; rcases hu with rfl | rfl <;> rfl
  · simp only [maxLen]; omega
  · omega
  · simp; omega
  · intro v' w' hown' hg _
    obtain ⟨A, c, hv, _⟩ := own_form hown'
    subst hv
    refine hK A c w' ?_ ?_
    · unfold OwnP
      rw [List.length_append]
      have : prCells (ps ++ [p]) = prCells ps ++ [.int .i64 p.1, .int .i64 p.2] := by unfold prCells; rw [List.flatMap_append]; rfl
      rw [this]; exact hown'
    · exact (((Below.refl B w).alloc hB _)).grown hg (by simp; omega) (fun k hk => (own_block_lt h k hk).1)
end
/-! ### slices.SortFunc -/
def encP (x : Fin 64 × Int) : List Value := [.int .i64 (x.1.val : Int), .int .i64 x.2]
def cmpP (x y : Fin 64 × Int) : Int := (x.1.val : Int) - (y.1.val : Int)
theorem ltP (x y : Fin 64 × Int) : ltOf cmpP x y = decide (x.1.val < y.1.val) := by
  unfold ltOf cmpP
  rw [decide_eq_decide]
  omega
theorem swoP : SWO (ltOf cmpP) where
  irrefl x := by rw [ltP]; simp
  trans x y z h1 h2 := by rw [ltP, decide_eq_true_eq] at *; omega
  ntrans x y z h1 h2 := by rw [ltP, decide_eq_false_iff_not] at *; omega
set_option maxHeartbeats 1000000 in
theorem changed1_any (a b c d : Int) (ha : 0 ≤ a ∧ a < 64) (hb : 0 ≤ b ∧ b < 64) (W : World) : Calls Tryz.prog 71 #[.agg #[.int .i64 a, .int .i64 c], .agg #[.int .i64 b, .int .i64 d]] W fun e w' => e = .returned (.int .i64 (a - b)) ∧ ∃ q os', w' = grow (W.drewN q) os' := by
  obtain ⟨a1, a2⟩ := ha
  obtain ⟨b1, b2⟩ := hb
  go_enter Tryz.func71, Tryz.ntmps71
  go_wp2
  go_ret
  exact ⟨rfl, 0, _, by rw [alloc_eq_grow, alloc_eq_grow, grow_grow]; rfl⟩
theorem cmpLaysP (blk off size : Nat) (w : World) : Go.Proofs.CmpLays Tryz.prog 71 #[] encP 2 cmpP blk off size w :=
  fun _ _ _ _ x y => changed1_any _ _ _ _ ⟨by omega, by omega⟩ ⟨by omega, by omega⟩ _
theorem hlenP (n : Nat) (W : World) (h : n ≤ 12) : Calls Tryz.prog 84 #[.int .u64 n] W fun e w' => (∃ l : Int, e = .returned (.int .i64 l)) ∧ w' = W :=
  (Any.bits_Len Tryz.bitsLen n W (by omega) (by omega)).mono fun _ _ ⟨he, hw⟩ => ⟨⟨_, he⟩, hw⟩
theorem sort_below {α : Type} [Inhabited α] {enc : α → List Value} {k B n b off : Nat} {w : World} {d : Array α} {os : Array Obj} (hB : B ≤ b) (hb : b < w.heap.size) : Go.RowKit.Below B w (sortWorldK enc k w b off n d os) := by
  refine ⟨rfl, rfl, rfl, size_sortWorldK_c _ _ _ _ _ _ _ _, fun i hi => ?_⟩
  show ((w.heap.modify b _) ++ os)[i]? = w.heap[i]?
  rw [Array.getElem?_append_left (by rw [Array.size_modify]; omega), Array.getElem?_modify, if_neg (by omega)]
def dP (ps : List (Int × Int)) : Array (Fin 64 × Int) := (ps.map fun p => (Fin.ofNat 64 p.1.toNat, p.2)).toArray
theorem dP_size (ps : List (Int × Int)) : (dP ps).size = ps.length := by simp [dP]
def unP (x : Fin 64 × Int) : Int × Int := ((x.1.val : Int), x.2)
theorem unP_dP {ps : List (Int × Int)} (h : ∀ p ∈ ps, 0 ≤ p.1 ∧ p.1 < 64) : (dP ps).toList.map unP = ps := by
  unfold dP
  rw [List.map_map]
  conv => rhs; rw [← List.map_id ps]
  refine List.map_congr_left fun p hp => ?_
  have := h p hp
  show ((((Fin.ofNat 64 p.1.toNat).val : Nat) : Int), p.2) = p
  have e : (Fin.ofNat 64 p.1.toNat).val = p.1.toNat := Nat.mod_eq_of_lt (by omega)
  rw [e, show ((p.1.toNat : Nat) : Int) = p.1 by omega]
theorem flat_get (d : Array (Fin 64 × Int)) (j : Nat) (hj : j < d.size) : (flatK encP 2 d)[j * 2]! = .int .i64 (unP d[j]!).1 ∧ (flatK encP 2 d)[j * 2 + 1]! = .int .i64 (unP d[j]!).2 := by
  rw [get_flatK encP 2 d _ (by omega), get_flatK encP 2 d _ (by omega), show (j * 2) / 2 = j by omega, show (j * 2) % 2 = 0 by omega, show (j * 2 + 1) / 2 = j by omega, show (j * 2 + 1) % 2 = 1 by omega]
  exact ⟨rfl, rfl⟩
theorem OwnP.holds {B b c : Nat} {w : World} {ps : List (Int × Int)} (h : OwnP B w (.slice (some ⟨b, 0, none⟩) ps.length c) ps) (hk : ∀ p ∈ ps, 0 ≤ p.1 ∧ p.1 < 64) : HoldsK encP 2 w b 0 (dP ps) := by
  intro t ht
  rw [size_flatK, dP_size] at ht
  refine ⟨?_, by rw [Nat.zero_add]; exact World.ownsRow.frozenAt h t⟩
  rw [Nat.zero_add, World.ownsRow.cellAt h t (by omega)]
  have hj : t / 2 < ps.length := by omega
  have hg : ps[t / 2]? = some (unP (dP ps)[t / 2]!) := by
    have e := unP_dP hk
    have e2 : ((dP ps).toList.map unP)[t / 2]? = some (unP (dP ps)[t / 2]!) := by
      rw [List.getElem?_map, Array.getElem?_toList, Array.getElem?_eq_getElem (by rw [dP_size]; exact hj), getElem!_pos _ _ (by rw [dP_size]; exact hj)]; rfl
    rw [e] at e2; exact e2
  obtain ⟨q0, q1⟩ := prCells_get ps (t / 2) _ hg
  obtain ⟨r0, r1⟩ := flat_get (dP ps) (t / 2) (by rw [dP_size]; exact hj)
  rcases (by omega : t = t / 2 * 2 ∨ t = t / 2 * 2 + 1) with e | e
  · rw [e, q0]; exact congrArg some r0.symm
  · rw [e, q1]; exact congrArg some r1.symm
/-- slices.SortFunc(pairs, by the first number). -/
theorem sort_any (B : Nat) (ps : List (Int × Int)) (v : Value) (w : World) (h : OwnP B w v ps) (hne : 0 < ps.length) (h12 : ps.length ≤ 12) (hk : ∀ p ∈ ps, 0 ≤ p.1 ∧ p.1 < 64) :
    Calls Tryz.prog 70 #[v, .func (.func 71) #[] #[]] w fun e w' => e = .returned (.tuple #[]) ∧ ∃ (S : List (Int × Int)) (b c : Nat), v = .slice (some ⟨b, 0, none⟩) ps.length c ∧ S.Perm ps ∧ S.Pairwise (fun p q => p.1 ≤ q.1) ∧ Go.RowKit.Below B w w' ∧ b < w.heap.size ∧ B ≤ b ∧
      ∃ cur : Array Value, w'.heap[b]? = some (.cells cur 95 (0, 0)) ∧ ∀ (j : Nat) p, S[j]? = some p → cur[j * 2]? = some (.int .i64 p.1) ∧ cur[j * 2 + 1]? = some (.int .i64 p.2) := by
  obtain ⟨A, c, rfl⟩ := h.form
  obtain ⟨b, rfl, hb, hBb, -⟩ := own_cells h rfl hne
  have hH := h.holds hk
  obtain ⟨cur0, hcur⟩ : ∃ cur, w.heap[b]? = some (.cells cur 95 (0, 0)) := by
    rcases h.2 with ⟨e, -⟩ | ⟨g, cap, cur, e, -, hg, -⟩
    · cases e
    · injection e with e1 e2 e3
      injection e1 with e1
      injection e1 with e1
      subst e1
      exact ⟨cur, hg⟩
  have eg : ∀ args w, (callFunc 71 args).run Tryz.prog w = .ok (.enter 71 args) w := enters_of Tryz.func71 (by kernel_rfl) rfl
  have hcon := AnyQ.slices_SortFunc_small_sorted Tryz.sortP 2 Tryz.isAgg95 Tryz.sizeOf95 encP (fun _ => rfl) (fun x v hv => by simp [encP] at hv; rcases hv with rfl | rfl <;> rfl) cmpP 71 #[] swoP b 0 c (dP ps) w eg (cmpLaysP b 0 (dP ps).size w) hH hb (by rw [dP_size]; exact h12) hlenP
  rw [dP_size] at hcon
  change Calls Tryz.prog 70 _ _ _ at hcon
  refine hcon.mono ?_
  rintro e w' ⟨rfl, d', n, os, ⟨hs, -, hp⟩, hsort, rfl⟩
  rw [dP_size] at hs
  refine ⟨rfl, d'.toList.map unP, b, c, rfl, ?_, ?_, sort_below hBb hb, hb, hBb, Go.Sort.putCells id 0 (flatK encP 2 d') cur0, ?_, fun j p hj => ?_⟩
  · have e1 : d'.extract 0 ps.length = d' := by rw [← hs]; simp
    have e2 : (dP ps).extract 0 ps.length = dP ps := by rw [← dP_size ps]; simp
    rw [e1, e2] at hp
    have := hp.map unP
    rw [unP_dP hk] at this
    exact this
  · rw [List.pairwise_map, List.pairwise_iff_getElem]
    intro i j hi hj hij
    have hi' : i < d'.size := by simpa using hi
    have hj' : j < d'.size := by simpa using hj
    have := hsort i j (Nat.zero_le _) hij (by omega)
    rw [getElem!_pos d' i hi', getElem!_pos d' j hj'] at this
    rw [ltP, decide_eq_false_iff_not] at this
    simp only [unP, Array.getElem_toList]
    omega
  · show ((w.heap.modify b _) ++ os)[b]? = _
    rw [Array.getElem?_append_left (by rw [Array.size_modify]; exact hb), Array.getElem?_modify, if_pos rfl, hcur]; rfl
  · have hjl : j < d'.size := by have := (List.getElem?_eq_some_iff.1 hj).1; simpa using this
    have hh := holdsK_sortWorldK_c encP 2 w b 0 (dP ps) d' n os hH hb (by rw [dP_size]; exact hs)
    obtain ⟨r0, r1⟩ := flat_get d' j hjl
    have e : p = unP d'[j]! := by
      rw [List.getElem?_map, Array.getElem?_toList, Array.getElem?_eq_getElem hjl] at hj
      rw [getElem!_pos d' j hjl]
      simpa using hj.symm
    have h0 := (hh (j * 2) (by rw [size_flatK]; omega)).1
    have h1 := (hh (j * 2 + 1) (by rw [size_flatK]; omega)).1
    rw [Nat.zero_add, r0] at h0
    rw [Nat.zero_add, r1] at h1
    have hbk : (sortWorldK encP 2 w b 0 n d' os).heap[b]? = some (.cells (Go.Sort.putCells id 0 (flatK encP 2 d') cur0) 95 (0, 0)) := by
      show ((w.heap.modify b _) ++ os)[b]? = _
      rw [Array.getElem?_append_left (by rw [Array.size_modify]; exact hb), Array.getElem?_modify, if_pos rfl, hcur]; rfl
    have ck : ∀ i, (sortWorldK encP 2 w b 0 n d' os).cell? ⟨b, i, none⟩ = (Go.Sort.putCells id 0 (flatK encP 2 d') cur0)[i]? := fun i => by
      unfold World.cell?
      rw [hbk]; rfl
    rw [e, ← ck, ← ck]
    exact ⟨h0, h1⟩
end Go.Proofs.YtiadpjhlomhjeaaGreat

namespace Go.Proofs.YtiadpjhlomhjeaaGreat
set_option linter.unusedSimpArgs false
set_option linter.unusedVariables false
open Go.RowKit

section
variable {w wr wr' : World} {Bx : Nat} {op wd fl im : Int} {va vt : Value} {As Ts : List Int}
theorem YI.wp3k {o : Oper} {a : Act} {K : Act → World → Prop} {Q : Exit → Act → World → Prop} (h : YI w Bx op wd fl im va vt As Ts wr) (z : Int)
    (s x : Operand) (ho : o.op = .call { callee := .builtin .append, args := #[s, x], argTypes := #[22, 22] }) (hs : a.eval s = va) (hx : a.eval x = .slice (some ⟨wr.heap.size, 0, none⟩) 1 1) (hlt : As.length ≤ 1000000) {e' : TypeId}
    (hK : ∀ g c w1, w1.heap[Bx]? = some (.cells #[.int .i64 op, .int .i64 wd, .int .i64 fl, va, .int .u32 im, vt] 38 (0, 0)) → YI w Bx op wd fl im (.slice (some ⟨g, 0, none⟩) (As.length + 1) c) vt (As ++ [z]) Ts (w1.setCell ⟨Bx, 3, none⟩ (.slice (some ⟨g, 0, none⟩) (As.length + 1) c)) → (∀ (k : Nat) (cc : Array Value) (t : TypeId), wr.heap[k]? = some (.cells cc t (0, 0)) → t ≠ 3 → k ≠ Bx → (w1.setCell ⟨Bx, 3, none⟩ (.slice (some ⟨g, 0, none⟩) (As.length + 1) c)).heap[k]? = some (.cells cc t (0, 0))) → K (a.put o.dst (.slice (some ⟨g, 0, none⟩) (As.length + 1) c)) w1) :
    o.wp Tryz.prog a (wr.alloc (.cells #[.int .i64 z] e')) K Q := by
  obtain ⟨i0, hi, hz0, hz1, hz2⟩ := info_parts info_int
  have hl : (As.map (Value.int .i64)).length = As.length := List.length_map _
  have hsz := h.gr.size
  have h3 := h.own3
  unfold Own1 at h3
  rw [hl] at h3
  refine wp_append_src s x 22 ho w.heap.size 3 i0 (.int .i64 0) 1 8 Tryz.underlying22 hi hz0 hz1 hz2 rfl (by omega) va As.length (As.map (Value.int .i64)) hs (own_gr h3 ((Gr.refl _).alloc _)) _ 1 [.int .i64 z] hx (Src.new1 _ _ _) ?_ ?_ ?_ ?_ ?_
  · intro y hy; simp at hy; subst hy; rfl
  · simp only [maxLen]; omega
  · omega
  · simp; omega
  · intro v' w1 hown' hg hat
    obtain ⟨g, c, rfl⟩ := ownsRow_succ hown'
    obtain ⟨m1, m2, m3, m4, m5, m6, m7, m8⟩ := field_append (i := 3) (n₀ := w.heap.size) (ys := (As ++ [z]).map (Value.int .i64)) h.box (by decide) h.own3 (own_snoc hown') hg hat
    obtain ⟨n1, n2⟩ := m6 _ _ h.own5 h.apart
    exact hK g c w1 m1 ⟨m2, m3, n1, n2, h.gr.below (m7 w.heap.size (Nat.le_refl _) h.lx hsz) (Nat.le_refl _), h.lx⟩ m8
theorem YI.app3k {ops : Array Oper} {rest : List Oper} {o : Oper} {a : Act} {Q : Exit → Act → World → Prop} (h : YI w Bx op wd fl im va vt As Ts wr) (z : Int)
    (hgd : o.guard = none) (s x : Operand) (ho : o.op = .call { callee := .builtin .append, args := #[s, x], argTypes := #[22, 22] }) (hs : a.eval s = va) (hx : a.eval x = .slice (some ⟨wr.heap.size, 0, none⟩) 1 1) (hlt : As.length ≤ 1000000) {e' : TypeId}
    (hK : ∀ g c w1, w1.heap[Bx]? = some (.cells #[.int .i64 op, .int .i64 wd, .int .i64 fl, va, .int .u32 im, vt] 38 (0, 0)) → YI w Bx op wd fl im (.slice (some ⟨g, 0, none⟩) (As.length + 1) c) vt (As ++ [z]) Ts (w1.setCell ⟨Bx, 3, none⟩ (.slice (some ⟨g, 0, none⟩) (As.length + 1) c)) → (∀ (k : Nat) (cc : Array Value) (t : TypeId), wr.heap[k]? = some (.cells cc t (0, 0)) → t ≠ 3 → k ≠ Bx → (w1.setCell ⟨Bx, 3, none⟩ (.slice (some ⟨g, 0, none⟩) (As.length + 1) c)).heap[k]? = some (.cells cc t (0, 0))) → wpList Tryz.prog ops Q rest (a.put o.dst (.slice (some ⟨g, 0, none⟩) (As.length + 1) c)) w1) :
    wpList Tryz.prog ops Q (o :: rest) a (wr.alloc (.cells #[.int .i64 z] e')) :=
  wpList_plain hgd fun _ hK' => YI.wp3k h z s x ho hs hx hlt fun g c w1 h1 h2 h3 => hK' _ _ (hK g c w1 h1 h2 h3)
theorem YI.wp5k {o : Oper} {a : Act} {K : Act → World → Prop} {Q : Exit → Act → World → Prop} (h : YI w Bx op wd fl im va vt As Ts wr) (z : Int)
    (s x : Operand) (ho : o.op = .call { callee := .builtin .append, args := #[s, x], argTypes := #[22, 22] }) (hs : a.eval s = vt) (hx : a.eval x = .slice (some ⟨wr.heap.size, 0, none⟩) 1 1) (hlt : Ts.length ≤ 1000000) {e' : TypeId}
    (hK : ∀ g c w1, w1.heap[Bx]? = some (.cells #[.int .i64 op, .int .i64 wd, .int .i64 fl, va, .int .u32 im, vt] 38 (0, 0)) → YI w Bx op wd fl im va (.slice (some ⟨g, 0, none⟩) (Ts.length + 1) c) As (Ts ++ [z]) (w1.setCell ⟨Bx, 5, none⟩ (.slice (some ⟨g, 0, none⟩) (Ts.length + 1) c)) → (∀ (k : Nat) (cc : Array Value) (t : TypeId), wr.heap[k]? = some (.cells cc t (0, 0)) → t ≠ 3 → k ≠ Bx → (w1.setCell ⟨Bx, 5, none⟩ (.slice (some ⟨g, 0, none⟩) (Ts.length + 1) c)).heap[k]? = some (.cells cc t (0, 0))) → K (a.put o.dst (.slice (some ⟨g, 0, none⟩) (Ts.length + 1) c)) w1) :
    o.wp Tryz.prog a (wr.alloc (.cells #[.int .i64 z] e')) K Q := by
  obtain ⟨i0, hi, hz0, hz1, hz2⟩ := info_parts info_int
  have hl : (Ts.map (Value.int .i64)).length = Ts.length := List.length_map _
  have hsz := h.gr.size
  have h3 := h.own5
  unfold Own1 at h3
  rw [hl] at h3
  refine wp_append_src s x 22 ho w.heap.size 3 i0 (.int .i64 0) 1 8 Tryz.underlying22 hi hz0 hz1 hz2 rfl (by omega) vt Ts.length (Ts.map (Value.int .i64)) hs (own_gr h3 ((Gr.refl _).alloc _)) _ 1 [.int .i64 z] hx (Src.new1 _ _ _) ?_ ?_ ?_ ?_ ?_
  · intro y hy; simp at hy; subst hy; rfl
  · simp only [maxLen]; omega
  · omega
  · simp; omega
  · intro v' w1 hown' hg hat
    obtain ⟨g, c, rfl⟩ := ownsRow_succ hown'
    obtain ⟨m1, m2, m3, m4, m5, m6, m7, m8⟩ := field_append (i := 5) (n₀ := w.heap.size) (ys := (Ts ++ [z]).map (Value.int .i64)) h.box (by decide) h.own5 (own_snoc hown') hg hat
    obtain ⟨n1, n2⟩ := m6 _ _ h.own3 h.apart.symm
    exact hK g c w1 m1 ⟨m2, n1, m3, n2.symm, h.gr.below (m7 w.heap.size (Nat.le_refl _) h.lx hsz) (Nat.le_refl _), h.lx⟩ m8
theorem YI.app5k {ops : Array Oper} {rest : List Oper} {o : Oper} {a : Act} {Q : Exit → Act → World → Prop} (h : YI w Bx op wd fl im va vt As Ts wr) (z : Int)
    (hgd : o.guard = none) (s x : Operand) (ho : o.op = .call { callee := .builtin .append, args := #[s, x], argTypes := #[22, 22] }) (hs : a.eval s = vt) (hx : a.eval x = .slice (some ⟨wr.heap.size, 0, none⟩) 1 1) (hlt : Ts.length ≤ 1000000) {e' : TypeId}
    (hK : ∀ g c w1, w1.heap[Bx]? = some (.cells #[.int .i64 op, .int .i64 wd, .int .i64 fl, va, .int .u32 im, vt] 38 (0, 0)) → YI w Bx op wd fl im va (.slice (some ⟨g, 0, none⟩) (Ts.length + 1) c) As (Ts ++ [z]) (w1.setCell ⟨Bx, 5, none⟩ (.slice (some ⟨g, 0, none⟩) (Ts.length + 1) c)) → (∀ (k : Nat) (cc : Array Value) (t : TypeId), wr.heap[k]? = some (.cells cc t (0, 0)) → t ≠ 3 → k ≠ Bx → (w1.setCell ⟨Bx, 5, none⟩ (.slice (some ⟨g, 0, none⟩) (Ts.length + 1) c)).heap[k]? = some (.cells cc t (0, 0))) → wpList Tryz.prog ops Q rest (a.put o.dst (.slice (some ⟨g, 0, none⟩) (Ts.length + 1) c)) w1) :
    wpList Tryz.prog ops Q (o :: rest) a (wr.alloc (.cells #[.int .i64 z] e')) :=
  wpList_plain hgd fun _ hK' => YI.wp5k h z s x ho hs hx hlt fun g c w1 h1 h2 h3 => hK' _ _ (hK g c w1 h1 h2 h3)
end
/-- The pairs that changed collects of a Phi. -/
def prZ (MV MB : Int → Option Int) (L : List (Int × Int)) : List (Int × Int) := L.filterMap fun p => (MB p.1).map fun b => (b, mg MV p.2)
def prs (MV MB : Int → Option Int) (x : Ins) : List (Int × Int) := prZ MV MB (x.to.zip x.args)
theorem prZ_step {MV MB : Int → Option Int} {t a : List Int} {k : Nat} {z u : Int} (hz : t[k]? = some z) (hu : a[k]? = some u) : prZ MV MB ((t.zip a).take (k + 1)) = match MB z with
    | some b => prZ MV MB ((t.zip a).take k) ++ [(b, mg MV u)]
    | none => prZ MV MB ((t.zip a).take k) := by
  have e : (t.zip a)[k]? = some (z, u) := List.getElem?_zip_eq_some.2 ⟨hz, hu⟩
  unfold prZ
  rw [List.take_add_one, e, List.filterMap_append]
  cases h : MB z <;> simp [h]
theorem prZ_len (MV MB : Int → Option Int) (L : List (Int × Int)) : (prZ MV MB L).length ≤ L.length := List.length_filterMap_le _ _
theorem prZ_in {MV MB : Int → Option Int} {x : Ins} {P : Int → Prop} (h : ∀ z ∈ x.to, ∀ b, MB z = some b → P b) : ∀ p ∈ prs MV MB x, P p.1 := by
  intro p hp
  unfold prs prZ at hp
  obtain ⟨q, hq, e⟩ := List.mem_filterMap.1 hp
  obtain ⟨b, hb, rfl⟩ := Option.map_eq_some_iff.1 e
  exact h q.1 (List.of_mem_zip hq).1 b hb
set_option maxRecDepth 100000 in
set_option maxHeartbeats 16000000 in
theorem changed_phi (x : Ins) (v : Value) (rv rb nv nb : Nat) (MV MB : Int → Option Int) (w : World) (hx : InsV w.heap.size w v x) (hmv : MapAt rv nv w MV) (hmb : MapAt rb nb w MB) (ho : x.op = 28) (hlen : x.args.length = x.to.length)
    (ha : ∀ z ∈ x.args, Word z) (hto : ∀ z ∈ x.to, Word z) (hl2 : x.to.length ≤ 12) (hr : ∀ z ∈ x.to, ∀ b, MB z = some b → 0 ≤ b ∧ b < 64) (hne : 0 < (prs MV MB x).length) :
    Calls Tryz.prog 37 #[v, .map (some rv), .map (some rb)] w fun e w' => ∃ (S : List (Int × Int)) (A3 : Option Addr) (c3 : Nat) (A4 : Option Addr) (c4 : Nat), S.Perm (prs MV MB x) ∧ S.Pairwise (fun p q => p.1 ≤ q.1) ∧ e = .returned (.agg #[.int .i64 x.op, .int .i64 x.width, .int .i64 x.flags, .slice A3 S.length c3, .int .u32 x.imm, .slice A4 S.length c4]) ∧ Hid (TI w.heap.size w' (.slice A3 S.length c3) (S.map (·.2)) ∧ TI w.heap.size w' (.slice A4 S.length c4) (S.map (·.1))) ∧ Gr w w' := by
  obtain ⟨va, vo, rfl, hxa, hxt⟩ := hx
  obtain ⟨W, hW⟩ : ∃ W, (w.alloc (.cells (insVal x va vo).cells 38)).alloc (.cells #[.int .i64 0, .int .i64 0, .int .i64 0, .slice none 0 0, .int .u32 0, .slice none 0 0] 38) = W := ⟨_, rfl⟩
  have hB0 : Gr w W := by rw [← hW]; exact ((Gr.refl w).alloc _).alloc _
  have hWs : W.heap.size = w.heap.size + 2 := by rw [← hW]; simp
  obtain ⟨Aa, ca, rfl, a1, a2, a3⟩ := hxa
  obtain ⟨At, ct, rfl, t1, t2, t3⟩ := hxt
  have hr0 : W.heap[w.heap.size]? = some (.cells #[.int .i64 x.op, .int .i64 x.width, .int .i64 x.flags, .slice Aa x.args.length ca, .int .u32 x.imm, .slice At x.to.length ct] 38 (0, 0)) := by
    rw [← hW]; exact (((Gr.refl _).alloc _).heap _ (by simp)).trans (heap_alloc_new w _)
  have hr1 : W.heap[w.heap.size + 1]? = some (.cells #[.int .i64 0, .int .i64 0, .int .i64 0, .slice none 0 0, .int .u32 0, .slice none 0 0] 38 (0, 0)) := by
    rw [← hW]; exact heap_alloc2_new w _ _
  have k0 := cell_of_row _ _ 0 _ _ _ hr0
  have k1 := cell_of_row _ _ 1 _ _ _ hr0
  have k2 := cell_of_row _ _ 2 _ _ _ hr0
  have k3 := cell_of_row _ _ 3 _ _ _ hr0
  have k4 := cell_of_row _ _ 4 _ _ _ hr0
  have k5 := cell_of_row _ _ 5 _ _ _ hr0
  have cop : (x.op != 28) = false := by simpa using ho
  have HLEN := Lib.hid hlen
  have HRG : Hid (∀ z ∈ x.to, ∀ b, MB z = some b → 0 ≤ b ∧ b < 64) := hr
  have HNE := Lib.hid hne
  unfold insVal at hW ⊢
  simp only [Value.cells] at hW
  have R0 : Hid (∀ w', Gr W w' → w'.heap[w.heap.size]? = some (.cells #[.int .i64 x.op, .int .i64 x.width, .int .i64 x.flags, .slice Aa x.args.length ca, .int .u32 x.imm, .slice At x.to.length ct] 38 (0, 0))) := fun w' q => (q.heap _ (by omega)).trans hr0
  have R1 : Hid (∀ w', Gr W w' → w'.heap[w.heap.size + 1]? = some (.cells #[.int .i64 0, .int .i64 0, .int .i64 0, .slice none 0 0, .int .u32 0, .slice none 0 0] 38 (0, 0))) := fun w' q => (q.heap _ (by omega)).trans hr1
  have HA : Hid (∀ z ∈ x.args, Word z) := ha
  have HTO : Hid (∀ z ∈ x.to, Word z) := hto
  have HMV := Lib.hid hmv
  have HMB := Lib.hid hmb
  have A3 : Hid (0 < x.args.length → ∃ b off, Aa = some ⟨b, off, none⟩ ∧ b < w.heap.size ∧ ∀ j z, x.args[j]? = some z → w.cell? ⟨b, off + j, none⟩ = some (.int .i64 z)) := a3
  have T3 : Hid (0 < x.to.length → ∃ b off, At = some ⟨b, off, none⟩ ∧ b < w.heap.size ∧ ∀ j z, x.to[j]? = some z → w.cell? ⟨b, off + j, none⟩ = some (.int .i64 z)) := t3
  have HB0 := Lib.hid hB0
  obtain ⟨V, hV⟩ : ∃ V, W.alloc (.cells #[.int .i64 0, .int .i64 0, .int .i64 0, .slice none 0 0, .int .u32 0, .slice none 0 0] 38) = V := ⟨_, rfl⟩
  have hv0 : V.heap[W.heap.size]? = some (.cells #[.int .i64 0, .int .i64 0, .int .i64 0, .slice none 0 0, .int .u32 0, .slice none 0 0] 38 (0, 0)) := by rw [← hV]; exact heap_alloc_new W _
  have hgV : Gr W V := by rw [← hV]; exact (Gr.refl W).alloc _
  obtain ⟨⟨v0, v1, v2, v3, v4, v5⟩, f0, f1, f2, f3, f4, f5⟩ := six_facts hv0
  have HV0 := Lib.hid hv0
  have HGV := Lib.hid hgV
  obtain ⟨V1, hV1⟩ : ∃ V1, ((((((V.setCell ⟨W.heap.size, 0, none⟩ (.int .i64 x.op)).setCell ⟨W.heap.size, 1, none⟩ (.int .i64 x.width)).setCell ⟨W.heap.size, 2, none⟩ (.int .i64 x.flags)).setCell ⟨W.heap.size, 3, none⟩ (.slice Aa x.args.length ca)).setCell ⟨W.heap.size, 4, none⟩ (.int .u32 x.imm)).setCell ⟨W.heap.size, 5, none⟩ (.slice At x.to.length ct)) = V1 := ⟨_, rfl⟩
  have hs1 := six_stores HV0.out (.int .i64 x.op) (.int .i64 x.width) (.int .i64 x.flags) (.slice Aa x.args.length ca) (.int .u32 x.imm) (.slice At x.to.length ct)
  rw [hV1] at hs1
  have HS1 := Lib.hid hs1
  have HG1 : Hid (Gr W V1) := by
    show Gr W V1
    rw [← hV1]
    iterate 6 refine Gr.setCell ?_ (Nat.le_refl _) _
    exact HGV.out
  obtain ⟨V2, hV2⟩ : ∃ V2, (V1.setCell ⟨W.heap.size, 3, none⟩ (.slice none 0 0)).setCell ⟨W.heap.size, 5, none⟩ (.slice none 0 0) = V2 := ⟨_, rfl⟩
  have HY0 : Hid (YI W W.heap.size x.op x.width x.flags x.imm (.slice none 0 0) (.slice none 0 0) [] [] V2) := by
    rw [← hV2]
    refine YI.start ?_ (by simpa using heap_setCell_at (i := 5) (.slice none 0 0) (heap_setCell_at (i := 3) (.slice none 0 0) HS1.out)) (Nat.le_refl _)
    exact (HG1.out.setCell (Nat.le_refl _) _).setCell (Nat.le_refl _) _
  have HWS := Lib.hid hWs
  clear hr0 hr1 ha hto a3 t3 hB0 hv0 hgV hWs hs1 hmv hmb hlen hr hne ho
  have HV1 := Lib.hid hV1
  have HV2 := Lib.hid hV2
  clear hV1 hV2
  go_enter Tryz.func37, Tryz.ntmps37
  go_upto_region 2 with (fail)
  rw [HV1.out]
  clear v0 v1 v2 v3 v4 v5 f0 f1 f2 f3 f4 f5 k0 k1 k2 k3 k4 k5
  obtain ⟨⟨-, -, -, u3, -, u5⟩, -, -, -, g3, -, g5⟩ := six_facts HS1.out
  go_upto_region 3 with (fail)
  rw [HV2.out]
  clear g3 g5 u3 u5
  have HVS : Hid (W.heap.size + 1 ≤ V2.heap.size) := by
    have := (Array.getElem?_eq_some_iff.1 HY0.out.box).1
    show _ ≤ _
    omega
  obtain ⟨⟨k0, k1, k2, k3, k4, k5⟩, -⟩ := six_facts (R0.out _ HY0.out.gr)
  go_wp2_with (fail)
  go_loopw [12, 61] (fun v12 i wr => ∃ (k : Nat) (ps : List (Int × Int)), k ≤ x.to.length ∧ i = .int .i64 k ∧ Hid (ps = prZ MV MB ((x.to.zip x.args).take k)) ∧ Hid (OwnP V2.heap.size wr v12 ps) ∧ Hid (Gr V2 wr)) (fun _ i _ => x.to.length - (intOf i).toNat)
  case atStart => exact ⟨0, [], Nat.zero_le _, rfl, Lib.hid (by simp [prZ]), OwnP.nil _ _, Gr.refl _⟩
  case round =>
    clear k0 k1 k2 k3 k4 k5
    obtain ⟨k, ps, hk, rfl, HPS, HO, HG⟩ := hrel
    have HGW : Hid (Gr w wr) := HB0.out.trans (HY0.out.gr.trans HG.out)
    obtain ⟨⟨k0, k1, k2, k3, k4, k5⟩, -⟩ := six_facts (R0.out _ (HY0.out.gr.trans HG.out))
    have HPL : Hid (ps.length ≤ k) := by
      show _ ≤ _
      rw [HPS.out]
      refine Nat.le_trans (prZ_len _ _ _) ?_
      rw [List.length_take]; omega
    by_cases hlt : k < x.to.length
    · have hlt' : k < x.args.length := by have := HLEN.out; omega
      obtain ⟨z, hz⟩ : ∃ z, x.to[k]? = some z := ⟨_, List.getElem?_eq_getElem hlt⟩
      obtain ⟨u, hu⟩ : ∃ z, x.args[k]? = some z := ⟨_, List.getElem?_eq_getElem hlt'⟩
      obtain ⟨bt, ot, rfl, hbt, hct⟩ := T3.out (by omega)
      obtain ⟨ba, oa, rfl, hba, hca⟩ := A3.out (by omega)
      have hzr := HTO.out z (List.mem_of_getElem? hz)
      have hur := HA.out u (List.mem_of_getElem? hu)
      have l0 := (HGW.out.cell _ _ hbt).trans (hct k z hz)
      have l2 := (HGW.out.cell _ _ hba).trans (hca k u hu)
      have l1 := (HMB.out.gr HGW.out).look2 hzr
      have l3 := (HMV.out.gr HGW.out).look hur
      have HST := Lib.hid (prZ_step (MV := MV) (MB := MB) hz hu)
      obtain ⟨y, hy⟩ : ∃ y, (MV u).getD 0 = y := ⟨_, rfl⟩
      rw [hy] at l3
      unfold mg at HST
      rw [hy] at HST
      have z0 : (0 : Int) ≤ (k : Int) := by omega
      have z1 : (k : Int) < (x.to.length : Int) := by omega
      have z2 : (k : Int) < (x.args.length : Int) := by omega
      have hpl : ps.length ≤ 1000000 := by have := HPL.out; omega
      have hbs : V2.heap.size ≤ wr.heap.size := HG.out.size
      clear hz hu hct hca hlt hlt' hzr hur hy
      cases hm : MB z with
      | none =>
        rw [hm] at l1 HST
        clear hm
        have HS2 : Hid (ps = prZ MV MB ((x.to.zip x.args).take (k + 1))) := by show _ = _; rw [HST.out]; exact HPS.out
        clear HST
        go_wp2_with (fail)
        go_roundw
        case rel => exact ⟨k + 1, ps, by omega, by go_num, HS2, HO, HG⟩
        case measure => simp [intOf] <;> omega
      | some b =>
        rw [hm] at l1 HST
        clear hm
        simp only [Option.getD_some, Option.isSome_some] at l1
        have HS2 : Hid (ps ++ [(b, y)] = prZ MV MB ((x.to.zip x.args).take (k + 1))) := by show _ = _; rw [HST.out, ← HPS.out]
        clear HST
        obtain ⟨Ap, cp, rfl⟩ := HO.out.form
        go_wp2_with (at_builtin; refine OwnP.app HO.out (b, y) hpl hbs rfl (.tmp 73) (.tmp 83) rfl rfl rfl ?_; intro A5 c5 w5 ho5 hb5; have HO5 := Lib.hid ho5; have HG5 : Hid (Gr V2 w5) := HG.out.below hb5 (Nat.le_refl _); clear ho5 hb5)
        go_roundw
        case rel => exact ⟨k + 1, ps ++ [(b, y)], by omega, by go_num, HS2, by (show OwnP _ _ _ _); simpa using HO5.out, HG5⟩
        case measure => simp [intOf] <;> omega
    · obtain rfl : k = x.to.length := by omega
      have HPE : Hid (ps = prs MV MB x) := by show _ = _; rw [HPS.out, List.take_of_length_le (by rw [List.length_zip]; omega)]; rfl
      have HNP : Hid (0 < ps.length) := by show 0 < _; rw [HPE.out]; exact HNE.out
      have HRP : Hid (∀ p ∈ ps, 0 ≤ p.1 ∧ p.1 < 64) := by
        show ∀ p ∈ ps, _
        rw [HPE.out]; exact prZ_in HRG.out
      have h12 : ps.length ≤ 12 := by have := HPL.out; omega
      have HSO := Lib.hid (sort_any V2.heap.size ps _ wr HO.out HNP.out h12 HRP.out)
      obtain ⟨Ap, cp, rfl⟩ := HO.out.form
      go_upto_region 24 with (go_at_call 70; (refine HSO.out.mono ?_); rintro e w1 ⟨rfl, S, bp, cq, hv, hS1, hS2, hS3, hS4, hS5, cur, hS6, hS7⟩; have HV := Lib.hid hv; have HS1 := Lib.hid hS1; have HS2 := Lib.hid hS2; have HG1 : Hid (Gr V2 w1) := HG.out.below hS3 (Nat.le_refl _); have HB5 := Lib.hid hS5; have HS6 := Lib.hid hS6; have HS7 : Hid (∀ (j : Nat) p, S[j]? = some p → cur[j * 2]? = some (.int .i64 p.1) ∧ cur[j * 2 + 1]? = some (.int .i64 p.2)) := hS7; clear hv hS1 hS2 hS3 hS4 hS5 hS6 hS7)
      obtain ⟨ev, -⟩ : Ap = some ⟨bp, 0, none⟩ ∧ True := by
        have := HV.out
        injection this with e1 e2 e3
        exact ⟨e1, trivial⟩
      subst ev
      have HSL : Hid (S.length = ps.length) := HS1.out.length_eq
      have HY1 : Hid (YI W W.heap.size x.op x.width x.flags x.imm (.slice none 0 0) (.slice none 0 0) [] [] w1) := HY0.out.grow HG1.out
      clear k0 k1 k2 k3 k4 k5 HSO HO HG HV
      go_wp2_with (fail)
      go_loopw [90] (fun i wr => ∃ (k : Nat) (va vt : Value) (As Ts : List Int), k ≤ ps.length ∧ i = .int .i64 k ∧ Hid (As = (S.take k).map (·.2) ∧ Ts = (S.take k).map (·.1)) ∧ Hid (YI W W.heap.size x.op x.width x.flags x.imm va vt As Ts wr) ∧ Hid (wr.heap[bp]? = some (.cells cur 95 (0, 0)))) (fun i _ => ps.length - (intOf i).toNat)
      case atStart => exact ⟨0, _, _, [], [], Nat.zero_le _, rfl, Lib.hid ⟨by simp, by simp⟩, HY1, HS6⟩
      case round =>
        clear HY1 HS6 HGW
        obtain ⟨k, va, vt, As, Ts, hk, rfl, HAT, HI, HC⟩ := hrel
        obtain ⟨Av, cv, rfl⟩ := HI.out.form3
        obtain ⟨Aw, cw, rfl⟩ := HI.out.form5
        obtain ⟨⟨y0, y1, y2, y3, y4, y5⟩, -⟩ := HI.out.cells
        by_cases hlt : k < ps.length
        · have hks : k < S.length := by have := HSL.out; omega
          obtain ⟨p, hp⟩ : ∃ p, S[k]? = some p := ⟨_, List.getElem?_eq_getElem hks⟩
          obtain ⟨q0, q1⟩ := HS7.out k p hp
          have c0 := (cell_of_row _ _ (k * 2) _ _ _ HC.out).trans q0
          have c1 := (cell_of_row _ _ (k * 2 + 1) _ _ _ HC.out).trans q1
          obtain ⟨pa, pb⟩ := p
          simp only at c0 c1
          have HAT2 : Hid (As ++ [pb] = (S.take (k + 1)).map (·.2) ∧ Ts ++ [pa] = (S.take (k + 1)).map (·.1)) := by
            refine ⟨?_, ?_⟩
            · rw [List.take_add_one, hp, HAT.out.1, List.map_append]; rfl
            · rw [List.take_add_one, hp, HAT.out.2, List.map_append]; rfl
          have z0 : (0 : Int) ≤ (k : Int) := by omega
          have z1 : (k : Int) < (ps.length : Int) := by omega
          have HLL : Hid (As.length ≤ 1000000 ∧ Ts.length ≤ 1000000) := by
            refine ⟨?_, ?_⟩
            · rw [HAT.out.1, List.length_map, List.length_take]; omega
            · rw [HAT.out.2, List.length_map, List.length_take]; omega
          have hlx : W.heap.size < wr.heap.size := (Array.getElem?_eq_some_iff.1 HI.out.box).1
          clear hp q0 q1 hks hlt y0 y1 y2 y3 y4
          have HNE2 : Hid (wr.heap.size ≠ W.heap.size) := by show _ ≠ _; omega
          have HBW : Hid (bp ≠ W.heap.size) := by have := HVS.out; have := HB5.out; show _ ≠ _; omega
          go_upto_region 27 with (fail)
          obtain ⟨wq, hwq⟩ : ∃ wq, wr.alloc (.cells #[.int .i64 pa, .int .i64 pb] 95) = wq := ⟨_, rfl⟩
          rw [hwq]
          have HQ : Hid (wq.heap[wr.heap.size]? = some (.cells #[.int .i64 pa, .int .i64 pb] 95 (0, 0)) ∧ wq.heap[bp]? = some (.cells cur 95 (0, 0)) ∧ Gr wr wq) := by
            rw [← hwq]
            exact ⟨heap_alloc_new wr _, (((Gr.refl wr).alloc _).heap bp (Array.getElem?_eq_some_iff.1 HC.out).1).trans HC.out, (Gr.refl wr).alloc _⟩
          have HIQ := Lib.hid (HI.out.grow HQ.out.2.2)
          clear hwq c0 c1 y5
          obtain ⟨⟨y0, y1, y2, y3, y4, y5⟩, -⟩ := HIQ.out.cells
          have c0 := cell_of_row _ _ 0 _ _ _ HQ.out.1
          simp at c0
          clear y0 y1 y2 y3 y4
          go_upto_region 28 with (at_builtin; refine YI.app5k HIQ.out pa rfl (.tmp 95) (.tmp 98) rfl rfl rfl HLL.out.2 ?_; intro g c w1 hb1 hy1 hk1; obtain ⟨⟨q0, q1, q2, q3, q4, q5⟩, p0, p1, p2, p3, p4, p5⟩ := six_facts hb1; have HY1 := Lib.hid hy1; have HP1 := Lib.hid (hk1 wr.heap.size _ _ HQ.out.1 (by decide) HNE2.out); have HC1 := Lib.hid (hk1 bp _ _ HQ.out.2.1 (by decide) HBW.out); clear hy1 hb1 hk1)
          obtain ⟨V27, hV27⟩ : ∃ V27, w1.setCell ⟨W.heap.size, 5, none⟩ (.slice (some ⟨g, 0, none⟩) (Ts.length + 1) c) = V27 := ⟨_, rfl⟩
          rw [hV27] at HY1 HP1 HC1 ⊢
          clear hV27 q0 q1 q2 q3 q4 q5 p0 p1 p2 p3 p4 p5 y5 c0
          obtain ⟨⟨y0, y1, y2, y3, y4, y5⟩, -⟩ := HY1.out.cells
          have c1 := cell_of_row _ _ 1 _ _ _ HP1.out
          simp at c1
          go_wp2_with (at_builtin; refine YI.app3k HY1.out pb rfl (.tmp 102) (.tmp 105) rfl rfl rfl HLL.out.1 ?_; intro g2 c2 w2 hb2 hy2 hk2; obtain ⟨⟨q0, q1, q2, q3, q4, q5⟩, p0, p1, p2, p3, p4, p5⟩ := six_facts hb2; have HY2 := Lib.hid hy2; have HC2 := Lib.hid (hk2 bp _ _ HC1.out (by decide) HBW.out); clear hy2 hb2 hk2)
          go_roundw
          case rel => exact ⟨k + 1, _, _, As ++ [pb], Ts ++ [pa], by omega, by go_num, HAT2, HY2, HC2⟩
          case measure => simp [intOf] <;> omega
        · obtain rfl : k = ps.length := by omega
          have HRQ := Lib.hid (R1.out _ HI.out.gr)
          obtain ⟨⟨r0, r1, r2, r3, r4, r5⟩, g0, g1, g2, g3, g4, g5⟩ := six_facts HRQ.out
          have e0 : S.take ps.length = S := List.take_of_length_le (by rw [HSL.out]; exact Nat.le_refl _)
          have HAE : Hid (As = S.map (·.2) ∧ Ts = S.map (·.1)) := by
            obtain ⟨a, b⟩ := HAT.out
            rw [e0] at a b
            exact ⟨a, b⟩
          clear e0
          go_wp2_with (fail)
          refine bodyPost_ret (results_inst _ _ 6 _ (w.heap.size + 1) _ _ _ _ _ _ _ rfl rfl (six_stores HRQ.out _ _ _ _ _ _) ⟨_, rfl⟩ ⟨_, rfl⟩ ⟨_, rfl⟩ ⟨_, _, _, rfl⟩ ⟨_, rfl⟩ ⟨_, _, _, rfl⟩) rfl ?_
          have e1 : As.length = S.length := by rw [HAE.out.1, List.length_map]
          have e2 : Ts.length = S.length := by rw [HAE.out.2, List.length_map]
          have e3 := HSL.out
          obtain ⟨ta, tt⟩ := HI.out.ti (by omega) (by omega)
          have ta' := (six_kt HRQ.out ta (by decide) (.int .i64 x.op) (.int .i64 x.width) (.int .i64 x.flags) (.slice Av As.length cv) (.int .u32 x.imm) (.slice Aw Ts.length cw)).lower (n₀ := w.heap.size) (by have := HWS.out; omega)
          have tt' := (six_kt HRQ.out tt (by decide) (.int .i64 x.op) (.int .i64 x.width) (.int .i64 x.flags) (.slice Av As.length cv) (.int .u32 x.imm) (.slice Aw Ts.length cw)).lower (n₀ := w.heap.size) (by have := HWS.out; omega)
          refine ⟨S, Av, cv, Aw, cw, by rw [← HPE.out]; exact HS1.out, HS2.out, by rw [e1, e2], ⟨?_, ?_⟩, ?_⟩
          · rw [← e1, ← HAE.out.1]; exact ta'
          · rw [← e2, ← HAE.out.2]; exact tt'
          · iterate 6 refine Gr.setCell ?_ (by show w.heap.size ≤ w.heap.size + 1; omega) _
            exact HB0.out.trans HI.out.gr
end Go.Proofs.YtiadpjhlomhjeaaGreat

namespace Go.Proofs.YtiadpjhlomhjeaaGreat
set_option linter.unusedSimpArgs false
set_option linter.unusedVariables false
open Go.RowKit

namespace Ref
theorem phi_sorted {f : Fn} {o : List Nat} (hv : Val f) (hk : Keeps f o) {b : Nat} {l : List Ins} (hl : f.blocks[b]? = some l) {x : Ins} (hx : x ∈ l) (h28 : x.op = 28) {S : List (Int × Int)}
    (hS : S.Perm ((phiL f o x).filter fun p => decide (0 ≤ p.1))) (hp : S.Pairwise fun p q => p.1 ≤ q.1) : sortP f.blocks.length (phiL f o x) = S := by
  obtain ⟨p1, p2, p3, p4⟩ := phi_parts hv hl hx h28
  have ha := apart_phi (f := f) (o := o) p1 p3
  have hne : ((phiL f o x).filter fun p => decide (0 ≤ p.1)).Pairwise fun a b => a.1 ≠ b.1 := by
    have h1 : ((phiL f o x).filter fun p => decide (0 ≤ p.1)).Pairwise fun a b => a.1 = b.1 → a.1 < 0 := List.Pairwise.sublist List.filter_sublist ha
    refine List.Pairwise.imp_of_mem (fun {a b} hma hmb h e => ?_) h1
    have := (List.mem_filter.1 hma).2
    simp only [decide_eq_true_eq] at this
    have := h e
    omega
  have hneS : S.Pairwise fun a b => a.1 ≠ b.1 := (hS.pairwise_iff (fun {_ _} h => Ne.symm h)).2 hne
  refine sortP_eq ha ((hp.and hneS).imp fun {a b} h => by omega) fun p => ?_
  rw [hS.mem_iff, List.mem_filter]
  simp only [decide_eq_true_eq]
  constructor
  · rintro ⟨h1, h2⟩
    refine ⟨h1, h2, ?_⟩
    obtain ⟨j, t, u, -, -, rfl⟩ := mem_phi.1 h1
    have := toOf_lt (o := o) t
    have := hk.toOrd.short
    show toOf o t < _
    omega
  · rintro ⟨h1, h2, -⟩; exact ⟨h1, h2⟩
end Ref
/-- What arrange's two maps must say. -/
structure Maps2 (f : Fn) (o : List Nat) (MV MB : Int → Option Int) : Prop where
  val : ∀ z, Ref.Kept f o z → mg MV z = Ref.num f o z
  blk : ∀ z : Int, 0 ≤ z → z < f.blocks.length → MB z = if 0 ≤ Ref.toOf o z then some (Ref.toOf o z) else none
theorem prZ_phi {MV MB : Int → Option Int} {f : Fn} {o : List Nat} : ∀ L : List (Int × Int), (∀ p ∈ L, MB p.1 = if 0 ≤ Ref.toOf o p.1 then some (Ref.toOf o p.1) else none) → (∀ p ∈ L, 0 ≤ Ref.toOf o p.1 → mg MV p.2 = Ref.num f o p.2) →
    prZ MV MB L = (L.map fun p => (Ref.toOf o p.1, Ref.num f o p.2)).filter fun p => decide (0 ≤ p.1)
  | [], _, _ => rfl
  | p :: r, h1, h2 => by
    have ih := prZ_phi r (fun q hq => h1 q (List.mem_cons_of_mem _ hq)) (fun q hq => h2 q (List.mem_cons_of_mem _ hq))
    have e1 := h1 p (by simp)
    have e2 := h2 p (by simp)
    unfold prZ at *
    rw [List.filterMap_cons, List.map_cons, List.filter_cons, e1]
    by_cases h : 0 ≤ Ref.toOf o p.1
    · rw [if_pos h, e2 h, ih]
      simp [h]
    · rw [if_neg h, ih]
      simp [h]
theorem changed_any {f : Fn} {o : List Nat} {MV MB : Int → Option Int} (hv : Ref.Val f) (hk : Ref.Keeps f o) (hm : Maps2 f o MV MB) {b : Nat} (hb : b ∈ o) {l : List Ins} (hl : f.blocks[b]? = some l) {i : Nat} {x : Ins} (hx : l[i]? = some x)
    (v : Value) (rv rb nv nb : Nat) (w : World) (hxv : InsV w.heap.size w v x) (hmv : MapAt rv nv w MV) (hmb : MapAt rb nb w MB) :
    Calls Tryz.prog 37 #[v, .map (some rv), .map (some rb)] w fun e w' => ∃ A3 c3 A4 c4, e = .returned (.agg #[.int .i64 (Ref.renum f o x).op, .int .i64 (Ref.renum f o x).width, .int .i64 (Ref.renum f o x).flags, .slice A3 (Ref.renum f o x).args.length c3, .int .u32 (Ref.renum f o x).imm, .slice A4 (Ref.renum f o x).to.length c4]) ∧
      Hid (TI w.heap.size w' (.slice A3 (Ref.renum f o x).args.length c3) (Ref.renum f o x).args ∧ TI w.heap.size w' (.slice A4 (Ref.renum f o x).to.length c4) (Ref.renum f o x).to) ∧ Gr w w' := by
  have hxm := List.mem_of_getElem? hx
  obtain ⟨q1, q2, q3, q4, q5⟩ := Ref.ins_facts hv hl hxm
  obtain ⟨sz1, sz2, sz3, sz4, sz5⟩ := hv.size
  have hN40 : Ref.count f ≤ 43 := by unfold Ref.count Ref.number; rw [List.take_length]; omega
  have wa : ∀ z ∈ x.args, Word z := fun z hz => by have := q2 z hz; unfold Word; omega
  have wt : ∀ z ∈ x.to, Word z := fun z hz => by have := q3 z hz; unfold Word; omega
  by_cases h28 : x.op = 28
  · obtain ⟨p1, p2, p3, p4⟩ := Ref.phi_parts hv hl hxm h28
    have e : prs MV MB x = (Ref.phiL f o x).filter fun p => decide (0 ≤ p.1) := by
      refine prZ_phi (x.to.zip x.args) (fun p hp => ?_) (fun p hp h0 => ?_)
      · have := p4 p.1 (List.of_mem_zip hp).1
        exact hm.blk _ this.1 this.2
      · obtain ⟨j, hj⟩ := List.getElem?_of_mem hp
        rw [List.getElem?_zip_eq_some] at hj
        obtain ⟨k, d, hkd, hpd, -⟩ := Ref.toOf_some h0
        exact hm.val _ (hk.phiArgs b hb l hl i x hx h28 j p.1 p.2 hj.1 hj.2 (by rw [hpd, Int.toNat_natCast]; exact List.mem_of_getElem? hkd))
    have hne : 0 < (prs MV MB x).length := by
      obtain ⟨t, ht, hto⟩ := hk.phiSome b hb l hl x hxm h28
      obtain ⟨k, -, hk2⟩ := Ref.toOf_kept hk.nodup (p4 t ht).1 hto
      obtain ⟨j, hj⟩ := List.getElem?_of_mem ht
      have hjl := (List.getElem?_eq_some_iff.1 hj).1
      obtain ⟨u, hu⟩ : ∃ u, x.args[j]? = some u := ⟨_, List.getElem?_eq_getElem (by omega)⟩
      rw [e]
      refine List.length_pos_of_mem (a := (Ref.toOf o t, Ref.num f o u)) (List.mem_filter.2 ⟨Ref.mem_phi.2 ⟨j, t, u, hj, hu, rfl⟩, ?_⟩)
      simp only [hk2, decide_eq_true_eq]; omega
    have hr : ∀ z ∈ x.to, ∀ c, MB z = some c → 0 ≤ c ∧ c < 64 := by
      intro z hz c hc
      have hz2 := p4 z hz
      rw [hm.blk z hz2.1 hz2.2] at hc
      have h1 := Ref.toOf_lt (o := o) z
      have h2 := hk.toOrd.short
      split at hc
      · cases hc; omega
      · cases hc
    refine (changed_phi x v rv rb nv nb MV MB w hxv hmv hmb h28 p1 wa wt (by omega) hr hne).mono ?_
    rintro e' w' ⟨S, A3, c3, A4, c4, hS, hP, he, ht, hg⟩
    rw [e] at hS
    have hs := Ref.phi_sorted hv hk hl hxm h28 hS hP
    rw [Ref.renum_phi f o h28, hs]
    simp only [List.length_map]
    exact ⟨A3, c3, A4, c4, he, ht, hg⟩
  · have ea : x.args.map (mg MV) = x.args.map (Ref.num f o) := List.map_congr_left fun z hz => hm.val z (hk.args b hb l hl i x hx h28 z hz)
    have et : x.to.map (mg MB) = x.to.map (Ref.toOf o) := List.map_congr_left fun t ht => by
      have h1 := q3 t ht
      have h2 := hk.closed b hb t (Ref.to_graph hv hl hxm h28 ht)
      obtain ⟨k, -, hk2⟩ := Ref.toOf_kept hk.nodup h1.1 h2
      unfold mg
      rw [hm.blk t h1.1 h1.2, if_pos (by omega)]; rfl
    refine (changed_no x v rv rb nv nb MV MB w hxv hmv hmb h28 wa wt (by omega) (by omega)).mono ?_
    rintro e' w' ⟨A3, c3, A4, c4, he, ht, hg⟩
    rw [ea, et] at ht
    rw [Ref.renum_no f o h28]
    simp only [List.length_map]
    exact ⟨A3, c3, A4, c4, he, ht, hg⟩
end Go.Proofs.YtiadpjhlomhjeaaGreat

namespace Go.Proofs.YtiadpjhlomhjeaaGreat
set_option linter.unusedSimpArgs false
set_option linter.unusedVariables false
open Go.RowKit

structure Dm (f : Fn) (o : List Nat) (M : Int → Option Int) (k i : Nat) : Prop where
  par : ∀ v : Nat, v < f.params.length → M (v : Int) = some (v : Int)
  blk : ∀ (j b : Nat) (l : List Ins) (i' : Nat), o[j]? = some b → f.blocks[b]? = some l → i' < l.length → (j < k ∨ j = k ∧ i' < i) → M ((Ref.number f b + i' : Nat) : Int) = some (Ref.num f o ((Ref.number f b + i' : Nat) : Int))
section
variable {f : Fn} {o : List Nat} {M : Int → Option Int} {k i : Nat}
theorem Dm.start (h : ∀ v : Nat, v < f.params.length → M (v : Int) = some (v : Int)) : Dm f o M 0 0 := ⟨h, fun j b l i' _ _ _ h => by omega⟩
theorem Dm.step (h : Dm f o M k i) {b : Nat} {l : List Ins} (hb : o[k]? = some b) (hl : f.blocks[b]? = some l) (hi : i < l.length) :
    Dm f o (fun j => if j = ((Ref.number f b + i : Nat) : Int) then some (Ref.num f o ((Ref.number f b + i : Nat) : Int)) else M j) k (i + 1) := by
  refine ⟨fun v hv => ?_, fun j c l' i' hj hc hi' hd => ?_⟩
  · show (if _ then _ else _) = _
    rw [if_neg (by unfold Ref.number; omega)]; exact h.par v hv
  · show (if _ then _ else _) = _
    by_cases e : ((Ref.number f c + i' : Nat) : Int) = ((Ref.number f b + i : Nat) : Int)
    · rw [if_pos e, e]
    · rw [if_neg e]
      refine h.blk j c l' i' hj hc hi' ?_
      rcases hd with hd | ⟨hd, hd'⟩
      · exact .inl hd
      · subst hd
        rw [hb] at hj
        cases hj
        exact .inr ⟨rfl, by omega⟩
theorem Dm.next (h : Dm f o M k i) {b : Nat} {l : List Ins} (hb : o[k]? = some b) (hl : f.blocks[b]? = some l) (hi : i = l.length) : Dm f o M (k + 1) 0 := by
  refine ⟨h.par, fun j c l' i' hj hc hi' hd => h.blk j c l' i' hj hc hi' ?_⟩
  rcases (by omega : j < k ∨ j = k) with q | q
  · exact .inl q
  · subst q
    rw [hb] at hj
    cases hj
    rw [hl] at hc
    cases hc
    exact .inr ⟨rfl, by omega⟩
theorem Dm.val (h : Dm f o M o.length 0) : ∀ z, Ref.Kept f o z → mg M z = Ref.num f o z := by
  intro v hv
  unfold mg
  rcases hv with ⟨h0, h1⟩ | ⟨j, b, i', l, x, hj, hb, hx, rfl⟩
  · have := h.par v.toNat (by omega)
    rw [show ((v.toNat : Nat) : Int) = v by omega] at this
    rw [Ref.num_param h1, this]; rfl
  · rw [h.blk j b l i' hj hb (List.getElem?_eq_some_iff.1 hx).1 (.inl (List.getElem?_eq_some_iff.1 hj).1)]; rfl
def Db (f : Fn) (o : List Nat) (M : Int → Option Int) (k : Nat) : Prop := ∀ z : Int, 0 ≤ z → z < f.blocks.length → M z = if 0 ≤ Ref.toOf o z ∧ Ref.toOf o z < k then some (Ref.toOf o z) else none
theorem Db.start : Db f o (fun _ => none) 0 := fun z _ _ => by rw [if_neg (by omega)]
theorem Db.step (h : Db f o M k) (ho : o.Nodup) {b : Nat} (hb : o[k]? = some b) : Db f o (fun j => if j = (b : Int) then some (k : Int) else M j) (k + 1) := by
  intro z h0 h1
  show (if _ then _ else _) = _
  by_cases e : z = (b : Int)
  · subst e
    have := Ref.toOf_get ho hb
    rw [if_pos rfl, this, if_pos (by omega)]
  · rw [if_neg e, h z h0 h1]
    have hne : Ref.toOf o z ≠ (k : Int) := fun q => by
      obtain ⟨j, c, hj, hz, hk⟩ := Ref.toOf_some (o := o) (b := z) (by omega)
      have : j = k := by omega
      subst this
      rw [hb] at hj
      cases hj
      exact e hz
    by_cases q : 0 ≤ Ref.toOf o z ∧ Ref.toOf o z < k
    · rw [if_pos q, if_pos (by omega)]
    · rw [if_neg q, if_neg (by omega)]
theorem Maps2.of {MB : Int → Option Int} (h : Dm f o M o.length 0) (hb : Db f o MB o.length) : Maps2 f o M MB :=
  ⟨h.val, fun z h0 h1 => by
    rw [hb z h0 h1]
    have := Ref.toOf_lt (o := o) z
    by_cases q : 0 ≤ Ref.toOf o z
    · rw [if_pos q, if_pos ⟨q, by omega⟩]
    · rw [if_neg q, if_neg (fun r => q r.1)]⟩
end
theorem NRow.other {B hb n r : Nat} {w w' : World} {ns : List Int} (h : NRow B hb n w ns) (g : w.grownBy w' (some r)) (hne : hb ≠ r) : NRow B hb n w' ns :=
  own_other h g fun k hk e => by
    have e1 : k = r := by injection e with e; exact e.symm
    have e2 : hb = k := by simpa [Value.ownBlock] using hk
    exact hne (e2.trans e1)
theorem MapAt.other {r s n : Nat} {w w' : World} {M : Int → Option Int} (h : MapAt r n w M) (g : w.grownBy w' (some s)) (hne : r ≠ s) : MapAt r n w' M :=
  h.same fun o hb _ => (g.block r (Array.getElem?_eq_some_iff.1 hb).1 (fun e => hne (by injection e))).trans hb
theorem set_num {f : Fn} {ns : List Int} {k : Nat} (hk : k < ns.length) (h : ∀ v : Nat, v < k → ns[v]? = some ((Ref.number f v : Nat) : Int)) : ∀ v : Nat, v < k + 1 → (ns.set k ((Ref.number f k : Nat) : Int))[v]? = some ((Ref.number f v : Nat) : Int) := by
  intro v hv
  rcases (by omega : v < k ∨ v = k) with q | q
  · rw [List.getElem?_set_ne (by omega)]; exact h v q
  · subst q; rw [List.getElem?_set_self hk]
end Go.Proofs.YtiadpjhlomhjeaaGreat

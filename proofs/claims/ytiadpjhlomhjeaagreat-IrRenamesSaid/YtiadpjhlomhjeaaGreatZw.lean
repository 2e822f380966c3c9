/- renumbered of the document. -/
import Derived.Test.YtiadpjhlomhjeaaGreatZp
import Derived.Test.YtiadpjhlomhjeaaGreatZv
import Derived.Deep.RegionHeld3
import Derived.Deep.RegionLaw
import Derived.BigQuiet
import Derived.Test.YtiadpjhlomhjeaaGreatRefC
import Derived.Test.YtiadpjhlomhjeaaGreatMvH

namespace Go.Proofs.YtiadpjhlomhjeaaGreat
set_option linter.unusedSimpArgs false
set_option linter.unusedVariables false
open Go.RowKit

theorem at0_of {l : List Int} {v : Int} (h0 : 0 ≤ v) (h1 : v < l.length) : l[v.toNat]? = some (Ref.at0 l v) := by
  unfold Ref.at0
  rw [List.getD_eq_getElem?_getD, List.getElem?_eq_getElem (by omega)]; rfl
theorem ints_cell {B : Nat} {w w' : World} {A : Option Addr} {n c : Nat} {zs : List Int} (h : IntsAt B w (.slice A n c) zs) (hB : B ≤ w.heap.size) (hp : 0 < zs.length) : ∃ b off, A = some ⟨b, off, none⟩ ∧ n = zs.length ∧ zs.length ≤ c ∧ ∀ w', Gr w w' → ∀ (j : Nat) z, zs[j]? = some z → w'.cell? ⟨b, off + j, none⟩ = some (.int .i64 z) := by
  obtain ⟨A', c', e, h1, h2, h3⟩ := h
  injection e with e1 e2 e3
  subst e1; subst e3
  obtain ⟨b, off, rfl, hb, hc⟩ := h3 hp
  exact ⟨b, off, rfl, e2, h1, fun w' g j z hz => (g.cell _ _ (by omega)).trans (hc j z hz)⟩
theorem six_facts {w : World} {B : Nat} {T : TypeId} {x0 x1 x2 x3 x4 x5 : Value} (hr : w.heap[B]? = some (.cells #[x0, x1, x2, x3, x4, x5] T (0, 0))) :
    (w.cell? ⟨B, 0, none⟩ = some x0 ∧ w.cell? ⟨B, 1, none⟩ = some x1 ∧ w.cell? ⟨B, 2, none⟩ = some x2 ∧ w.cell? ⟨B, 3, none⟩ = some x3 ∧ w.cell? ⟨B, 4, none⟩ = some x4 ∧ w.cell? ⟨B, 5, none⟩ = some x5) ∧
    w.frozen? ⟨B, 0, none⟩ = false ∧ w.frozen? ⟨B, 1, none⟩ = false ∧ w.frozen? ⟨B, 2, none⟩ = false ∧ w.frozen? ⟨B, 3, none⟩ = false ∧ w.frozen? ⟨B, 4, none⟩ = false ∧ w.frozen? ⟨B, 5, none⟩ = false :=
  ⟨⟨cell_of_row _ _ 0 _ _ _ hr, cell_of_row _ _ 1 _ _ _ hr, cell_of_row _ _ 2 _ _ _ hr, cell_of_row _ _ 3 _ _ _ hr, cell_of_row _ _ 4 _ _ _ hr, cell_of_row _ _ 5 _ _ _ hr⟩,
    frozen_of_row _ _ 0 _ _ hr, frozen_of_row _ _ 1 _ _ hr, frozen_of_row _ _ 2 _ _ hr, frozen_of_row _ _ 3 _ _ hr, frozen_of_row _ _ 4 _ _ hr, frozen_of_row _ _ 5 _ _ hr⟩
theorem map_take_snoc {l : List Int} {k : Nat} {z : Int} (g : Int → Int) (h : l[k]? = some z) : (l.take (k + 1)).map g = (l.take k).map g ++ [g z] := by
  rw [List.take_add_one, h, List.map_append]; rfl
set_option maxRecDepth 100000 in
set_option maxHeartbeats 8000000 in
theorem renumbered_no (x : Ins) (v vn vt : Value) (nums tos : List Int) (w : World) (hx : InsV w.heap.size w v x) (hn : IntsAt w.heap.size w vn nums) (ht : IntsAt w.heap.size w vt tos) (ho : x.op ≠ 28)
    (ha : ∀ z ∈ x.args, 0 ≤ z ∧ z < nums.length) (hto : ∀ z ∈ x.to, 0 ≤ z ∧ z < tos.length) (hl1 : x.args.length ≤ 100000) (hl2 : x.to.length ≤ 100000) :
    Calls Tryz.prog 47 #[v, vn, vt] w fun e w' => ∃ A3 c3 A4 c4, e = .returned (.agg #[.int .i64 x.op, .int .i64 x.width, .int .i64 x.flags, .slice A3 x.args.length c3, .int .u32 x.imm, .slice A4 x.to.length c4]) ∧ Hid (TI w.heap.size w' (.slice A3 x.args.length c3) (x.args.map (Ref.at0 nums)) ∧ TI w.heap.size w' (.slice A4 x.to.length c4) (x.to.map (Ref.at0 tos))) ∧ Gr w w' := by
  obtain ⟨va, vo, rfl, hxa, hxt⟩ := hx
  obtain ⟨W, hW⟩ : ∃ W, (w.alloc (.cells (insVal x va vo).cells 38)).alloc (.cells #[.int .i64 0, .int .i64 0, .int .i64 0, .slice none 0 0, .int .u32 0, .slice none 0 0] 38) = W := ⟨_, rfl⟩
  have hB0 : Gr w W := by rw [← hW]; exact ((Gr.refl w).alloc _).alloc _
  have hWs : W.heap.size = w.heap.size + 2 := by rw [← hW]; simp
  obtain ⟨Aa, ca, rfl, a1, a2, a3⟩ := hxa
  obtain ⟨At, ct, rfl, t1, t2, t3⟩ := hxt
  obtain ⟨An, cn, rfl, n1, n2, n3⟩ := hn
  obtain ⟨Ao, co, rfl, o1, o2, o3⟩ := ht
  have hr0 : W.heap[w.heap.size]? = some (.cells #[.int .i64 x.op, .int .i64 x.width, .int .i64 x.flags, .slice Aa x.args.length ca, .int .u32 x.imm, .slice At x.to.length ct] 38 (0, 0)) := by
    rw [← hW]; exact (((Gr.refl _).alloc _).heap _ (by simp)).trans (heap_alloc_new w _)
  have hr1 : W.heap[w.heap.size + 1]? = some (.cells #[.int .i64 0, .int .i64 0, .int .i64 0, .slice none 0 0, .int .u32 0, .slice none 0 0] 38 (0, 0)) := by
    rw [← hW]; exact heap_alloc2_new w _ _
  have k0 := cell_of_row _ _ 0 _ _ _ hr0
  have k1 := cell_of_row _ _ 1 _ _ _ hr0
  have k2 := cell_of_row _ _ 2 _ _ _ hr0
  have k3 := cell_of_row _ _ 3 _ _ _ hr0
  have k4 := cell_of_row _ _ 4 _ _ _ hr0
  have k5 := cell_of_row _ _ 5 _ _ _ hr0
  have cop : (x.op != 28) = true := by simpa using ho
  unfold insVal at hW ⊢
  simp only [Value.cells] at hW
  have R0 : Hid (∀ w', Gr W w' → w'.heap[w.heap.size]? = some (.cells #[.int .i64 x.op, .int .i64 x.width, .int .i64 x.flags, .slice Aa x.args.length ca, .int .u32 x.imm, .slice At x.to.length ct] 38 (0, 0))) := fun w' q => (q.heap _ (by omega)).trans hr0
  have R1 : Hid (∀ w', Gr W w' → w'.heap[w.heap.size + 1]? = some (.cells #[.int .i64 0, .int .i64 0, .int .i64 0, .slice none 0 0, .int .u32 0, .slice none 0 0] 38 (0, 0))) := fun w' q => (q.heap _ (by omega)).trans hr1
  have HA : Hid (∀ z ∈ x.args, 0 ≤ z ∧ z < nums.length) := ha
  have HTO : Hid (∀ z ∈ x.to, 0 ≤ z ∧ z < tos.length) := hto
  have A3 : Hid (0 < x.args.length → ∃ b off, Aa = some ⟨b, off, none⟩ ∧ b < w.heap.size ∧ ∀ j z, x.args[j]? = some z → w.cell? ⟨b, off + j, none⟩ = some (.int .i64 z)) := a3
  have T3 : Hid (0 < x.to.length → ∃ b off, At = some ⟨b, off, none⟩ ∧ b < w.heap.size ∧ ∀ j z, x.to[j]? = some z → w.cell? ⟨b, off + j, none⟩ = some (.int .i64 z)) := t3
  have N3 : Hid (0 < nums.length → ∃ b off, An = some ⟨b, off, none⟩ ∧ b < w.heap.size ∧ ∀ j z, nums[j]? = some z → w.cell? ⟨b, off + j, none⟩ = some (.int .i64 z)) := n3
  have O3 : Hid (0 < tos.length → ∃ b off, Ao = some ⟨b, off, none⟩ ∧ b < w.heap.size ∧ ∀ j z, tos[j]? = some z → w.cell? ⟨b, off + j, none⟩ = some (.int .i64 z)) := o3
  have HB0 := Lib.hid hB0
  obtain ⟨V, hV⟩ : ∃ V, W.alloc (.cells #[.int .i64 0, .int .i64 0, .int .i64 0, .slice none 0 0, .int .u32 0, .slice none 0 0] 38) = V := ⟨_, rfl⟩
  have hv0 : V.heap[W.heap.size]? = some (.cells #[.int .i64 0, .int .i64 0, .int .i64 0, .slice none 0 0, .int .u32 0, .slice none 0 0] 38 (0, 0)) := by rw [← hV]; exact heap_alloc_new W _
  have hgV : Gr W V := by rw [← hV]; exact (Gr.refl W).alloc _
  obtain ⟨⟨v0, v1, v2, v3, v4, v5⟩, f0, f1, f2, f3, f4, f5⟩ := six_facts hv0
  have HV0 := Lib.hid hv0
  have HGV := Lib.hid hgV
  obtain ⟨V2, hV2⟩ : ∃ V2, ((((((V.setCell ⟨W.heap.size, 0, none⟩ (.int .i64 x.op)).setCell ⟨W.heap.size, 1, none⟩ (.int .i64 x.width)).setCell ⟨W.heap.size, 2, none⟩ (.int .i64 x.flags)).setCell ⟨W.heap.size, 3, none⟩ (.slice none 0 0)).setCell ⟨W.heap.size, 4, none⟩ (.int .u32 x.imm)).setCell ⟨W.heap.size, 5, none⟩ (.slice none 0 0)) = V2 := ⟨_, rfl⟩
  have HY0 : Hid (YI W W.heap.size x.op x.width x.flags x.imm (.slice none 0 0) (.slice none 0 0) [] [] V2) := by
    rw [← hV2]
    refine YI.start ?_ (six_stores HV0.out _ _ _ _ _ _) (Nat.le_refl _)
    iterate 6 refine Gr.setCell ?_ (Nat.le_refl _) _
    exact HGV.out
  have HWS := Lib.hid hWs
  clear hr0 hr1 ha hto a3 t3 n3 o3 hB0 hv0 hgV hWs
  have HV2 := Lib.hid hV2
  clear hV2
  go_enter Tryz.func47, Tryz.ntmps47
  go_upto_region 2 with (fail)
  rw [HV2.out]
  clear v0 v1 v2 v3 v4 v5 f0 f1 f2 f3 f4 f5
  obtain ⟨⟨k0, k1, k2, k3, k4, k5⟩, -⟩ := six_facts (R0.out _ HY0.out.gr)
  go_wp2_with (fail)
  go_loopw [8] (fun i wr => ∃ (k : Nat) (va : Value) (L : List Int), k ≤ x.args.length ∧ i = .int .i64 k ∧ Hid (L = (x.args.take k).map (Ref.at0 nums)) ∧ Hid (YI W W.heap.size x.op x.width x.flags x.imm va (.slice none 0 0) L [] wr)) (fun i _ => x.args.length - (intOf i).toNat)
  case atStart => exact ⟨0, _, [], Nat.zero_le _, rfl, Lib.hid (by simp), HY0⟩
  case round =>
    obtain ⟨k, va, L, hk, rfl, HL, HI⟩ := hrel
    obtain ⟨⟨k0, k1, k2, k3, k4, k5⟩, -⟩ := six_facts (R0.out _ HI.out.gr)
    obtain ⟨Av, cv, rfl⟩ := HI.out.form3
    obtain ⟨⟨-, -, -, y3, -, -⟩, -⟩ := HI.out.cells
    by_cases hlt : k < x.args.length
    · obtain ⟨z, hz⟩ : ∃ z, x.args[k]? = some z := ⟨_, List.getElem?_eq_getElem hlt⟩
      obtain ⟨ba, oa, rfl, hba, hca⟩ := A3.out (by omega)
      have hzr := HA.out z (List.mem_of_getElem? hz)
      obtain ⟨bn, on, rfl, hbn, hcn⟩ := N3.out (by omega)
      have l0 := ((HB0.out.trans HI.out.gr).cell _ _ hba).trans (hca k z hz)
      have l1 := ((HB0.out.trans HI.out.gr).cell _ _ hbn).trans (hcn z.toNat _ (at0_of hzr.1 hzr.2))
      have HM : Hid (L ++ [Ref.at0 nums z] = (x.args.take (k + 1)).map (Ref.at0 nums)) := by show _ = _; rw [HL.out]; exact (map_take_snoc _ hz).symm
      obtain ⟨y, hy⟩ : ∃ y, Ref.at0 nums z = y := ⟨_, rfl⟩
      rw [hy] at l1 HM
      have z0 : (0 : Int) ≤ (k : Int) := by omega
      have z1 : (k : Int) < (x.args.length : Int) := by omega
      obtain ⟨z2, z3⟩ := hzr
      have HLL : Hid (L.length ≤ 1000000) := by show _ ≤ _; rw [HL.out, List.length_map, List.length_take]; omega
      clear hz hca hcn hy hlt
      go_upto_region 6 with (fail)
      have y4 : ∀ o, (wr.alloc o).cell? ⟨W.heap.size, 3, none⟩ = some (.slice Av L.length cv) := fun o => (HI.out.grow ((Gr.refl wr).alloc o)).cells.1.2.2.2.1
      go_region_law (refine YI.step3 (HI.out.grow (Gr.refl wr).drew) y rfl (.tmp 32) (.tmp 41) rfl (by rfl) (by rfl) HLL.out ?_; intro g c w1 hb1 hy1; obtain ⟨⟨q0, q1, q2, q3, q4, q5⟩, p0, p1, p2, p3, p4, p5⟩ := six_facts hb1; have HY1 := Lib.hid hy1; clear hy1 hb1)
      all_goals
        go_wp2_with (fail)
        go_roundw
        case rel => exact ⟨k + 1, _, L ++ [y], by omega, by go_num, HM, HY1⟩
        case measure => simp [intOf] <;> omega
    · obtain rfl : k = x.args.length := by omega
      have HLA : Hid (L = x.args.map (Ref.at0 nums)) := by show _ = _; rw [HL.out, List.take_length]
      have HI0 := HI
      clear HL HI y3
      obtain ⟨va, hva⟩ : ∃ va, Value.slice Av L.length cv = va := ⟨_, rfl⟩
      rw [hva] at HI0
      clear hva
      go_wp2_with (fail)
      go_loopw [9] (fun i wr => ∃ (k : Nat) (vt : Value) (T : List Int), k ≤ x.to.length ∧ i = .int .i64 k ∧ Hid (T = (x.to.take k).map (Ref.at0 tos)) ∧ Hid (YI W W.heap.size x.op x.width x.flags x.imm va vt L T wr)) (fun i _ => x.to.length - (intOf i).toNat)
      case atStart => exact ⟨0, _, [], Nat.zero_le _, rfl, Lib.hid (by simp), HI0⟩
      case round =>
        obtain ⟨k, vt, T, hk, rfl, HT, HI⟩ := hrel
        clear k0 k1 k2 k3 k4 k5
        obtain ⟨⟨k0, k1, k2, k3, k4, k5⟩, -⟩ := six_facts (R0.out _ HI.out.gr)
        obtain ⟨Aw, cw, rfl⟩ := HI.out.form5
        obtain ⟨Av', cv', rfl⟩ := HI.out.form3
        obtain ⟨⟨y0, y1, y2, y3, y4, y5⟩, -⟩ := HI.out.cells
        by_cases hlt : k < x.to.length
        · obtain ⟨z, hz⟩ : ∃ z, x.to[k]? = some z := ⟨_, List.getElem?_eq_getElem hlt⟩
          obtain ⟨ba, oa, rfl, hba, hca⟩ := T3.out (by omega)
          have hzr := HTO.out z (List.mem_of_getElem? hz)
          obtain ⟨bn, on, rfl, hbn, hcn⟩ := O3.out (by omega)
          have l0 := ((HB0.out.trans HI.out.gr).cell _ _ hba).trans (hca k z hz)
          have l1 := ((HB0.out.trans HI.out.gr).cell _ _ hbn).trans (hcn z.toNat _ (at0_of hzr.1 hzr.2))
          have HM : Hid (T ++ [Ref.at0 tos z] = (x.to.take (k + 1)).map (Ref.at0 tos)) := by show _ = _; rw [HT.out]; exact (map_take_snoc _ hz).symm
          obtain ⟨y, hy⟩ : ∃ y, Ref.at0 tos z = y := ⟨_, rfl⟩
          rw [hy] at l1 HM
          have z0 : (0 : Int) ≤ (k : Int) := by omega
          have z1 : (k : Int) < (x.to.length : Int) := by omega
          obtain ⟨z2, z3⟩ := hzr
          have HLL : Hid (T.length ≤ 1000000) := by show _ ≤ _; rw [HT.out, List.length_map, List.length_take]; omega
          clear hz hca hcn hy hlt y0 y1 y2 y3 y4
          go_upto_region 10 with (fail)
          have y6 : ∀ o, (wr.alloc o).cell? ⟨W.heap.size, 5, none⟩ = some (.slice Aw T.length cw) := fun o => (HI.out.grow ((Gr.refl wr).alloc o)).cells.1.2.2.2.2.2
          go_region_law (refine YI.step5 (HI.out.grow (Gr.refl wr).drew) y rfl (.tmp 52) (.tmp 61) rfl (by rfl) (by rfl) HLL.out ?_; intro g c w1 hb1 hy1; obtain ⟨⟨q0, q1, q2, q3, q4, q5⟩, p0, p1, p2, p3, p4, p5⟩ := six_facts hb1; have HY1 := Lib.hid hy1; clear hy1 hb1)
          all_goals
            go_wp2_with (fail)
            go_roundw
            case rel => exact ⟨k + 1, _, T ++ [y], by omega, by go_num, HM, HY1⟩
            case measure => simp [intOf] <;> omega
        · obtain rfl : k = x.to.length := by omega
          have HTA : Hid (T = x.to.map (Ref.at0 tos)) := by show _ = _; rw [HT.out, List.take_length]
          clear HT
          have HRQ := Lib.hid (R1.out _ HI.out.gr)
          obtain ⟨⟨r0, r1, r2, r3, r4, r5⟩, g0, g1, g2, g3, g4, g5⟩ := six_facts HRQ.out
          go_wp2_with (fail)
          refine bodyPost_ret (results_inst _ _ 6 _ (w.heap.size + 1) _ _ _ _ _ _ _ rfl rfl (six_stores HRQ.out _ _ _ _ _ _) ⟨_, rfl⟩ ⟨_, rfl⟩ ⟨_, rfl⟩ ⟨_, _, _, rfl⟩ ⟨_, rfl⟩ ⟨_, _, _, rfl⟩) rfl ?_
          have e1 : L.length = x.args.length := by rw [HLA.out, List.length_map]
          have e2 : T.length = x.to.length := by rw [HTA.out, List.length_map]
          obtain ⟨ta, tt⟩ := HI.out.ti (by omega) (by omega)
          have ta' := (six_kt HRQ.out ta (by decide) (.int .i64 x.op) (.int .i64 x.width) (.int .i64 x.flags) (.slice Av' L.length cv') (.int .u32 x.imm) (.slice Aw T.length cw)).lower (n₀ := w.heap.size) (by have := HWS.out; omega)
          have tt' := (six_kt HRQ.out tt (by decide) (.int .i64 x.op) (.int .i64 x.width) (.int .i64 x.flags) (.slice Av' L.length cv') (.int .u32 x.imm) (.slice Aw T.length cw)).lower (n₀ := w.heap.size) (by have := HWS.out; omega)
          rw [HLA.out] at ta'
          rw [HTA.out] at tt'
          refine ⟨Av', cv', Aw, cw, by rw [e1, e2], ⟨?_, ?_⟩, ?_⟩
          · simpa [e1, e2, HLA.out, HTA.out] using ta'
          · simpa [e1, e2, HLA.out, HTA.out] using tt'
          · iterate 6 refine Gr.setCell ?_ (by show w.heap.size ≤ w.heap.size + 1; omega) _
            exact HB0.out.trans HI.out.gr
end Go.Proofs.YtiadpjhlomhjeaaGreat

namespace Go.Proofs.YtiadpjhlomhjeaaGreat
set_option linter.unusedSimpArgs false
set_option linter.unusedVariables false
open Go.RowKit

set_option maxRecDepth 100000 in
set_option maxHeartbeats 8000000 in
theorem renumbered_phi (x : Ins) (v vn vt : Value) (nums tos : List Int) (w : World) (hx : InsV w.heap.size w v x) (hn : IntsAt w.heap.size w vn nums) (ht : IntsAt w.heap.size w vt tos) (ho : x.op = 28) (hlen : x.args.length = x.to.length)
    (ha : ∀ z ∈ x.args, 0 ≤ z ∧ z < nums.length) (hto : ∀ z ∈ x.to, 0 ≤ z ∧ z < tos.length) (hl2 : x.to.length ≤ 1000) (hl3 : tos.length ≤ 100) :
    Calls Tryz.prog 47 #[v, vn, vt] w fun e w' => ∃ A3 c3 A4 c4, e = .returned (.agg #[.int .i64 x.op, .int .i64 x.width, .int .i64 x.flags, .slice A3 (Ref.sortP tos.length (Ref.phiN nums tos x)).length c3, .int .u32 x.imm, .slice A4 (Ref.sortP tos.length (Ref.phiN nums tos x)).length c4]) ∧ Hid (TI w.heap.size w' (.slice A3 (Ref.sortP tos.length (Ref.phiN nums tos x)).length c3) ((Ref.sortP tos.length (Ref.phiN nums tos x)).map (·.2)) ∧ TI w.heap.size w' (.slice A4 (Ref.sortP tos.length (Ref.phiN nums tos x)).length c4) ((Ref.sortP tos.length (Ref.phiN nums tos x)).map (·.1))) ∧ Gr w w' := by
  obtain ⟨va, vo, rfl, hxa, hxt⟩ := hx
  obtain ⟨W, hW⟩ : ∃ W, (w.alloc (.cells (insVal x va vo).cells 38)).alloc (.cells #[.int .i64 0, .int .i64 0, .int .i64 0, .slice none 0 0, .int .u32 0, .slice none 0 0] 38) = W := ⟨_, rfl⟩
  have hB0 : Gr w W := by rw [← hW]; exact ((Gr.refl w).alloc _).alloc _
  have hWs : W.heap.size = w.heap.size + 2 := by rw [← hW]; simp
  obtain ⟨Aa, ca, rfl, a1, a2, a3⟩ := hxa
  obtain ⟨At, ct, rfl, t1, t2, t3⟩ := hxt
  obtain ⟨An, cn, rfl, n1, n2, n3⟩ := hn
  obtain ⟨Ao, co, rfl, o1, o2, o3⟩ := ht
  have hr0 : W.heap[w.heap.size]? = some (.cells #[.int .i64 x.op, .int .i64 x.width, .int .i64 x.flags, .slice Aa x.args.length ca, .int .u32 x.imm, .slice At x.to.length ct] 38 (0, 0)) := by
    rw [← hW]; exact (((Gr.refl _).alloc _).heap _ (by simp)).trans (heap_alloc_new w _)
  have hr1 : W.heap[w.heap.size + 1]? = some (.cells #[.int .i64 0, .int .i64 0, .int .i64 0, .slice none 0 0, .int .u32 0, .slice none 0 0] 38 (0, 0)) := by
    rw [← hW]; exact heap_alloc2_new w _ _
  have k0 := cell_of_row _ _ 0 _ _ _ hr0
  have k1 := cell_of_row _ _ 1 _ _ _ hr0
  have k2 := cell_of_row _ _ 2 _ _ _ hr0
  have k3 := cell_of_row _ _ 3 _ _ _ hr0
  have k4 := cell_of_row _ _ 4 _ _ _ hr0
  have k5 := cell_of_row _ _ 5 _ _ _ hr0
  have cop : (x.op != 28) = false := by simpa using ho
  have HLEN := Lib.hid hlen
  unfold insVal at hW ⊢
  simp only [Value.cells] at hW
  have R0 : Hid (∀ w', Gr W w' → w'.heap[w.heap.size]? = some (.cells #[.int .i64 x.op, .int .i64 x.width, .int .i64 x.flags, .slice Aa x.args.length ca, .int .u32 x.imm, .slice At x.to.length ct] 38 (0, 0))) := fun w' q => (q.heap _ (by omega)).trans hr0
  have R1 : Hid (∀ w', Gr W w' → w'.heap[w.heap.size + 1]? = some (.cells #[.int .i64 0, .int .i64 0, .int .i64 0, .slice none 0 0, .int .u32 0, .slice none 0 0] 38 (0, 0))) := fun w' q => (q.heap _ (by omega)).trans hr1
  have HA : Hid (∀ z ∈ x.args, 0 ≤ z ∧ z < nums.length) := ha
  have HTO : Hid (∀ z ∈ x.to, 0 ≤ z ∧ z < tos.length) := hto
  have A3 : Hid (0 < x.args.length → ∃ b off, Aa = some ⟨b, off, none⟩ ∧ b < w.heap.size ∧ ∀ j z, x.args[j]? = some z → w.cell? ⟨b, off + j, none⟩ = some (.int .i64 z)) := a3
  have T3 : Hid (0 < x.to.length → ∃ b off, At = some ⟨b, off, none⟩ ∧ b < w.heap.size ∧ ∀ j z, x.to[j]? = some z → w.cell? ⟨b, off + j, none⟩ = some (.int .i64 z)) := t3
  have N3 : Hid (0 < nums.length → ∃ b off, An = some ⟨b, off, none⟩ ∧ b < w.heap.size ∧ ∀ j z, nums[j]? = some z → w.cell? ⟨b, off + j, none⟩ = some (.int .i64 z)) := n3
  have O3 : Hid (0 < tos.length → ∃ b off, Ao = some ⟨b, off, none⟩ ∧ b < w.heap.size ∧ ∀ j z, tos[j]? = some z → w.cell? ⟨b, off + j, none⟩ = some (.int .i64 z)) := o3
  have HB0 := Lib.hid hB0
  obtain ⟨V, hV⟩ : ∃ V, W.alloc (.cells #[.int .i64 0, .int .i64 0, .int .i64 0, .slice none 0 0, .int .u32 0, .slice none 0 0] 38) = V := ⟨_, rfl⟩
  have hv0 : V.heap[W.heap.size]? = some (.cells #[.int .i64 0, .int .i64 0, .int .i64 0, .slice none 0 0, .int .u32 0, .slice none 0 0] 38 (0, 0)) := by rw [← hV]; exact heap_alloc_new W _
  have hgV : Gr W V := by rw [← hV]; exact (Gr.refl W).alloc _
  obtain ⟨⟨v0, v1, v2, v3, v4, v5⟩, f0, f1, f2, f3, f4, f5⟩ := six_facts hv0
  have HV0 := Lib.hid hv0
  have HGV := Lib.hid hgV
  obtain ⟨V2, hV2⟩ : ∃ V2, ((((((V.setCell ⟨W.heap.size, 0, none⟩ (.int .i64 x.op)).setCell ⟨W.heap.size, 1, none⟩ (.int .i64 x.width)).setCell ⟨W.heap.size, 2, none⟩ (.int .i64 x.flags)).setCell ⟨W.heap.size, 3, none⟩ (.slice none 0 0)).setCell ⟨W.heap.size, 4, none⟩ (.int .u32 x.imm)).setCell ⟨W.heap.size, 5, none⟩ (.slice none 0 0)) = V2 := ⟨_, rfl⟩
  have HY0 : Hid (YI W W.heap.size x.op x.width x.flags x.imm (.slice none 0 0) (.slice none 0 0) [] [] V2) := by
    rw [← hV2]
    refine YI.start ?_ (six_stores HV0.out _ _ _ _ _ _) (Nat.le_refl _)
    iterate 6 refine Gr.setCell ?_ (Nat.le_refl _) _
    exact HGV.out
  have HWS := Lib.hid hWs
  clear hr0 hr1 ha hto a3 t3 n3 o3 hB0 hv0 hgV hWs hlen ho
  have HV2 := Lib.hid hV2
  clear hV2
  go_enter Tryz.func47, Tryz.ntmps47
  go_upto_region 2 with (fail)
  rw [HV2.out]
  clear v0 v1 v2 v3 v4 v5 f0 f1 f2 f3 f4 f5
  obtain ⟨⟨k0, k1, k2, k3, k4, k5⟩, -⟩ := six_facts (R0.out _ HY0.out.gr)
  go_wp2_with (fail)
  go_loopw [10, 11] (fun i _ wr => ∃ (b : Nat) (va vt : Value) (S : List (Int × Int)) (As Ts : List Int), b ≤ tos.length ∧ i = .int .i64 b ∧ Hid (S = Ref.phiPre nums tos x b 0 ∧ As = S.map (·.2) ∧ Ts = S.map (·.1)) ∧ Hid (YI W W.heap.size x.op x.width x.flags x.imm va vt As Ts wr)) (fun i _ _ => tos.length - (intOf i).toNat)
  case atStart => exact ⟨0, _, _, [], [], [], Nat.zero_le _, rfl, Lib.hid ⟨(Ref.phiPre_zero _ _ _).symm, rfl, rfl⟩, HY0⟩
  case round =>
    obtain ⟨b, va, vt, S, As, Ts, hb, rfl, HS, HI⟩ := hrel
    clear k0 k1 k2 k3 k4 k5
    by_cases hlt : b < tos.length
    · have z0 : (0 : Int) ≤ (b : Int) := by omega
      have z1 : (b : Int) < (tos.length : Int) := by omega
      clear hlt
      go_wp2_with (fail)
      go_loopw [11] (fun i wr => ∃ (k : Nat) (va vt : Value) (S : List (Int × Int)) (As Ts : List Int), k ≤ x.to.length ∧ i = .int .i64 k ∧ Hid (S = Ref.phiPre nums tos x b k ∧ As = S.map (·.2) ∧ Ts = S.map (·.1)) ∧ Hid (YI W W.heap.size x.op x.width x.flags x.imm va vt As Ts wr)) (fun i _ => x.to.length - (intOf i).toNat)
      case atStart => exact ⟨0, va, vt, S, As, Ts, Nat.zero_le _, rfl, HS, HI⟩
      case round =>
        clear HS HI
        obtain ⟨k, va, vt, S, As, Ts, hk, rfl, HS, HI⟩ := hrel
        obtain ⟨⟨k0, k1, k2, k3, k4, k5⟩, -⟩ := six_facts (R0.out _ HI.out.gr)
        by_cases hlt : k < x.to.length
        · obtain ⟨Av, cv, rfl⟩ := HI.out.form3
          obtain ⟨Aw, cw, rfl⟩ := HI.out.form5
          obtain ⟨⟨y0, y1, y2, y3, y4, y5⟩, -⟩ := HI.out.cells
          have hlt' : k < x.args.length := by have := HLEN.out; omega
          obtain ⟨z, hz⟩ : ∃ z, x.to[k]? = some z := ⟨_, List.getElem?_eq_getElem hlt⟩
          obtain ⟨u, hu⟩ : ∃ z, x.args[k]? = some z := ⟨_, List.getElem?_eq_getElem hlt'⟩
          obtain ⟨bt, ot, rfl, hbt, hct⟩ := T3.out (by omega)
          obtain ⟨ba, oa, rfl, hba, hca⟩ := A3.out (by omega)
          have hzr := HTO.out z (List.mem_of_getElem? hz)
          have hur := HA.out u (List.mem_of_getElem? hu)
          obtain ⟨bo, oo, rfl, hbo, hco⟩ := O3.out (by omega)
          obtain ⟨bn, on, rfl, hbn, hcn⟩ := N3.out (by omega)
          have hgw := HB0.out.trans HI.out.gr
          have l0 := (hgw.cell _ _ hbt).trans (hct k z hz)
          have l1 := (hgw.cell _ _ hbo).trans (hco z.toNat _ (at0_of hzr.1 hzr.2))
          have l2 := (hgw.cell _ _ hba).trans (hca k u hu)
          have l3 := (hgw.cell _ _ hbn).trans (hcn u.toNat _ (at0_of hur.1 hur.2))
          have HST := Lib.hid (Ref.phiPre_step nums tos (b := b) hz hu)
          have HLL : Hid (As.length ≤ 1000000 ∧ Ts.length ≤ 1000000) := by
            have h1 := Ref.phiPre_le nums tos x b k HLEN.out
            have h2 : (b + 1) * x.to.length ≤ 101 * 1000 := Nat.mul_le_mul (by omega) hl2
            obtain ⟨e1, e2, e3⟩ := HS.out
            constructor
            · rw [e2, List.length_map, e1]; omega
            · rw [e3, List.length_map, e1]; omega
          obtain ⟨z2, z3⟩ := hzr
          obtain ⟨z4, z5⟩ := hur
          have z6 : (0 : Int) ≤ (k : Int) := by omega
          have z7 : (k : Int) < (x.to.length : Int) := by omega
          have z8 : (k : Int) < (x.args.length : Int) := by omega
          obtain ⟨y, hy⟩ : ∃ y, Ref.at0 nums u = y := ⟨_, rfl⟩
          rw [hy] at l3 HST
          clear hz hu hct hca hco hcn hy hlt hlt' hgw y0 y1 y2 y4
          by_cases hbz : Ref.at0 tos z = (b : Int)
          · have HS2 : Hid (S ++ [((b : Int), y)] = Ref.phiPre nums tos x b (k + 1)) := by show _ = _; rw [HST.out, if_pos hbz, HS.out.1]
            rw [hbz] at l1
            clear hbz HST
            go_upto_region 19 with (fail)
            have y4 : ∀ o, (wr.alloc o).cell? ⟨W.heap.size, 3, none⟩ = some (.slice Av As.length cv) := fun o => (HI.out.grow ((Gr.refl wr).alloc o)).cells.1.2.2.2.1
            go_region_law (refine YI.step3 (HI.out.grow (Gr.refl wr).drew) y rfl (.tmp 89) (.tmp 98) rfl (by rfl) (by rfl) HLL.out.1 ?_; intro g c w1 hb1 hy1; obtain ⟨⟨q0, q1, q2, q3, q4, q5⟩, p0, p1, p2, p3, p4, p5⟩ := six_facts hb1; have HY1 := Lib.hid hy1; clear hy1 hb1)
            all_goals
              obtain ⟨V19, hV19⟩ : ∃ V19, w1.setCell ⟨W.heap.size, 3, none⟩ (.slice (some ⟨g, 0, none⟩) (As.length + 1) c) = V19 := ⟨_, rfl⟩
              rw [hV19] at HY1 ⊢
              clear hV19 q0 q1 q2 q3 q4 q5 p0 p1 p2 p3 p4 p5 y3 y5 k0 k1 k2 k3 k4 k5 y4 l0 l1 l2 l3
              obtain ⟨⟨y0, y1, y2, y3, y4, y5⟩, -⟩ := HY1.out.cells
              go_wp2_with (at_builtin; refine YI.app5 HY1.out (b : Int) rfl _ _ rfl rfl rfl HLL.out.2 ?_; intro g2 c2 w2 hb2 hy2; obtain ⟨⟨q0, q1, q2, q3, q4, q5⟩, p0, p1, p2, p3, p4, p5⟩ := six_facts hb2; have HY2 := Lib.hid hy2; clear hy2 hb2)
              go_roundw
              case rel => exact ⟨k + 1, _, _, S ++ [((b : Int), y)], As ++ [y], Ts ++ [(b : Int)], by omega, by go_num, Lib.hid ⟨HS2.out, by rw [HS.out.2.1]; simp, by rw [HS.out.2.2]; simp⟩, HY2⟩
              case measure => simp [intOf] <;> omega
          · have HS2 : Hid (S = Ref.phiPre nums tos x b (k + 1)) := by show _ = _; rw [HST.out, if_neg hbz, HS.out.1]
            obtain ⟨tz, htz⟩ : ∃ tz, Ref.at0 tos z = tz := ⟨_, rfl⟩
            rw [htz] at l1 hbz
            have c1 : (tz == (b : Int)) = false := by simpa using hbz
            clear hbz HST htz
            go_wp2_with (fail)
            go_roundw
            case rel => exact ⟨k + 1, _, _, S, As, Ts, by omega, by go_num, Lib.hid ⟨HS2.out, HS.out.2.1, HS.out.2.2⟩, HI⟩
            case measure => simp [intOf] <;> omega
        · obtain rfl : k = x.to.length := by omega
          have HS2 : Hid (S = Ref.phiPre nums tos x (b + 1) 0) := by show _ = _; rw [HS.out.1]; exact Ref.phiPre_next _ _ HLEN.out _
          go_wp2_with (fail)
          go_roundw
          case rel => exact ⟨b + 1, va, vt, S, As, Ts, by omega, by go_num, Lib.hid ⟨HS2.out, HS.out.2⟩, HI⟩
          case measure => simp [intOf] <;> omega
    · obtain rfl : b = tos.length := by omega
      have HSE : Hid (S = Ref.sortP tos.length (Ref.phiN nums tos x)) := by show _ = _; rw [HS.out.1]; exact Ref.phiPre_end _ _ _
      obtain ⟨Av, cv, rfl⟩ := HI.out.form3
      obtain ⟨Aw, cw, rfl⟩ := HI.out.form5
      obtain ⟨⟨y0, y1, y2, y3, y4, y5⟩, -⟩ := HI.out.cells
      have HRQ := Lib.hid (R1.out _ HI.out.gr)
      obtain ⟨⟨r0, r1, r2, r3, r4, r5⟩, g0, g1, g2, g3, g4, g5⟩ := six_facts HRQ.out
      have HLL : Hid (S.length ≤ 1000000) := by
        have h1 := Ref.phiPre_le nums tos x tos.length 0 HLEN.out
        have h2 : (tos.length + 1) * x.to.length ≤ 101 * 1000 := Nat.mul_le_mul (by omega) hl2
        show _ ≤ _
        rw [HS.out.1]; omega
      go_wp2_with (fail)
      refine bodyPost_ret (results_inst _ _ 6 _ (w.heap.size + 1) _ _ _ _ _ _ _ rfl rfl (six_stores HRQ.out _ _ _ _ _ _) ⟨_, rfl⟩ ⟨_, rfl⟩ ⟨_, rfl⟩ ⟨_, _, _, rfl⟩ ⟨_, rfl⟩ ⟨_, _, _, rfl⟩) rfl ?_
      obtain ⟨-, e1, e2⟩ := HS.out
      have hl := HLL.out
      have ea : As.length = S.length := by rw [e1, List.length_map]
      have et : Ts.length = S.length := by rw [e2, List.length_map]
      obtain ⟨ta, tt⟩ := HI.out.ti (by omega) (by omega)
      have ta' := (six_kt HRQ.out ta (by decide) (.int .i64 x.op) (.int .i64 x.width) (.int .i64 x.flags) (.slice Av As.length cv) (.int .u32 x.imm) (.slice Aw Ts.length cw)).lower (n₀ := w.heap.size) (by have := HWS.out; omega)
      have tt' := (six_kt HRQ.out tt (by decide) (.int .i64 x.op) (.int .i64 x.width) (.int .i64 x.flags) (.slice Av As.length cv) (.int .u32 x.imm) (.slice Aw Ts.length cw)).lower (n₀ := w.heap.size) (by have := HWS.out; omega)
      rw [← HSE.out]
      refine ⟨Av, cv, Aw, cw, by rw [ea, et], ⟨?_, ?_⟩, ?_⟩
      · rw [← ea, ← e1]; exact ta'
      · rw [← et, ← e2]; exact tt'
      · iterate 6 refine Gr.setCell ?_ (by show w.heap.size ≤ w.heap.size + 1; omega) _
        exact HB0.out.trans HI.out.gr
/-- renumbered: the instruction with the numbers that the lists say. -/
theorem renumbered_any (x : Ins) (v vn vt : Value) (nums tos : List Int) (w : World) (hx : InsV w.heap.size w v x) (hn : IntsAt w.heap.size w vn nums) (ht : IntsAt w.heap.size w vt tos) (hp : x.op = 28 → x.args.length = x.to.length)
    (ha : ∀ z ∈ x.args, 0 ≤ z ∧ z < nums.length) (hto : ∀ z ∈ x.to, 0 ≤ z ∧ z < tos.length) (hl1 : x.args.length ≤ 1000) (hl2 : x.to.length ≤ 1000) (hl3 : tos.length ≤ 100) :
    Calls Tryz.prog 47 #[v, vn, vt] w fun e w' => ∃ A3 c3 A4 c4, e = .returned (.agg #[.int .i64 (Ref.rn nums tos x).op, .int .i64 (Ref.rn nums tos x).width, .int .i64 (Ref.rn nums tos x).flags, .slice A3 (Ref.rn nums tos x).args.length c3, .int .u32 (Ref.rn nums tos x).imm, .slice A4 (Ref.rn nums tos x).to.length c4]) ∧
      Hid (TI w.heap.size w' (.slice A3 (Ref.rn nums tos x).args.length c3) (Ref.rn nums tos x).args ∧ TI w.heap.size w' (.slice A4 (Ref.rn nums tos x).to.length c4) (Ref.rn nums tos x).to) ∧ Gr w w' := by
  by_cases h : x.op = 28
  · have e : Ref.rn nums tos x = ⟨x.op, x.width, x.flags, (Ref.sortP tos.length (Ref.phiN nums tos x)).map (·.2), x.imm, (Ref.sortP tos.length (Ref.phiN nums tos x)).map (·.1)⟩ := by unfold Ref.rn; rw [if_pos h]
    rw [e]
    simp only [List.length_map]
    exact renumbered_phi x v vn vt nums tos w hx hn ht h (hp h) ha hto hl2 hl3
  · have e : Ref.rn nums tos x = ⟨x.op, x.width, x.flags, x.args.map (Ref.at0 nums), x.imm, x.to.map (Ref.at0 tos)⟩ := by unfold Ref.rn; rw [if_neg h]
    rw [e]
    simp only [List.length_map]
    exact renumbered_no x v vn vt nums tos w hx hn ht h ha hto (by omega) (by omega)
end Go.Proofs.YtiadpjhlomhjeaaGreat

namespace Go.Proofs.YtiadpjhlomhjeaaGreat
set_option linter.unusedSimpArgs false
set_option linter.unusedVariables false
open Go.RowKit

/-- ns: the new numbers, as far as k blocks of the order and i instructions of the next. -/
structure Dn (f : Fn) (o : List Nat) (N : Nat) (ns : List Int) (k i : Nat) : Prop where
  len : ns.length = N
  par : ∀ v : Nat, v < f.params.length → ns[v]? = some (v : Int)
  blk : ∀ (j b : Nat) (l : List Ins) (i' : Nat), o[j]? = some b → f.blocks[b]? = some l → i' < l.length → (j < k ∨ j = k ∧ i' < i) → ns[Ref.number f b + i']? = some (Ref.num f o ((Ref.number f b + i' : Nat) : Int))
section
variable {f : Fn} {o : List Nat} {N : Nat} {ns : List Int} {k i : Nat}
theorem Dn.start (h1 : ns.length = N) (h2 : ∀ v : Nat, v < f.params.length → ns[v]? = some (v : Int)) : Dn f o N ns 0 0 :=
  ⟨h1, h2, fun j b l i' _ _ _ h => by omega⟩
theorem Dn.step (h : Dn f o N ns k i) {b : Nat} {l : List Ins} (hb : o[k]? = some b) (hl : f.blocks[b]? = some l) (hi : i < l.length) (hN : Ref.number f b + i < N) : Dn f o N (ns.set (Ref.number f b + i) (Ref.num f o ((Ref.number f b + i : Nat) : Int))) k (i + 1) := by
  refine ⟨by rw [List.length_set]; exact h.len, fun v hv => ?_, fun j c l' i' hj hc hi' hd => ?_⟩
  · rw [List.getElem?_set_ne (by unfold Ref.number; omega)]; exact h.par v hv
  · by_cases e : Ref.number f b + i = Ref.number f c + i'
    · rw [← e, List.getElem?_set_self (by rw [h.len]; exact hN)]
    · rw [List.getElem?_set_ne e]
      refine h.blk j c l' i' hj hc hi' ?_
      rcases hd with hd | ⟨hd, hd'⟩
      · exact .inl hd
      · subst hd
        rw [hb] at hj
        cases hj
        exact .inr ⟨rfl, by omega⟩
theorem Dn.next (h : Dn f o N ns k i) {b : Nat} {l : List Ins} (hb : o[k]? = some b) (hl : f.blocks[b]? = some l) (hi : i = l.length) : Dn f o N ns (k + 1) 0 := by
  refine ⟨h.len, h.par, fun j c l' i' hj hc hi' hd => h.blk j c l' i' hj hc hi' ?_⟩
  rcases (by omega : j < k ∨ j = k) with q | q
  · exact .inl q
  · subst q
    rw [hb] at hj
    cases hj
    rw [hl] at hc
    cases hc
    exact .inr ⟨rfl, by omega⟩
theorem Dn.says {tos : List Int} (h : Dn f o N ns o.length 0) (hl : tos.length = f.blocks.length) (hto : ∀ t : Int, 0 ≤ t → t < f.blocks.length → Ref.at0 tos t = Ref.toOf o t) : Ref.Says f o ns tos := by
  refine ⟨hl, hto, fun v hv => ?_⟩
  unfold Ref.at0
  rcases hv with ⟨h0, h1⟩ | ⟨j, b, i', l, x, hj, hb, hx, rfl⟩
  · rw [Ref.num_param h1, List.getD_eq_getElem?_getD, h.par v.toNat (by omega)]
    show ((v.toNat : Nat) : Int) = v
    omega
  · rw [Int.toNat_natCast, List.getD_eq_getElem?_getD, h.blk j b l i' hj hb (List.getElem?_eq_some_iff.1 hx).1 (.inl (List.getElem?_eq_some_iff.1 hj).1)]
    rfl
end
theorem start_le {f : Fn} {o : List Nat} (hv : Ref.Val f) (hk : Ref.Keeps f o) {k b : Nat} {l : List Ins} (hb : o[k]? = some b) (hl : f.blocks[b]? = some l) : Ref.start f (o.take k) + l.length ≤ 43 := by
  obtain ⟨l', h1, h2⟩ := Ref.moved_blk hk.toOrd hb
  rw [hl] at h1
  cases h1
  have h3 := Ref.number_count (Ref.moved f o) h2
  rw [Ref.moved_number, List.length_map] at h3
  have h4 := hk.toOrd.total
  obtain ⟨s1, s2, s3, s4, s5⟩ := hv.size
  have h5 : Ref.count (Ref.moved f o) = f.params.length + Ref.total (Ref.moved f o).blocks := by unfold Ref.count Ref.number; rw [List.take_length]; rfl
  omega
theorem o_pos' {f : Fn} {o : List Nat} (hk : Ref.Keeps f o) : 1 ≤ o.length := Ref.o_pos hk.toOrd
theorem set_par {ns : List Int} {k : Nat} (hk : k < ns.length) (h : ∀ v : Nat, v < k → ns[v]? = some (v : Int)) : ∀ v : Nat, v < k + 1 → (ns.set k (k : Int))[v]? = some (v : Int) := by
  intro v hv
  rcases (by omega : v < k ∨ v = k) with q | q
  · rw [List.getElem?_set_ne (by omega)]; exact h v q
  · subst q; rw [List.getElem?_set_self hk]
end Go.Proofs.YtiadpjhlomhjeaaGreat

/- moved of the document. Printed by gen_mwf.py. -/
import Derived.Test.YtiadpjhlomhjeaaGreatZw
import Derived.Test.YtiadpjhlomhjeaaGreatZv
import Derived.Deep.RegionHeld3
import Derived.Deep.DeepCutAuto
import Derived.Deep.CutRange
import Derived.Deep.CutBlock
import Derived.Deep.RegionWith
import Derived.BigQuiet
import Derived.IntWalk
namespace Go.Proofs.YtiadpjhlomhjeaaGreat
set_option linter.unusedSimpArgs false
set_option linter.unusedVariables false
open Go.RowKit

set_option maxRecDepth 100000 in
set_option maxHeartbeats 16000000 in
theorem moved_any (v vo vt : Value) (f : Fn) (o : List Nat) (tos : List Int) (w : World) (hf : FnAt w.heap.size w v f) (hvo : IntsAt w.heap.size w vo (o.map fun b : Nat => (b : Int))) (hvt : IntsAt w.heap.size w vt tos) (hv : Ref.Val f) (hk : Ref.Keeps f o) (htl : tos.length = f.blocks.length) (hto : ∀ t : Int, 0 ≤ t → t < f.blocks.length → Ref.at0 tos t = Ref.toOf o t) :
    Calls Tryz.prog 20 #[v, vo, vt] w fun e w' => ∃ A1 c1 A2 c2 A3 c3, e = .returned (.agg #[.slice A1 f.params.length c1, .int .i64 f.ret, .slice A2 f.slots.length c2, .slice A3 o.length c3]) ∧ Hid (CpAt w.heap.size w' (.agg #[.slice A1 f.params.length c1, .int .i64 f.ret, .slice A2 f.slots.length c2, .slice A3 o.length c3]) (Ref.moved f o)) ∧ Gr w w' := by
  obtain ⟨i0, hi0, hx0, hx1, hx2⟩ := info_parts info_int
  have HVAL := Lib.hid hv
  have HK := Lib.hid hk
  obtain ⟨sz1, sz2, sz3, sz4, sz5⟩ := hv.size
  have hol := hk.toOrd.short
  have hN40 : Ref.count f ≤ 43 := by unfold Ref.count Ref.number; rw [List.take_length]; omega
  have hpc : f.params.length ≤ Ref.count f := by unfold Ref.count Ref.number; omega
  have HCT : Hid (∀ w1, Gr w w1 → Calls Tryz.prog 45 #[v] w1 fun e w' => e = .returned (.int .i64 (Ref.count f)) ∧ Gr w1 w') := fun w1 q => count_any v f w1 (hf.gr q) (by omega)
  have HNB : Hid (∀ b, b ≤ f.blocks.length → ∀ w1, Gr w w1 → Calls Tryz.prog 46 #[v, .int .i64 (b : Nat)] w1 fun e w' => e = .returned (.int .i64 (Ref.number f b)) ∧ Gr w1 w') := fun b hb w1 q => Number_any v f b w1 (hf.gr q) hb (by omega)
  have HT := Lib.hid hvt
  have HTO : Hid (∀ t : Int, 0 ≤ t → t < f.blocks.length → Ref.at0 tos t = Ref.toOf o t) := hto
  have HTL := Lib.hid htl
  obtain ⟨N, hN⟩ : ∃ N, Ref.count f = N := ⟨_, rfl⟩
  rw [hN] at HCT hN40 hpc
  have HN := Lib.hid hN
  obtain ⟨vp, vs, vb, rfl, hp, hsl, hb⟩ := hf
  have HP := Lib.hid hp
  have HS := Lib.hid hsl
  obtain ⟨Ap, cp, rfl, hp1, hp2, -⟩ := hp
  obtain ⟨As, cs, rfl, hs1, hs2, -⟩ := hsl
  obtain ⟨Ab, cb, rfl, hb1, hb2, hb3⟩ := hb
  have H3 : Hid (0 < f.blocks.length → ∃ b off, Ab = some ⟨b, off, none⟩ ∧ b < w.heap.size ∧ ∀ j l, f.blocks[j]? = some l → ∃ u, w.cell? ⟨b, off + j, none⟩ = some u ∧ BlkAt w.heap.size w u l) := hb3
  obtain ⟨bb, ob, rfl, hbb, hcells⟩ := hb3 (by omega)
  obtain ⟨Ao, co, rfl, ho1, ho2, ho3⟩ := hvo
  rw [List.length_map] at ho1 ho2 ho3 ⊢
  obtain ⟨bo, oo, rfl, hbo, hoc⟩ := ho3 (by have := o_pos' hk; omega)
  have HOC : Hid (∀ w', Gr w w' → ∀ (k b : Nat), o[k]? = some b → w'.cell? ⟨bo, oo + k, none⟩ = some (.int .i64 (b : Int))) := fun w' g k b hkb => (g.cell _ _ hbo).trans (hoc k b (by rw [List.getElem?_map, hkb]; rfl))
  have HBC : Hid (∀ (b : Nat) (l : List Ins), f.blocks[b]? = some l → ∃ Al cl, (∀ w', Gr w w' → w'.cell? ⟨bb, ob + b, none⟩ = some (.slice Al l.length cl)) ∧ l.length ≤ cl ∧ l.length ≤ 17592186044416 ∧ (0 < l.length → ∃ b off, Al = some ⟨b, off, none⟩ ∧ b < w.heap.size ∧ ∀ j x, l[j]? = some x → InsAt w.heap.size w b (off + j * 6) x)) := fun b l hl => by
    obtain ⟨u, hu0, Al, cl, rfl, h1, h2, h4⟩ := hcells b l hl
    exact ⟨Al, cl, fun w' g => (g.cell _ _ hbb).trans hu0, h1, h2, h4⟩
  have HVT := hvt
  obtain ⟨At, ct, rfl, ht1, ht2, -⟩ := HVT
  obtain ⟨W, hW⟩ : ∃ W, (w.alloc (.cells #[.slice Ap f.params.length cp, .int .i64 f.ret, .slice As f.slots.length cs, .slice (some ⟨bb, ob, none⟩) f.blocks.length cb] 25)).alloc (.cells #[.slice none 0 0, .int .i64 0, .slice none 0 0, .slice none 0 0] 25) = W := ⟨_, rfl⟩
  have hB0 : Gr w W := by rw [← hW]; exact ((Gr.refl w).alloc _).alloc _
  have hWs : W.heap.size = w.heap.size + 2 := by rw [← hW]; simp
  obtain ⟨row, hrow⟩ : ∃ row : Array Value, #[.slice Ap f.params.length cp, .int .i64 f.ret, .slice As f.slots.length cs, .slice (some ⟨bb, ob, none⟩) f.blocks.length cb] = row := ⟨_, rfl⟩
  have hr0' : W.heap[w.heap.size]? = some (.cells #[.slice Ap f.params.length cp, .int .i64 f.ret, .slice As f.slots.length cs, .slice (some ⟨bb, ob, none⟩) f.blocks.length cb] 25 (0, 0)) := by
    rw [← hW]; exact (((Gr.refl _).alloc _).heap _ (by simp)).trans (heap_alloc_new w _)
  have hr1 : W.heap[w.heap.size + 1]? = some (.cells #[.slice none 0 0, .int .i64 0, .slice none 0 0, .slice none 0 0] 25 (0, 0)) := by
    rw [← hW]; exact heap_alloc2_new w _ _
  have HROW := Lib.hid hrow
  have KP0 : Hid (∀ w', Gr W w' → w'.cell? ⟨w.heap.size, 0, none⟩ = some (.slice Ap f.params.length cp) ∧ w'.cell? ⟨w.heap.size, 1, none⟩ = some (.int .i64 f.ret) ∧ w'.cell? ⟨w.heap.size, 2, none⟩ = some (.slice As f.slots.length cs) ∧ w'.cell? ⟨w.heap.size, 3, none⟩ = some (.slice (some ⟨bb, ob, none⟩) f.blocks.length cb)) := fun w' q => by
    have h := (q.heap _ (by omega)).trans hr0'
    exact ⟨cell_of_row _ _ 0 _ _ _ h, cell_of_row _ _ 1 _ _ _ h, cell_of_row _ _ 2 _ _ _ h, cell_of_row _ _ 3 _ _ _ h⟩
  have HR0 : Hid (W.heap[w.heap.size]? = some (.cells row 25 (0, 0))) := by show _ = _; rw [← hrow]; exact hr0'
  have HR1 := Lib.hid hr1
  have HB0 := Lib.hid hB0
  have HWS := Lib.hid hWs
  obtain ⟨k0, k1, k2, k3⟩ := KP0.out W (Gr.refl W)
  have HORD : Hid (∀ k b : Nat, o[k]? = some b → ∃ l, f.blocks[b]? = some l ∧ b < f.blocks.length) := fun k b h => ⟨_, List.getElem?_eq_getElem (hk.lt b (List.mem_of_getElem? h)), hk.lt b (List.mem_of_getElem? h)⟩
  clear hr0' hr1 hb3 hrow hvt hto htl hN hv hk hcells ho3 hoc hB0 hWs
  go_enter Tryz.func20, Tryz.ntmps20
  go_upto_block 0 with (first
    | (go_at_call 45; refine (HCT.out _ HB0.out).mono ?_; rintro e w1 ⟨rfl, g1⟩; have HG1 := Lib.hid g1; clear g1)
    | (at_make; refine make_ints rfl _ _ rfl w.heap.size N rfl rfl (by omega) ((HB0.out.trans HG1.out).size) ?_; intro w2 hrow2 hg2; have HR2 := Lib.hid hrow2; have HG2 : Hid (Gr W w2) := HG1.out.trans hg2; clear hrow2 hg2))
  have HHB : Hid (W.heap.size ≤ w1.heap.size) := HG1.out.size
  obtain ⟨hb, hhb⟩ : ∃ hb, w1.heap.size = hb := ⟨_, rfl⟩
  rw [hhb] at HR2 HHB ⊢
  clear hhb
  go_cut [] (fun wx => ∃ ns : List Int, Hid (NRow w.heap.size hb N wx ns) ∧ Hid (Gr W wx))
  case first =>
    go_wp2_with (fail)
    go_loopw [8] (fun i wr => ∃ (k : Nat) (ns : List Int), k ≤ N ∧ i = .int .i64 k ∧ Hid (NRow w.heap.size hb N wr ns) ∧ Hid (Gr W wr)) (fun i _ => N - (intOf i).toNat)
    case atStart => exact ⟨0, _, Nat.zero_le _, rfl, HR2, HG2⟩
    case round =>
      obtain ⟨k, ns, hk, rfl, HR, HG⟩ := hrel
      by_cases hlt : k < N
      · have hln := HR.out.len
        obtain ⟨z, hz⟩ : ∃ z, ns[k]? = some z := ⟨_, List.getElem?_eq_getElem (by omega)⟩
        have q0 := HR.out.cell k z hz
        have q1 := HR.out.frozen k
        have z0 : (0 : Int) ≤ (k : Int) := by omega
        have z1 : (k : Int) < (N : Int) := by omega
        clear hln hz
        go_wp2_with (fail)
        go_roundw
        case rel => exact ⟨k + 1, _, by omega, by go_num, Lib.hid (HR.out.set_ k (-1)), Lib.hid (HG.out.setCell HHB.out _)⟩
        case measure => simp [intOf] <;> omega
      · obtain rfl : k = N := by omega
        go_wp2_with (fail)
        go_meet
        exact ⟨ns, HR, HG⟩
  case rest =>
  obtain ⟨ns1, HRa, HGa⟩ := hcut
  clear HR2 HG2 k0 k1 k2 k3
  go_upto_block 2 with (fail)
  go_cut [] (fun wx => ∃ ns : List Int, Hid (NRow w.heap.size hb N wx ns) ∧ Hid (Gr W wx) ∧ Hid (∀ v : Nat, v < f.params.length → ns[v]? = some (v : Int)))
  case first =>
    go_wp2_with (fail)
    go_loopw [9] (fun i wr => ∃ (k : Nat) (ns : List Int), k ≤ f.params.length ∧ i = .int .i64 k ∧ Hid (NRow w.heap.size hb N wr ns) ∧ Hid (Gr W wr) ∧ Hid (∀ v : Nat, v < k → ns[v]? = some (v : Int))) (fun i _ => f.params.length - (intOf i).toNat)
    case atStart => exact ⟨0, _, Nat.zero_le _, rfl, HRa, HGa, Lib.hid fun v h => by omega⟩
    case round =>
      obtain ⟨k, ns, hk, rfl, HR, HG, HV⟩ := hrel
      obtain ⟨k0, k1, k2, k3⟩ := KP0.out _ HG.out
      by_cases hlt : k < f.params.length
      · have hln := HR.out.len
        obtain ⟨z, hz⟩ : ∃ z, ns[k]? = some z := ⟨_, List.getElem?_eq_getElem (by omega)⟩
        have q0 := HR.out.cell k z hz
        have q1 := HR.out.frozen k
        have z0 : (0 : Int) ≤ (k : Int) := by omega
        have z1 : (k : Int) < (N : Int) := by omega
        have z2 : (k : Int) < (f.params.length : Int) := by omega
        have HV2 : Hid (∀ v : Nat, v < k + 1 → (ns.set k (k : Int))[v]? = some (v : Int)) := set_par (by omega) HV.out
        clear hln hz
        go_wp2_with (fail)
        go_roundw
        case rel => exact ⟨k + 1, _, by omega, by go_num, Lib.hid (HR.out.set_ k (k : Int)), Lib.hid (HG.out.setCell HHB.out _), HV2⟩
        case measure => simp [intOf] <;> omega
      · obtain rfl : k = f.params.length := by omega
        go_wp2_with (fail)
        go_meet
        exact ⟨ns, HR, HG, HV⟩
  case rest =>
  clear HRa HGa
  obtain ⟨ns2, HRa, HGa, HVa⟩ := hcut
  have HDa : Hid (Dn f o N ns2 0 0) := Dn.start HRa.out.len (fun v h => HVa.out v h)
  obtain ⟨k0, k1, k2, k3⟩ := KP0.out _ HGa.out
  go_upto_block 4 with (fail)
  go_cut [] from 8 to 74 (fun wx => ∃ ns : List Int, Hid (NRow w.heap.size hb N wx ns) ∧ Hid (Gr W wx) ∧ Hid (Dn f o N ns o.length 0))
  case first =>
    go_wp2_with (fail)
    go_loopw [10, 11, 12] (fun s10 s11 _ wr => ∃ (k : Nat) (ns : List Int), k ≤ o.length ∧ s11 = .int .i64 k ∧ s10 = .int .i64 (Ref.start f (o.take k) : Nat) ∧ Hid (NRow w.heap.size hb N wr ns) ∧ Hid (Gr W wr) ∧ Hid (Dn f o N ns k 0)) (fun _ i _ _ => o.length - (intOf i).toNat)
    case atStart => exact ⟨0, _, Nat.zero_le _, rfl, by simp [Ref.start], HRa, HGa, HDa⟩
    case round =>
      clear HRa HGa HVa HDa k0 k1 k2 k3
      obtain ⟨k, ns, hk, rfl, rfl, HR, HG, HD⟩ := hrel
      by_cases hlt : k < o.length
      · obtain ⟨b, hob⟩ : ∃ b, o[k]? = some b := ⟨_, List.getElem?_eq_getElem hlt⟩
        obtain ⟨l, hl, hbl⟩ := HORD.out k b hob
        have hst := start_le HVAL.out HK.out hob hl
        have hnb := Ref.number_count f hl
        rw [HN.out] at hnb
        have HSN : Hid (Ref.start f (o.take (k + 1)) = Ref.start f (o.take k) + l.length) := by show _ = _; rw [Ref.moved_nums_start f o k b hob, Ref.getD_some hl]
        have HNA : Hid (∀ i, i < l.length → Ref.num f o ((Ref.number f b + i : Nat) : Int) = ((Ref.start f (o.take k) + i : Nat) : Int)) := fun i hi => Ref.num_at HK.out.toOrd hl hi hob
        have HNC : Hid (∀ w1, Gr w w1 → Calls Tryz.prog 46 #[.agg #[.slice Ap f.params.length cp, .int .i64 f.ret, .slice As f.slots.length cs, .slice (some ⟨bb, ob, none⟩) f.blocks.length cb], .int .i64 (b : Nat)] w1 fun e w' => e = .returned (.int .i64 (Ref.number f b)) ∧ Gr w1 w') := HNB.out b (by omega)
        have HOB := Lib.hid hob
        have HLB := Lib.hid hl
        obtain ⟨Al, cl, hAl, hl1, hl2, hl3⟩ := HBC.out b l hl
        have HAL := Lib.hid hAl
        obtain ⟨q, hq⟩ : ∃ q, Ref.start f (o.take k) = q := ⟨_, rfl⟩
        obtain ⟨nb, hnbq⟩ : ∃ q, Ref.number f b = q := ⟨_, rfl⟩
        rw [hq] at hst HSN HNA ⊢
        rw [hnbq] at hnb HNA HNC
        have HNBQ := Lib.hid hnbq
        have z0 : (0 : Int) ≤ (k : Int) := by omega
        have z1 : (k : Int) < (o.length : Int) := by omega
        have z2 : (0 : Int) ≤ (b : Int) := by omega
        have z3 : (b : Int) < (f.blocks.length : Int) := by omega
        clear hob hl hAl hl3 hq hnbq hlt hbl
        go_wp2_with (fail)
        go_loopw [10, 12] (fun s10 s12 wr => ∃ (i : Nat) (ns : List Int), i ≤ l.length ∧ s12 = .int .i64 i ∧ s10 = .int .i64 ((q + i : Nat) : Int) ∧ Hid (NRow w.heap.size hb N wr ns) ∧ Hid (Gr W wr) ∧ Hid (Dn f o N ns k i)) (fun _ i _ => l.length - (intOf i).toNat)
        case atStart => exact ⟨0, ns, Nat.zero_le _, rfl, rfl, HR, HG, HD⟩
        case round =>
          clear HR HG HD
          obtain ⟨i, ns, hi, rfl, rfl, HR, HG, HD⟩ := hrel
          have hgw := HB0.out.trans HG.out
          obtain ⟨k0, k1, k2, k3⟩ := KP0.out _ HG.out
          have l0 := HOC.out _ hgw k b HOB.out
          have l1 := HAL.out _ hgw
          by_cases hlt : i < l.length
          · have hln := HR.out.len
            obtain ⟨z, hz⟩ : ∃ z, ns[nb + i]? = some z := ⟨_, List.getElem?_eq_getElem (by omega)⟩
            have HQ : Hid (∀ w', Gr wr w' → w'.cell? ⟨hb, nb + i, none⟩ = some (.int .i64 z) ∧ w'.frozen? ⟨hb, nb + i, none⟩ = false) := fun w' g => ⟨(HR.out.gr g).cell _ _ hz, (HR.out.gr g).frozen _⟩
            have HD2 : Hid (Dn f o N (ns.set (nb + i) ((q + i : Nat) : Int)) k (i + 1)) := by
              have := HD.out.step HOB.out HLB.out hlt (by rw [HNBQ.out]; omega)
              rw [HNBQ.out, HNA.out i hlt] at this
              exact this
            have z4 : (0 : Int) ≤ (i : Int) := by omega
            have z5 : (i : Int) < (l.length : Int) := by omega
            have z6 : (0 : Int) ≤ (nb : Int) := by omega
            have z7 : (nb : Int) + (i : Int) < (N : Int) := by omega
            have z8 : (0 : Int) ≤ (nb : Int) + (i : Int) := by omega
            have z9 : ((nb : Int) + (i : Int)).toNat = nb + i := by omega
            have s1 : IntKind.i64.wrap ((nb : Int) + (i : Int)) = (nb : Int) + (i : Int) := IntWalk.i64_in _ (by omega)
            clear hln hz hgw hlt
            go_upto_region 15 with (fail)
            go_quiet (fail)
            go_upto_region 17 with (fail)
            go_region_with (go_at_call 46; (refine (HNC.out _ (HB0.out.trans (HG.out.trans ((Gr.refl _).drewN _)))).mono ?_); rintro e w5 ⟨rfl, g5⟩; obtain ⟨q0, q1⟩ := HQ.out _ (((Gr.refl wr).drewN _).trans g5); have HG5 : Hid (Gr wr w5) := ((Gr.refl wr).drewN _).trans g5)
            all_goals
              go_wp2_with (fail)
              go_roundw
              case rel => exact ⟨i + 1, _, by omega, by go_num, by go_num, Lib.hid ((HR.out.gr HG5.out).set_ (nb + i) ((q + i : Nat) : Int)), Lib.hid ((HG.out.trans HG5.out).setCell HHB.out _), HD2⟩
              case measure => simp [intOf] <;> omega
          · obtain rfl : i = l.length := by omega
            go_upto_region 15 with (fail)
            go_quiet (fail)
            go_wp2_with (fail)
            go_roundw
            case rel => exact ⟨k + 1, ns, by omega, by go_num, by rw [HSN.out], Lib.hid (HR.out.gr ((Gr.refl _).drewN _)), Lib.hid (HG.out.drewN _), Lib.hid (HD.out.next HOB.out HLB.out rfl)⟩
            case measure => simp [intOf] <;> omega
      · obtain rfl : k = o.length := by omega
        go_wp2_with (fail)
        go_meet
        exact ⟨ns, HR, HG, HD⟩
  case rest =>
  clear HRa HGa HVa HDa k0 k1 k2 k3
  obtain ⟨ns3, HRb, HGb, HDb⟩ := hcut
  have HSY : Hid (Ref.Says f o ns3 tos) := HDb.out.says HTL.out HTO.out
  have hB0c : Gr w wc := HB0.out.trans HGb.out
  have hWsc : w.heap.size + 2 ≤ wc.heap.size := by have := HGb.out.size; have := HWS.out; omega
  have KPc : Hid (∀ w', Gr wc w' → w'.cell? ⟨w.heap.size, 0, none⟩ = some (.slice Ap f.params.length cp) ∧ w'.cell? ⟨w.heap.size, 1, none⟩ = some (.int .i64 f.ret) ∧ w'.cell? ⟨w.heap.size, 2, none⟩ = some (.slice As f.slots.length cs)) := fun w' g => by
    obtain ⟨a0, a1, a2, -⟩ := KP0.out _ (HGb.out.trans g)
    exact ⟨a0, a1, a2⟩
  have HR0c : Hid (wc.heap[w.heap.size]? = some (.cells row 25 (0, 0))) := (HGb.out.heap _ (by have := HWS.out; omega)).trans HR0.out
  have HR1c : Hid (wc.heap[w.heap.size + 1]? = some (.cells #[.slice none 0 0, .int .i64 0, .slice none 0 0, .slice none 0 0] 25 (0, 0))) := (HGb.out.heap _ (by have := HWS.out; omega)).trans HR1.out
  go_upto_region 19 with (fail)
  go_cut [13] from 75 to 85 (fun s13 wx => ∃ Bo A1 c1 A2 c2, s13 = .pointer (some ⟨Bo, 0, none⟩) ∧ Hid (CInv w wx Bo (Ref.moved f o) (.slice A1 f.params.length c1) (.slice A2 f.slots.length c2) row 0 (.slice none 0 0) wx) ∧ Hid (Gr W wx) ∧ Hid (NRow w.heap.size hb N wx ns3))
  case first =>
    obtain ⟨J, hJdef⟩ : ∃ J : Array Bool → Act → World → Prop, (fun listed a w' => ∃ v3 v8 v9 v10 v11 v12 v13 v14 v15 v16 v17 v18, a = { tmps := #[.agg #[.slice Ap f.params.length cp, .int .i64 f.ret, .slice As f.slots.length cs, .slice (some ⟨bb, ob, none⟩) f.blocks.length cb], .slice (some ⟨bo, oo, none⟩) o.length co, .slice At tos.length ct, .pointer (some ⟨w.heap.size, 0, none⟩), undef, undef, .pointer (some ⟨w.heap.size + 1, 0, none⟩), .slice (some ⟨hb, 0, none⟩) N N, u8, u9, u10, u11, u12, v3, u14, u15, u16, u17, u18, u19, u20, u21, u22, u23, u24, u25, u26, u27, u28, u29, u30, u31, u32, u33, u34, u35, u36, u37, u38, u39, u40, u41, u42, u43, u44, u45, u46, u47, u48, u49, u50, u51, u52, u53, u54, u55, u56, u57, u58, u59, u60, u61, u62, u63, u64, u65, u66, u67, u68, u69, u70, u71, u72, u73, u74, v8, v9, v10, v11, v12, v13, v14, v15, v16, v17, v18, undef, undef, undef, undef, undef, undef, undef, undef, undef, undef, undef, undef, undef, undef, undef, undef, undef, undef, undef, undef, undef, undef, undef, undef, undef, undef, undef, undef, undef, undef, undef, undef, undef, undef, undef, undef, undef, undef, undef, undef, undef, undef, undef], defers := [] } ∧ CopyJ w wc f Ap As cp cs row (fun j => listed.getD j false) v3 v8 v9 v10 v11 v12 v13 v14 v15 v16 v17 v18 w') = J := ⟨_, rfl⟩
    refine wp_region_inv (by kernel_rfl) (by kernel_rfl) J ?_ ?_ ?_
    · rw [← hJdef]
      refine ⟨u13, undef, undef, undef, undef, undef, undef, undef, undef, undef, undef, undef, rfl, (Gr.refl wc).drew, ?_, ?_, ?_, ?_, ?_, ?_, ?_, ?_, ?_, ?_, ?_, ?_, ?_⟩
      all_goals (intro h; simp [Array.getD] at h)
    · intro i o listed a w' hi hsz hun haft hJ
      rw [← hJdef] at hJ
      obtain ⟨v3, v8, v9, v10, v11, v12, v13, v14, v15, v16, v17, v18, rfl, hJ⟩ := hJ
      have hlt : i < 13 := (List.getElem?_eq_some_iff.1 hi).1
      have hL : ∀ j, j ≠ i → (fun j => (listed.setIfInBounds i true).getD j false) j = (fun j => listed.getD j false) j := fun j h => getD_set_ne false (Ne.symm h)
      have hJ' := hJ
      obtain ⟨hG, h0, h1, h2, h3, h4, h5, h6, h7, h8, h9, h10, h11, h12⟩ := hJ'
      obtain ⟨K, hK⟩ : ∃ K, J (listed.setIfInBounds i true) = K := ⟨_, rfl⟩
      rw [hK]
      obtain ⟨q0, q1, q2⟩ := KPc.out _ hG
      rcases (by omega : i = 0 ∨ i = 1 ∨ i = 2 ∨ i = 3 ∨ i = 4 ∨ i = 5 ∨ i = 6 ∨ i = 7 ∨ i = 8 ∨ i = 9 ∨ i = 10 ∨ i = 11 ∨ i = 12) with rfl | rfl | rfl | rfl | rfl | rfl | rfl | rfl | rfl | rfl | rfl | rfl | rfl
      · have e := Option.some.inj hi
        subst e
        rw [if_pos (by simp [Region.wanted])]
        clear h0 h1 h2 h3 h4 h5 h6 h7 h8 h9 h10 h11 h12 haft hi
        go_simp
        rw [← hK, ← hJdef]
        exact ⟨_, _, _, _, _, _, _, _, _, _, _, _, rfl, CopyJ.s0 hJ ((Gr.refl _).alloc _) hun hL _⟩
      · have e := Option.some.inj hi
        subst e
        rw [if_pos (by simp [Region.wanted])]
        clear h0 h1 h2 h3 h4 h5 h6 h7 h8 h9 h10 h11 h12 haft hi
        go_simp
        rw [← hK, ← hJdef]
        exact ⟨_, _, _, _, _, _, _, _, _, _, _, _, rfl, CopyJ.s1 hJ (Gr.refl _) hun hL⟩
      · have e := Option.some.inj hi
        subst e
        rw [if_pos (by simp [Region.wanted])]
        obtain rfl := h1 (haft ⟨1, .data⟩ (by simp) rfl)
        clear h0 h1 h2 h3 h4 h5 h6 h7 h8 h9 h10 h11 h12 haft hi
        go_simp
        rw [← hK, ← hJdef]
        exact ⟨_, _, _, _, _, _, _, _, _, _, _, _, rfl, CopyJ.s2 hJ (Gr.refl _) hun hL⟩
      · have e := Option.some.inj hi
        subst e
        rw [if_pos (by simp [Region.wanted])]
        obtain ⟨g0, rfl⟩ := h0 (haft ⟨0, .data⟩ (by simp) rfl)
        obtain rfl := h2 (haft ⟨2, .data⟩ (by simp) rfl)
        refine wp_appE Tryz.underlying22 hi0 hx0 hx1 hx2 rfl (.tmp 75) (.tmp 77) rfl rfl (HP.out.gr (hB0c.trans hG)) rfl ?_
        intro A c w'' ht hg'
        rw [← hK, ← hJdef]
        exact ⟨_, _, _, _, _, _, _, _, _, _, _, _, rfl, CopyJ.s3 hJ hg' hun hL A c (ht.lower (by have := hG.size; omega))⟩
      · have e := Option.some.inj hi
        subst e
        rw [if_pos (by simp [Region.wanted])]
        clear h0 h1 h2 h3 h4 h5 h6 h7 h8 h9 h10 h11 h12 haft hi
        go_simp
        rw [← hK, ← hJdef]
        exact ⟨_, _, _, _, _, _, _, _, _, _, _, _, rfl, CopyJ.s4 hJ (Gr.refl _) hun hL⟩
      · have e := Option.some.inj hi
        subst e
        rw [if_pos (by simp [Region.wanted])]
        obtain rfl := h4 (haft ⟨4, .data⟩ (by simp) rfl)
        clear h0 h1 h2 h3 h4 h5 h6 h7 h8 h9 h10 h11 h12 haft hi
        go_simp
        rw [← hK, ← hJdef]
        exact ⟨_, _, _, _, _, _, _, _, _, _, _, _, rfl, CopyJ.s5 hJ (Gr.refl _) hun hL⟩
      · have e := Option.some.inj hi
        subst e
        rw [if_pos (by simp [Region.wanted])]
        clear h0 h1 h2 h3 h4 h5 h6 h7 h8 h9 h10 h11 h12 haft hi
        go_simp
        rw [← hK, ← hJdef]
        exact ⟨_, _, _, _, _, _, _, _, _, _, _, _, rfl, CopyJ.s6 hJ ((Gr.refl _).alloc _) hun hL _⟩
      · have e := Option.some.inj hi
        subst e
        rw [if_pos (by simp [Region.wanted])]
        clear h0 h1 h2 h3 h4 h5 h6 h7 h8 h9 h10 h11 h12 haft hi
        go_simp
        rw [← hK, ← hJdef]
        exact ⟨_, _, _, _, _, _, _, _, _, _, _, _, rfl, CopyJ.s7 hJ (Gr.refl _) hun hL⟩
      · have e := Option.some.inj hi
        subst e
        rw [if_pos (by simp [Region.wanted])]
        obtain rfl := h7 (haft ⟨7, .data⟩ (by simp) rfl)
        clear h0 h1 h2 h3 h4 h5 h6 h7 h8 h9 h10 h11 h12 haft hi
        go_simp
        rw [← hK, ← hJdef]
        exact ⟨_, _, _, _, _, _, _, _, _, _, _, _, rfl, CopyJ.s8 hJ (Gr.refl _) hun hL⟩
      · have e := Option.some.inj hi
        subst e
        rw [if_pos (by simp [Region.wanted])]
        obtain ⟨g6, rfl⟩ := h6 (haft ⟨6, .data⟩ (by simp) rfl)
        obtain rfl := h8 (haft ⟨8, .data⟩ (by simp) rfl)
        refine wp_appE Tryz.underlying22 hi0 hx0 hx1 hx2 rfl (.tmp 81) (.tmp 83) rfl rfl (HS.out.gr (hB0c.trans hG)) rfl ?_
        intro A c w'' ht hg'
        rw [← hK, ← hJdef]
        exact ⟨_, _, _, _, _, _, _, _, _, _, _, _, rfl, CopyJ.s9 hJ hg' hun hL A c (ht.lower (by have := hG.size; omega))⟩
      · have e := Option.some.inj hi
        subst e
        rw [if_pos (by simp [Region.wanted])]
        have D3 := haft ⟨3, .data⟩ (by simp) rfl
        have D5 := haft ⟨5, .data⟩ (by simp) rfl
        have D9 := haft ⟨9, .data⟩ (by simp) rfl
        obtain ⟨B3, b3, rfl, -⟩ := h3 (haft ⟨3, .data⟩ (by simp) rfl)
        obtain rfl := h5 (haft ⟨5, .data⟩ (by simp) rfl)
        obtain ⟨B9, b9, rfl, -⟩ := h9 (haft ⟨9, .data⟩ (by simp) rfl)
        clear h0 h1 h2 h3 h4 h5 h6 h7 h8 h9 h10 h11 h12 haft hi
        go_simp
        rw [← hK, ← hJdef]
        exact ⟨_, _, _, _, _, _, _, _, _, _, _, _, rfl, CopyJ.s10 hJ (Gr.refl _) hun hL D3 D5 D9⟩
      · have e := Option.some.inj hi
        subst e
        rw [if_pos (by simp [Region.wanted])]
        clear h0 h1 h2 h3 h4 h5 h6 h7 h8 h9 h10 h11 h12 haft hi
        go_simp
        rw [← hK, ← hJdef]
        exact ⟨_, _, _, _, _, _, _, _, _, _, _, _, rfl, CopyJ.s11 hJ ((Gr.refl _).alloc _) hun hL _ hG.size (heap_alloc_new _ _)⟩
      · have e := Option.some.inj hi
        subst e
        rw [if_pos (by simp [Region.wanted])]
        have h12s : 12 < listed.size := by simp [hsz]
        obtain ⟨Bo, A1, c1, A2, c2, rfl, rfl, hb, hJ2⟩ := CopyJ.s12 (L' := fun j => (listed.setIfInBounds 12 true).getD j false) hJ (fun j hj => by rcases (by omega : j = 0 ∨ j = 1 ∨ j = 2 ∨ j = 3 ∨ j = 4 ∨ j = 5 ∨ j = 6 ∨ j = 7 ∨ j = 8 ∨ j = 9 ∨ j = 10 ∨ j = 11) with rfl | rfl | rfl | rfl | rfl | rfl | rfl | rfl | rfl | rfl | rfl | rfl <;> exact haft ⟨_, .phase⟩ (by simp) rfl) hun hL (by simp [Array.getD, h12s]) hB0c HR0c.out HR1c.out hWsc
        have x0 := cell_of_row _ _ 0 _ _ _ hb
        have y0 := frozen_of_row _ _ 0 _ _ hb
        have x1 := cell_of_row _ _ 1 _ _ _ hb
        have y1 := frozen_of_row _ _ 1 _ _ hb
        have x2 := cell_of_row _ _ 2 _ _ _ hb
        have y2 := frozen_of_row _ _ 2 _ _ hb
        have x3 := cell_of_row _ _ 3 _ _ _ hb
        have y3 := frozen_of_row _ _ 3 _ _ hb
        clear h0 h1 h2 h3 h4 h5 h6 h7 h8 h9 h10 h11 h12 hJ haft hi hL
        go_simp
        rw [← hK, ← hJdef]
        exact ⟨_, _, _, _, _, _, _, _, _, _, _, _, rfl, hJ2⟩
    · intro listed a w' hall hJ
      rw [← hJdef] at hJ
      obtain ⟨v3, v8, v9, v10, v11, v12, v13, v14, v15, v16, v17, v18, rfl, hJ⟩ := hJ
      obtain ⟨hG, -, -, -, -, -, -, -, -, -, -, -, -, h12⟩ := hJ
      obtain ⟨-, Bo, A1, c1, A2, c2, rfl, HI⟩ := h12 (hall 12 (by decide))
      clear hJdef KPc HR0c HR1c
      go_wp2_with fail
      go_meet
      exact ⟨Bo, A1, c1, A2, c2, rfl, Lib.hid (HI.turn rfl rfl rfl), Lib.hid (HGb.out.trans hG), Lib.hid (HRb.out.gr hG)⟩
  case rest =>
  obtain ⟨Bo, A1, c1, A2, c2, rfl, HI0, HGd, HRd⟩ := hcut
  have HTN0 : Hid (TI w.heap.size wc (.slice (some ⟨hb, 0, none⟩) N N) ns3) := HRd.out.ti (by omega)
  have HNL : Hid (ns3.length = N) := HRd.out.len
  have HSRC : Hid (∀ (k : Nat) (vb : Value) (wr : World), CInv w wc Bo (Ref.moved f o) (.slice A1 f.params.length c1) (.slice A2 f.slots.length c2) row k vb wr → wr.cell? ⟨w.heap.size, 3, none⟩ = some (.slice (some ⟨bb, ob, none⟩) f.blocks.length cb)) := fun k vb wr h => by
    have q := h.src
    rw [← HROW.out] at q
    exact cell_of_row _ _ 3 _ _ _ q
  have HINS : Hid (∀ (k b : Nat) (l : List Ins) (i : Nat) (x : Ins), o[k]? = some b → f.blocks[b]? = some l → l[i]? = some x → ∀ w1, Gr w w1 → TI w.heap.size w1 (.slice (some ⟨hb, 0, none⟩) N N) ns3 → ∀ Aa ca Av cv, IntsAt w.heap.size w (.slice Aa x.args.length ca) x.args → IntsAt w.heap.size w (.slice Av x.to.length cv) x.to → Calls Tryz.prog 47 #[.agg #[.int .i64 x.op, .int .i64 x.width, .int .i64 x.flags, .slice Aa x.args.length ca, .int .u32 x.imm, .slice Av x.to.length cv], .slice (some ⟨hb, 0, none⟩) N N, .slice At tos.length ct] w1 fun e w' => ∃ A3 c3 A4 c4, e = .returned (.agg #[.int .i64 (Ref.renum f o x).op, .int .i64 (Ref.renum f o x).width, .int .i64 (Ref.renum f o x).flags, .slice A3 (Ref.renum f o x).args.length c3, .int .u32 (Ref.renum f o x).imm, .slice A4 (Ref.renum f o x).to.length c4]) ∧ Hid (TI w.heap.size w' (.slice A3 (Ref.renum f o x).args.length c3) (Ref.renum f o x).args ∧ TI w.heap.size w' (.slice A4 (Ref.renum f o x).to.length c4) (Ref.renum f o x).to) ∧ Gr w1 w') := by
    intro k b l i x hob hl hx w1 g ht Aa ca Av cv ha hvt
    obtain ⟨p1, p2, p3, p4, p5⟩ := Ref.ins_facts HVAL.out hl (List.mem_of_getElem? hx)
    have e := Ref.rn_eq HVAL.out HK.out HSY.out (List.mem_of_getElem? hob) hl hx
    have hnl := HNL.out
    have hcn := HN.out
    have htl := HTL.out
    have := renumbered_any x (insVal x (.slice Aa x.args.length ca) (.slice Av x.to.length cv)) _ _ ns3 tos w1 ⟨_, _, rfl, ha.gr g, hvt.gr g⟩ ht.ints (HT.out.gr g) p1 (fun z hz => by have := p2 z hz; omega) (fun z hz => by have := p3 z hz; omega) (by omega) (by omega) (by omega)
    rw [e] at this
    refine this.mono ?_
    rintro e w' ⟨A3, c3, A4, c4, he, ⟨t1, t2⟩, hg⟩
    exact ⟨A3, c3, A4, c4, he, ⟨t1.lower g.size, t2.lower g.size⟩, hg⟩
  have HML := Lib.hid (Ref.moved_len f o)
  have HMB : Hid (∀ (k b : Nat) (l : List Ins), o[k]? = some b → f.blocks[b]? = some l → (Ref.moved f o).blocks[k]? = some (l.map (Ref.renum f o)) ∧ l.length ≤ 43) := fun k b l h1 h2 => by
    obtain ⟨l', q1, q2⟩ := Ref.moved_blk HK.out.toOrd h1
    rw [h2] at q1; cases q1
    exact ⟨q2, by have := start_le HVAL.out HK.out h1 h2; omega⟩
  clear HRd HGd HRb HGb HDb HVAL HK HT HTO HTL HN HP HS HCT HNB HR0 HR1 HR0c HR1c KPc HB0 KP0 HSY hB0c HNL hW
  go_wp2_with (fail)
  go_loopw [14, 15, 16] (fun i _ _ wr => ∃ (k : Nat) (vb : Value), k ≤ o.length ∧ i = .int .i64 k ∧ Hid (CInv w wc Bo (Ref.moved f o) (.slice A1 f.params.length c1) (.slice A2 f.slots.length c2) row k vb wr) ∧ Hid (TI w.heap.size wr (.slice (some ⟨hb, 0, none⟩) N N) ns3)) (fun i _ _ _ => o.length - (intOf i).toNat)
  case atStart => exact ⟨0, _, Nat.zero_le _, rfl, HI0, HTN0⟩
  case round =>
    clear HI0 HTN0
    obtain ⟨k, vb, hk, rfl, HI, HTN⟩ := hrel
    obtain ⟨wo, ewo⟩ : ∃ wo, wo = wr := ⟨wr, rfl⟩
    subst ewo
    by_cases hlt : k < o.length
    · obtain ⟨b, hob⟩ : ∃ b, o[k]? = some b := ⟨_, List.getElem?_eq_getElem hlt⟩
      obtain ⟨l, hl, hbl⟩ := HORD.out k b hob
      obtain ⟨Al, cl, hAl, hl1, hl2, hl3⟩ := HBC.out b l hl
      obtain ⟨hmb, hll⟩ := HMB.out k b l hob hl
      have HMK := Lib.hid hmb
      have H4 : Hid (0 < l.length → ∃ b off, Al = some ⟨b, off, none⟩ ∧ b < w.heap.size ∧ ∀ j x, l[j]? = some x → InsAt w.heap.size w b (off + j * 6) x) := hl3
      have hgw := HI.out.toGr
      have HGW := Lib.hid hgw
      have HU : Hid (∀ wr, Gr wo wr → wr.cell? ⟨w.heap.size, 3, none⟩ = some (.slice (some ⟨bb, ob, none⟩) f.blocks.length cb) ∧ wr.cell? ⟨bo, oo + k, none⟩ = some (.int .i64 (b : Int)) ∧ wr.cell? ⟨bb, ob + b, none⟩ = some (.slice Al l.length cl)) := fun wr q => ⟨HSRC.out _ _ _ (HI.out.gr q), HOC.out _ (hgw.trans q) k b hob, hAl _ (hgw.trans q)⟩
      have HIN : Hid (∀ (i : Nat) (x : Ins), l[i]? = some x → ∀ w1, Gr wo w1 → ∀ Aa ca Av cv, IntsAt w.heap.size w (.slice Aa x.args.length ca) x.args → IntsAt w.heap.size w (.slice Av x.to.length cv) x.to → Calls Tryz.prog 47 #[.agg #[.int .i64 x.op, .int .i64 x.width, .int .i64 x.flags, .slice Aa x.args.length ca, .int .u32 x.imm, .slice Av x.to.length cv], .slice (some ⟨hb, 0, none⟩) N N, .slice At tos.length ct] w1 fun e w' => ∃ A3 c3 A4 c4, e = .returned (.agg #[.int .i64 (Ref.renum f o x).op, .int .i64 (Ref.renum f o x).width, .int .i64 (Ref.renum f o x).flags, .slice A3 (Ref.renum f o x).args.length c3, .int .u32 (Ref.renum f o x).imm, .slice A4 (Ref.renum f o x).to.length c4]) ∧ Hid (TI w.heap.size w' (.slice A3 (Ref.renum f o x).args.length c3) (Ref.renum f o x).args ∧ TI w.heap.size w' (.slice A4 (Ref.renum f o x).to.length c4) (Ref.renum f o x).to) ∧ Gr w1 w') :=
        fun i x hx w1 g Aa ca Av cv => HINS.out k b l i x hob hl hx w1 (hgw.trans g) (HTN.out.gr g) Aa ca Av cv
      have z0 : (0 : Int) ≤ (k : Int) := by omega
      have z1 : (k : Int) < (o.length : Int) := by omega
      have z2 : (0 : Int) ≤ (b : Int) := by omega
      have z3 : (b : Int) < (f.blocks.length : Int) := by omega
      clear hob hl hAl hmb hl3 hgw hlt hbl
      go_wp2_with (fail)
      go_loopw [15, 16] (fun s i wx => ∃ (j : Nat) (m : List Ins), j ≤ l.length ∧ i = .int .i64 j ∧ Hid (m = (l.take j).map (Ref.renum f o)) ∧ Hid (OwnI w.heap.size wo.heap.size wx s m) ∧ Hid (Gr wo wx)) (fun _ i _ => l.length - (intOf i).toNat)
      case atStart => exact ⟨0, [], Nat.zero_le _, rfl, Lib.hid rfl, OwnI.nil _ _ _, Gr.refl _⟩
      case round =>
        obtain ⟨j, m, hj, rfl, HM, HO, HGX⟩ := hrel
        obtain ⟨e1, e2, e3⟩ := HU.out _ HGX.out
        have hml : m.length ≤ 1000000 := by rw [HM.out, List.length_map, List.length_take]; omega
        by_cases hlt2 : j < l.length
        · obtain ⟨bl, ol, rfl, hbl, hcells2⟩ := H4.out (by omega)
          obtain ⟨x, hx⟩ : ∃ x, l[j]? = some x := ⟨_, List.getElem?_eq_getElem hlt2⟩
          obtain ⟨va, vt, x0, x1, x2, x3, x4, x5, hxa, hxt⟩ := hcells2 j x hx
          have HXA := Lib.hid hxa
          have HXT := Lib.hid hxt
          obtain ⟨Aa, ca, rfl, -, -, -⟩ := hxa
          obtain ⟨Av, cv, rfl, -, -, -⟩ := hxt
          have HCR := Lib.hid fun w1 (q : Gr wr w1) => HIN.out j x hx w1 (HGX.out.trans q) Aa ca Av cv HXA.out HXT.out
          obtain ⟨X, hX⟩ : ∃ X, Ref.renum f o x = X := ⟨_, rfl⟩
          rw [hX] at HCR
          have HM2 : Hid (m ++ [X] = (l.take (j + 1)).map (Ref.renum f o)) := by show _ = _; rw [List.take_add_one, hx, List.map_append, HM.out, ← hX]; rfl
          have hgwx := HGW.out.trans HGX.out
          have KS : Hid (∀ w', Gr wo w' → w'.cell? ⟨w.heap.size, 3, none⟩ = some (.slice (some ⟨bb, ob, none⟩) f.blocks.length cb) ∧ w'.cell? ⟨bo, oo + k, none⟩ = some (.int .i64 (b : Int)) ∧ w'.cell? ⟨bb, ob + b, none⟩ = some (.slice (some ⟨bl, ol, none⟩) l.length cl) ∧ w'.cell? ⟨bl, ol + j * 6, none⟩ = some (.int .i64 x.op) ∧ w'.cell? ⟨bl, ol + j * 6 + 1, none⟩ = some (.int .i64 x.width) ∧ w'.cell? ⟨bl, ol + j * 6 + 2, none⟩ = some (.int .i64 x.flags) ∧ w'.cell? ⟨bl, ol + j * 6 + 3, none⟩ = some (.slice Aa x.args.length ca) ∧ w'.cell? ⟨bl, ol + j * 6 + 4, none⟩ = some (.int .u32 x.imm) ∧ w'.cell? ⟨bl, ol + j * 6 + 5, none⟩ = some (.slice Av x.to.length cv)) := fun w' q => by
            obtain ⟨a1, a2, a3⟩ := HU.out _ q
            have hc : ∀ o, w'.cell? ⟨bl, o, none⟩ = w.cell? ⟨bl, o, none⟩ := fun o => (HGW.out.trans q).cell _ _ hbl
            exact ⟨a1, a2, a3, by rw [hc]; exact x0, by rw [hc]; exact x1, by rw [hc]; exact x2, by rw [hc]; exact x3, by rw [hc]; exact x4, by rw [hc]; exact x5⟩
          have hbb2 : wo.heap.size ≤ wr.heap.size := HGX.out.size
          have z4 : (0 : Int) ≤ (j : Int) := by omega
          have z5 : (j : Int) < (l.length : Int) := by omega
          clear hx hX hcells2 hlt2 x0 x1 x2 x3 x4 x5 hgwx
          go_upto_region 25 with (fail)
          go_quiet (fail)
          go_upto_region 27 with (fail)
          clear e1 e2 e3
          go_region_held3 (fun w' => w'.cell? ⟨w.heap.size, 3, none⟩ = some (.slice (some ⟨bb, ob, none⟩) f.blocks.length cb) ∧ w'.cell? ⟨bo, oo + k, none⟩ = some (.int .i64 (b : Int)) ∧ w'.cell? ⟨bb, ob + b, none⟩ = some (.slice (some ⟨bl, ol, none⟩) l.length cl) ∧ w'.cell? ⟨bl, ol + j * 6, none⟩ = some (.int .i64 x.op) ∧ w'.cell? ⟨bl, ol + j * 6 + 1, none⟩ = some (.int .i64 x.width) ∧ w'.cell? ⟨bl, ol + j * 6 + 2, none⟩ = some (.int .i64 x.flags) ∧ w'.cell? ⟨bl, ol + j * 6 + 3, none⟩ = some (.slice Aa x.args.length ca) ∧ w'.cell? ⟨bl, ol + j * 6 + 4, none⟩ = some (.int .u32 x.imm) ∧ w'.cell? ⟨bl, ol + j * 6 + 5, none⟩ = some (.slice Av x.to.length cv))
            (first | exact KS.out _ ((HGX.out.trans HG1.out).alloc _) | exact KS.out _ (HGX.out.trans HG1.out) | exact KS.out _ HG2.out | exact KS.out _ (HGX.out.drewN _) | exact KS.out _ (HGX.out.drewN _).drew)
            (first
              | (go_at_call 47; refine (HCR.out _ ((Gr.refl _).drewN _)).mono ?_; rintro e w1 ⟨A3, c3, A4, c4, rfl, HT1, g0⟩; have HG1 : Hid (Gr wr w1) := ((Gr.refl wr).drewN _).trans g0; have HO1 := Lib.hid (HO.out.gr HG1.out); have hz1 : wo.heap.size ≤ w1.heap.size := Nat.le_trans hbb2 HG1.out.size; clear g0)
              | (refine OwnI.step HO1.out HT1.out.1 HT1.out.2 hz1 hml rfl (.tmp 105) (.tmp 120) (by rfl) (by rfl) (by rfl) ?_; intro A5 c5 w2 ho2 hb2; have HO2 := Lib.hid ho2; have HG2 : Hid (Gr wo w2) := (HGX.out.trans HG1.out).below hb2 (Nat.le_refl _); clear ho2 hb2))
          all_goals
            go_wp2_with (fail)
            go_roundw
            case rel => exact ⟨j + 1, m ++ [X], by omega, by simp, HM2, HO2, HG2⟩
            case measure => simp [intOf] <;> omega
        · obtain rfl : j = l.length := by omega
          have HML2 : Hid (m = l.map (Ref.renum f o)) := by show _ = _; rw [HM.out, List.take_length]
          have HO2 := HO.out
          obtain ⟨Au, cu, rfl⟩ := HO2.form
          have HTB : Hid (TB w.heap.size wr (.slice Au m.length cu) m) := HO2.tb (by omega) HGW.out.size
          obtain ⟨Avb, cvb, rfl⟩ := HI.out.form
          have HI1 := Lib.hid (HI.out.gr HGX.out)
          have HTN1 := Lib.hid (HTN.out.gr HGX.out)
          have HMK2 : Hid ((Ref.moved f o).blocks[k]? = some m) := by show _ = _; rw [HML2.out]; exact HMK.out
          have hbx := HI1.out.box
          have b3 := cell_of_row _ _ 3 _ _ _ hbx
          clear hbx HI HO HO2 hml HM
          go_upto_region 25 with (fail)
          go_quiet (fail)
          go_wp2_with (at_builtin; refine CInv.append2 (HI1.out.gr ((Gr.refl _).drewN _)) (HTB.out.gr ((Gr.refl _).drewN _)) HMK2.out (by omega) rfl _ _ rfl rfl rfl ?_; intro g5 c5 w5 hm5 HI5 hk5; have d3 := cell_of_row _ _ 3 _ _ _ hm5; have q3 := frozen_of_row _ _ 3 _ _ hm5; have HJ := Lib.hid HI5; have HTN2 := Lib.hid ((HTN1.out.gr ((Gr.refl _).drewN _)).kt hk5); clear hm5 HI5 hk5)
          go_roundw
          case rel => exact ⟨k + 1, _, by omega, by go_num, HJ, HTN2⟩
          case measure => simp [intOf] <;> omega
    · obtain rfl : k = o.length := by omega
      obtain ⟨A3, c3, rfl⟩ := HI.out.form
      have hbx := HI.out.box
      have hrs := HI.out.res
      have b0 := cell_of_row _ _ 0 _ _ _ hbx
      have b1 := cell_of_row _ _ 1 _ _ _ hbx
      have b2 := cell_of_row _ _ 2 _ _ _ hbx
      have b3 := cell_of_row _ _ 3 _ _ _ hbx
      have r0 := cell_of_row _ _ 0 _ _ _ hrs
      have r1 := cell_of_row _ _ 1 _ _ _ hrs
      have r2 := cell_of_row _ _ 2 _ _ _ hrs
      have r3 := cell_of_row _ _ 3 _ _ _ hrs
      have f0 := frozen_of_row _ _ 0 _ _ hrs
      have f1 := frozen_of_row _ _ 1 _ _ hrs
      have f2 := frozen_of_row _ _ 2 _ _ hrs
      have f3 := frozen_of_row _ _ 3 _ _ hrs
      have HRS := Lib.hid hrs
      have HIE : Hid (CInv w wc Bo (Ref.moved f o) (.slice A1 f.params.length c1) (.slice A2 f.slots.length c2) row (Ref.moved f o).blocks.length (.slice A3 o.length c3) wo) := by
        show CInv _ _ _ _ _ _ _ _ _ _
        rw [HML.out]; exact HI.out
      clear hbx hrs
      go_wp2_with (fail)
      refine bodyPost_ret (results_fn _ _ 6 _ (w.heap.size + 1) _ _ _ _ _ rfl rfl (four_stores HRS.out _ _ _ _) ⟨_, _, _, rfl⟩ ⟨_, rfl⟩ ⟨_, _, _, rfl⟩ ⟨_, _, _, rfl⟩) rfl ?_
      obtain ⟨q1, q2⟩ := HIE.out.done
      exact ⟨A1, c1, A2, c2, A3, c3, rfl, q1, q2⟩
end Go.Proofs.YtiadpjhlomhjeaaGreat

/- arrange of the program. Printed by gen_mxg.py. -/
import Derived.Test.YtiadpjhlomhjeaaGreatZx
import Derived.Deep.DeepCutAuto
import Derived.Deep.CutRange
import Derived.Deep.CutBlock
import Derived.Deep.RegionWith
import Derived.Deep.RegionHeld3
import Derived.BigQuiet
import Derived.IntWalk
namespace Go.Proofs.YtiadpjhlomhjeaaGreat
set_option linter.unusedSimpArgs false
set_option linter.unusedVariables false
open Go.RowKit

section
variable {w wb wr wr' : World} {Bo : Nat} {f : Fn} {vp vs vb : Value} {row : Array Value} {k : Nat}
theorem CInv.append3 {ops : Array Oper} {rest : List Oper} {o : Oper} {a : Act} {Q : Exit → Act → World → Prop} {u : Value} {l : List Ins} (h : CInv w wb Bo f vp vs row k vb wr) (hu : TB w.heap.size wr u l) (hl : f.blocks[k]? = some l) (hk : k < 1000000000)
    (hgd : o.guard = none) (s x : Operand) (ho : o.op = .call { callee := .builtin .append, args := #[s, x], argTypes := #[23, 23] }) (hs : a.eval s = vb) (hx : a.eval x = .slice (some ⟨wr.heap.size, 0, none⟩) 1 1) {e' : TypeId}
    (hK : ∀ g c w1, w1.heap[Bo]? = some (.cells #[vp, .int .i64 f.ret, vs, vb] 25 (0, 0)) → CInv w wb Bo f vp vs row (k + 1) (.slice (some ⟨g, 0, none⟩) (k + 1) c) (w1.setCell ⟨Bo, 3, none⟩ (.slice (some ⟨g, 0, none⟩) (k + 1) c)) → Kt wr (w1.setCell ⟨Bo, 3, none⟩ (.slice (some ⟨g, 0, none⟩) (k + 1) c)) → KeepsOthers wr (w1.setCell ⟨Bo, 3, none⟩ (.slice (some ⟨g, 0, none⟩) (k + 1) c)) → wpList Tryz.prog ops Q rest (a.put o.dst (.slice (some ⟨g, 0, none⟩) (k + 1) c)) w1) :
    wpList Tryz.prog ops Q (o :: rest) a (wr.alloc (.cells #[u] e')) := by
  obtain ⟨i, hi, hz, hsize, hby⟩ := info_parts info_blk
  obtain ⟨us, h1, h2, h3, h4, h5, h6, h7, h8, h9, h10, h11, h12⟩ := h
  have hu0 := hu
  obtain ⟨Au, cu, rfl, -, -, -⟩ := hu
  refine wpList_append_src hgd s x 23 ho wb.heap.size 35 i _ 1 24 Tryz.underlying23 hi hz hsize hby rfl (by omega) vb us.length us hs (own_gr h2 ((Gr.refl _).alloc _)) _ 1 [.slice Au l.length cu] hx (Src.new1 _ _ _) ?_ ?_ ?_ ?_ ?_
  · intro y hy; simp at hy; subst hy; rfl
  · simp only [maxLen]; omega
  · omega
  · simp; omega
  · intro v' w1 hown' hg hat
    obtain ⟨g, c, rfl⟩ := ownsRow_succ hown'
    have hown2 : Own1 wb.heap.size 35 w1 (.slice (some ⟨g, 0, none⟩) (us.length + 1) c) (us ++ [.slice Au l.length cu]) := by unfold Own1; rw [List.length_append]; exact hown'
    obtain ⟨m1, m2, m3, m4, m5, m6, m7, m8⟩ := field_append (i := 3) (n₀ := wb.heap.size) (ys := us ++ [.slice Au l.length cu]) h1 (by decide) h2 hown2 hg hat
    rw [h3] at hown2 m2 m3 m4 m7 m8 ⊢
    have hsz1 : wr.heap.size ≤ w1.heap.size := by have := hg.size; simp at this; omega
    have hkt : Kt wr (w1.setCell ⟨Bo, 3, none⟩ (.slice (some ⟨g, 0, none⟩) (k + 1) c)) := fun b cc t hb ht => m8 b cc t hb (by rcases ht with rfl | rfl <;> decide) (fun e => by
      rw [e, h1] at hb; rcases ht with rfl | rfl <;> cases hb)
    refine hK g c w1 m1 ⟨us ++ [.slice Au l.length cu], m2, m3, by simp [h3], fun j l' hj hl' => ?_, h5.kt hkt, h6.kt hkt, h7.below (m7 w.heap.size h12 (by omega) h7.size) (Nat.le_refl _), m8 _ _ _ h8 (by decide) (by omega), m8 _ _ _ h9 (by decide) (by omega), ?_, h11, h12⟩ hkt m4
    · rcases Nat.lt_or_ge j k with hjk | hjk
      · obtain ⟨u', q1, q2⟩ := h4 j l' hjk hl'
        exact ⟨u', by rw [List.getElem?_append_left (by omega)]; exact q1, q2.kt hkt⟩
      · obtain rfl : j = k := by omega
        rw [hl] at hl'; cases hl'
        exact ⟨_, by rw [← h3]; simp, hu0.kt hkt⟩
    · have := (KeepsWalks.setCell w1 ⟨Bo, 3, none⟩ (.slice (some ⟨g, 0, none⟩) (k + 1) c)).size
      omega
end
theorem gr_map {W a b : World} {r : Nat} (h : Gr W a) (g : a.grownBy b (some r)) (hr : W.heap.size ≤ r) : Gr W b :=
  h.grown g fun k hk => by
    injection hk with hk
    omega
set_option maxRecDepth 100000 in
set_option maxHeartbeats 16000000 in
theorem arrange_any (v vo : Value) (f : Fn) (o : List Nat) (w : World) (hf : FnAt w.heap.size w v f) (hvo : IntsAt w.heap.size w vo (o.map fun b : Nat => (b : Int))) (hv : Ref.Val f) (hk : Ref.Keeps f o) :
    Calls Tryz.prog 17 #[v, vo] w fun e w' => ∃ A1 c1 A2 c2 A3 c3, e = .returned (.agg #[.slice A1 f.params.length c1, .int .i64 f.ret, .slice A2 f.slots.length c2, .slice A3 o.length c3]) ∧ Hid (CpAt w.heap.size w' (.agg #[.slice A1 f.params.length c1, .int .i64 f.ret, .slice A2 f.slots.length c2, .slice A3 o.length c3]) (Ref.moved f o)) ∧ Gr w w' := by
  have HVAL := Lib.hid hv
  have HK := Lib.hid hk
  obtain ⟨sz1, sz2, sz3, sz4, sz5⟩ := hv.size
  have hol := hk.toOrd.short
  have hN40 : Ref.count f ≤ 43 := by unfold Ref.count Ref.number; rw [List.take_length]; omega
  obtain ⟨vp, vs, vb, rfl, hp, hsl, hb⟩ := hf
  have HP := Lib.hid hp
  have HS := Lib.hid hsl
  obtain ⟨Ap, cp, rfl, hp1, hp2, -⟩ := hp
  obtain ⟨As, cs, rfl, hs1, hs2, -⟩ := hsl
  obtain ⟨Ab, cb, rfl, hb1, hb2, hb3⟩ := hb
  obtain ⟨bb, ob, rfl, hbb, hcells⟩ := hb3 (by omega)
  obtain ⟨Ao, co, rfl, ho1, ho2, ho3⟩ := hvo
  rw [List.length_map] at ho1 ho2 ho3 ⊢
  obtain ⟨bo, oo, rfl, hbo, hoc⟩ := ho3 (by have := o_pos' hk; omega)
  have HOC : Hid (∀ w', Gr w w' → ∀ (k b : Nat), o[k]? = some b → w'.cell? ⟨bo, oo + k, none⟩ = some (.int .i64 (b : Int))) := fun w' g k b hkb => (g.cell _ _ hbo).trans (hoc k b (by rw [List.getElem?_map, hkb]; rfl))
  have HBC : Hid (∀ (b : Nat) (l : List Ins), f.blocks[b]? = some l → ∃ Al cl, (∀ w', Gr w w' → w'.cell? ⟨bb, ob + b, none⟩ = some (.slice Al l.length cl)) ∧ l.length ≤ cl ∧ l.length ≤ 17592186044416 ∧ (0 < l.length → ∃ b off, Al = some ⟨b, off, none⟩ ∧ b < w.heap.size ∧ ∀ j x, l[j]? = some x → InsAt w.heap.size w b (off + j * 6) x)) := fun b l hl => by
    obtain ⟨u, hu0, Al, cl, rfl, h1, h2, h4⟩ := hcells b l hl
    exact ⟨Al, cl, fun w' g => (g.cell _ _ hbb).trans hu0, h1, h2, h4⟩
  obtain ⟨W, hW⟩ : ∃ W, (w.alloc (.cells #[.slice Ap f.params.length cp, .int .i64 f.ret, .slice As f.slots.length cs, .slice (some ⟨bb, ob, none⟩) f.blocks.length cb] 25)).alloc (.cells #[.slice none 0 0, .int .i64 0, .slice none 0 0, .slice none 0 0] 25) = W := ⟨_, rfl⟩
  have hB0 : Gr w W := by rw [← hW]; exact ((Gr.refl w).alloc _).alloc _
  have hWs : W.heap.size = w.heap.size + 2 := by rw [← hW]; simp
  obtain ⟨row, hrow⟩ : ∃ row : Array Value, #[.slice Ap f.params.length cp, .int .i64 f.ret, .slice As f.slots.length cs, .slice (some ⟨bb, ob, none⟩) f.blocks.length cb] = row := ⟨_, rfl⟩
  have hr0' : W.heap[w.heap.size]? = some (.cells #[.slice Ap f.params.length cp, .int .i64 f.ret, .slice As f.slots.length cs, .slice (some ⟨bb, ob, none⟩) f.blocks.length cb] 25 (0, 0)) := by
    rw [← hW]; exact (((Gr.refl _).alloc _).heap _ (by simp)).trans (heap_alloc_new w _)
  have hr1 : W.heap[w.heap.size + 1]? = some (.cells #[.slice none 0 0, .int .i64 0, .slice none 0 0, .slice none 0 0] 25 (0, 0)) := by
    rw [← hW]; exact heap_alloc2_new w _ _
  have HROW := Lib.hid hrow
  have KP0 : Hid (∀ w', Gr W w' → w'.cell? ⟨w.heap.size, 0, none⟩ = some (.slice Ap f.params.length cp) ∧ w'.cell? ⟨w.heap.size, 1, none⟩ = some (.int .i64 f.ret) ∧ w'.cell? ⟨w.heap.size, 2, none⟩ = some (.slice As f.slots.length cs) ∧ w'.cell? ⟨w.heap.size, 3, none⟩ = some (.slice (some ⟨bb, ob, none⟩) f.blocks.length cb)) := fun w' q => by
    have h := (q.heap _ (by omega)).trans hr0'
    exact ⟨cell_of_row _ _ 0 _ _ _ h, cell_of_row _ _ 1 _ _ _ h, cell_of_row _ _ 2 _ _ _ h, cell_of_row _ _ 3 _ _ _ h⟩
  have HR0 : Hid (W.heap[w.heap.size]? = some (.cells row 25 (0, 0))) := by show _ = _; rw [← hrow]; exact hr0'
  have HR1 := Lib.hid hr1
  have HB0 := Lib.hid hB0
  have HWS := Lib.hid hWs
  obtain ⟨k0, k1, k2, k3⟩ := KP0.out W (Gr.refl W)
  have HORD : Hid (∀ k b : Nat, o[k]? = some b → ∃ l, f.blocks[b]? = some l ∧ b < f.blocks.length) := fun k b h => ⟨_, List.getElem?_eq_getElem (hk.lt b (List.mem_of_getElem? h)), hk.lt b (List.mem_of_getElem? h)⟩
  have hmm := @run_makeMap Tryz.prog
  clear hr0' hr1 hb3 hrow hv hk hcells ho3 hoc hB0 hWs
  go_enter Tryz.func17, Tryz.ntmps17
  go_upto_block 0 with (at_make; refine make_ints rfl _ _ rfl w.heap.size f.blocks.length rfl rfl (by omega) HB0.out.size ?_; intro w2 hrow2 hg2; have HR2 := Lib.hid hrow2; have HG2 := Lib.hid hg2; clear k0 k1 k2 k3; obtain ⟨k0, k1, k2, k3⟩ := KP0.out _ hg2; clear hrow2 hg2)
  have HHB : Hid (W.heap.size ≤ W.heap.size) := Nat.le_refl _
  have HBL : Hid (W.heap.size < w2.heap.size) := HR2.out.lt.2
  obtain ⟨hb, hhb⟩ : ∃ hb, W.heap.size = hb := ⟨_, rfl⟩
  have HWB : Hid (W.heap.size = hb) := hhb
  rw [hhb] at HR2 ⊢
  replace HHB : Hid (W.heap.size ≤ hb) := by rw [hhb] at HHB ⊢; exact HHB
  replace HBL : Hid (hb < w2.heap.size) := by rw [hhb] at HBL; exact HBL
  clear hhb
  go_cut [] (fun wx => ∃ ns : List Int, Hid (NRow w.heap.size hb f.blocks.length wx ns) ∧ Hid (Gr W wx) ∧ Hid (∀ v : Nat, v < f.blocks.length → ns[v]? = some ((Ref.number f v : Nat) : Int)))
  case first =>
    go_wp2_with (fail)
    go_loopw [6, 32] (fun s6 i wr => ∃ (k : Nat) (ns : List Int), k ≤ f.blocks.length ∧ i = .int .i64 k ∧ s6 = .int .i64 (Ref.number f k : Nat) ∧ Hid (NRow w.heap.size hb f.blocks.length wr ns) ∧ Hid (Gr W wr) ∧ Hid (∀ v : Nat, v < k → ns[v]? = some ((Ref.number f v : Nat) : Int))) (fun _ i _ => f.blocks.length - (intOf i).toNat)
    case atStart => exact ⟨0, _, Nat.zero_le _, rfl, by simp [Ref.number, Ref.total], HR2, HG2, Lib.hid fun v h => by omega⟩
    case round =>
      clear k0 k1 k2 k3
      obtain ⟨k, ns, hk, rfl, rfl, HR, HG, HV⟩ := hrel
      by_cases hlt : k < f.blocks.length
      · obtain ⟨l, hl⟩ : ∃ l, f.blocks[k]? = some l := ⟨_, List.getElem?_eq_getElem hlt⟩
        obtain ⟨Al, cl, hAl, hl1, hl2, hl3⟩ := HBC.out k l hl
        have e1 := hAl _ (HB0.out.trans HG.out)
        have hnb := Ref.number_count f hl
        have HNX := Lib.hid (Ref.number_next f hl)
        have hln := HR.out.len
        obtain ⟨z, hz⟩ : ∃ z, ns[k]? = some z := ⟨_, List.getElem?_eq_getElem (by omega)⟩
        have q0 := HR.out.cell k z hz
        have q1 := HR.out.frozen k
        have HV2 : Hid (∀ v : Nat, v < k + 1 → (ns.set k ((Ref.number f k : Nat) : Int))[v]? = some ((Ref.number f v : Nat) : Int)) := set_num (by omega) HV.out
        have z0 : (0 : Int) ≤ (k : Int) := by omega
        have z1 : (k : Int) < (f.blocks.length : Int) := by omega
        have HR3 := Lib.hid (HR.out.set_ k ((Ref.number f k : Nat) : Int))
        have HG3 : Hid (Gr W (wr.setCell ⟨hb, k, none⟩ (.int .i64 ((Ref.number f k : Nat) : Int)))) := HG.out.setCell HHB.out _
        obtain ⟨nk, hnk⟩ : ∃ nk, Ref.number f k = nk := ⟨_, rfl⟩
        rw [hnk] at hnb HNX HV2 HR3 HG3 ⊢
        clear hln hz hl hAl hl3 hlt hnk
        go_wp2_with (fail)
        go_roundw
        case rel => exact ⟨k + 1, _, by omega, by go_num, by rw [HNX.out]; go_num, HR3, HG3, HV2⟩
        case measure => simp [intOf] <;> omega
      · obtain rfl : k = f.blocks.length := by omega
        go_wp2_with (fail)
        go_meet
        exact ⟨ns, HR, HG, HV⟩
  case rest =>
  obtain ⟨ns1, HRa, HGa, HVa⟩ := hcut
  clear HR2 HG2 k0 k1 k2 k3 HBL
  obtain ⟨r1, hr1⟩ : ∃ r, wc.heap.size = r := ⟨_, rfl⟩
  obtain ⟨W2, hW2⟩ : ∃ W2, wc.alloc (.map #[] 0) = W2 := ⟨_, rfl⟩
  have HF2 : Hid (MapAt r1 0 W2 (fun _ => none) ∧ NRow w.heap.size hb f.blocks.length W2 ns1 ∧ Gr W W2 ∧ hb < r1 ∧ W.heap.size ≤ r1) := by
    rw [← hW2, ← hr1]
    exact ⟨MapAt.made wc, HRa.out.gr ((Gr.refl _).alloc _), HGa.out.alloc _, HRa.out.lt.2, HGa.out.size⟩
  obtain ⟨k0, k1, k2, k3⟩ := KP0.out _ HF2.out.2.2.1
  go_upto_block 2 with (fail)
  clear hW2 hr1
  have HR1B : Hid (hb ≠ r1 ∧ W.heap.size ≤ r1) := ⟨by have := HF2.out.2.2.2.1; omega, HF2.out.2.2.2.2⟩
  go_cut [] (fun wx => ∃ M : Int → Option Int, Hid (MapAt r1 f.params.length wx M) ∧ Hid (∀ v : Nat, v < f.params.length → M (v : Int) = some (v : Int)) ∧ Hid (NRow w.heap.size hb f.blocks.length wx ns1) ∧ Hid (Gr W wx))
  case first =>
    go_wp2_with (fail)
    go_loopw [50] (fun i wr => ∃ (k : Nat) (M : Int → Option Int), k ≤ f.params.length ∧ i = .int .i64 k ∧ Hid (MapAt r1 k wr M) ∧ Hid (∀ v : Nat, v < k → M (v : Int) = some (v : Int)) ∧ Hid (NRow w.heap.size hb f.blocks.length wr ns1) ∧ Hid (Gr W wr)) (fun i _ => f.params.length - (intOf i).toNat)
    case atStart => exact ⟨0, _, Nat.zero_le _, rfl, HF2.out.1, Lib.hid fun v h => by omega, HF2.out.2.1, HF2.out.2.2.1⟩
    case round =>
      clear k0 k1 k2 k3
      obtain ⟨k, M, hk, rfl, HM, HMV, HR, HG⟩ := hrel
      by_cases hlt : k < f.params.length
      · have hw : Word (k : Int) := ⟨by omega, by omega⟩
        have hkn : k ≤ 1000000 := by omega
        have z0 : (0 : Int) ≤ (k : Int) := by omega
        have z1 : (k : Int) < (f.params.length : Int) := by omega
        have HMV2 : Hid (∀ v : Nat, v < k + 1 → (fun j : Int => if j = (k : Int) then some (k : Int) else M j) (v : Int) = some (v : Int)) := fun v hv => by
          show (if _ then _ else _) = _
          by_cases e : (v : Int) = (k : Int)
          · rw [if_pos e, e]
          · rw [if_neg e]; exact HMV.out v (by omega)
        clear hlt
        go_wp2_with (at_mapUpdate; refine MapAt.store HM.out hkn (k : Int) (k : Int) hw hw rfl (.tmp 53) (.tmp 54) (.tmp 55) rfl rfl rfl rfl ?_; intro w3 hm3 hg3; have HM3 := Lib.hid hm3; have HR3 := Lib.hid (HR.out.other hg3 HR1B.out.1); have HG3 : Hid (Gr W w3) := gr_map HG.out hg3 HR1B.out.2; clear hm3 hg3)
        go_roundw
        case rel => exact ⟨k + 1, _, by omega, by go_num, HM3, HMV2, HR3, HG3⟩
        case measure => simp [intOf] <;> omega
      · obtain rfl : k = f.params.length := by omega
        go_wp2_with (fail)
        go_meet
        exact ⟨M, HM, HMV, HR, HG⟩
  case rest =>
  obtain ⟨M1, HM1, HMV1, HRb, HGb⟩ := hcut
  clear HF2 HRa HGa k0 k1 k2 k3
  obtain ⟨r2, hr2⟩ : ∃ r, wc.heap.size = r := ⟨_, rfl⟩
  obtain ⟨W3, hW3⟩ : ∃ W3, wc.alloc (.map #[] 0) = W3 := ⟨_, rfl⟩
  have HF3 : Hid (MapAt r1 f.params.length W3 M1 ∧ MapAt r2 0 W3 (fun _ => none) ∧ NRow w.heap.size hb f.blocks.length W3 ns1 ∧ Gr W W3) := by
    rw [← hW3, ← hr2]
    exact ⟨HM1.out.gr ((Gr.refl _).alloc _), MapAt.made wc, HRb.out.gr ((Gr.refl _).alloc _), HGb.out.alloc _⟩
  have HR2B : Hid (hb ≠ r2 ∧ r1 ≠ r2 ∧ W.heap.size ≤ r2) := by
    rw [← hr2]
    exact ⟨by have := HRb.out.lt.2; omega, by have := HM1.out.lt; omega, HGb.out.size⟩
  obtain ⟨k0, k1, k2, k3⟩ := KP0.out _ HF3.out.2.2.2
  go_upto_block 4 with (fail)
  clear hW3 hr2
  go_cut [] from 12 to 91 (fun wx => ∃ (MV MB : Int → Option Int) (n1 n2 : Nat), Hid (MapAt r1 n1 wx MV) ∧ Hid (MapAt r2 n2 wx MB) ∧ Hid (Maps2 f o MV MB) ∧ Hid (Gr W wx))
  case first =>
    go_wp2_with (fail)
    go_loopw [12, 63] (fun s12 i wr => ∃ (k : Nat) (MV MB : Int → Option Int), k ≤ o.length ∧ i = .int .i64 k ∧ s12 = .int .i64 (Ref.start f (o.take k) : Nat) ∧ Hid (MapAt r1 (Ref.start f (o.take k)) wr MV) ∧ Hid (Dm f o MV k 0) ∧ Hid (MapAt r2 k wr MB) ∧ Hid (Db f o MB k) ∧ Hid (NRow w.heap.size hb f.blocks.length wr ns1) ∧ Hid (Gr W wr)) (fun _ i _ => o.length - (intOf i).toNat)
    case atStart => exact ⟨0, M1, _, Nat.zero_le _, rfl, by simp [Ref.start], by (show MapAt _ _ _ _); simpa [Ref.start] using HF3.out.1, Dm.start HMV1.out, HF3.out.2.1, Db.start, HF3.out.2.2.1, HF3.out.2.2.2⟩
    case round =>
      clear k0 k1 k2 k3
      obtain ⟨k, MV, MB, hk, rfl, rfl, HM, HD, HMB, HDB, HR, HG⟩ := hrel
      by_cases hlt : k < o.length
      · obtain ⟨b, hob⟩ : ∃ b, o[k]? = some b := ⟨_, List.getElem?_eq_getElem hlt⟩
        obtain ⟨l, hl, hbl⟩ := HORD.out k b hob
        have hst := start_le HVAL.out HK.out hob hl
        have hnb := Ref.number_count f hl
        have HSN : Hid (Ref.start f (o.take (k + 1)) = Ref.start f (o.take k) + l.length) := by show _ = _; rw [Ref.moved_nums_start f o k b hob, Ref.getD_some hl]
        have HNA : Hid (∀ i, i < l.length → Ref.num f o ((Ref.number f b + i : Nat) : Int) = ((Ref.start f (o.take k) + i : Nat) : Int)) := fun i hi => Ref.num_at HK.out.toOrd hl hi hob
        have HOB := Lib.hid hob
        have HLB := Lib.hid hl
        have HNV := Lib.hid (HVa.out b hbl)
        have HDB2 := Lib.hid (HDB.out.step HK.out.nodup hob)
        obtain ⟨Al, cl, hAl, hl1, hl2, hl3⟩ := HBC.out b l hl
        have HAL := Lib.hid hAl
        have l0 := HOC.out _ (HB0.out.trans HG.out) k b hob
        have hw1 : Word (b : Int) := ⟨by omega, by omega⟩
        have hw2 : Word (k : Int) := ⟨by omega, by omega⟩
        have hkn : k ≤ 1000000 := by omega
        obtain ⟨q, hq⟩ : ∃ q, Ref.start f (o.take k) = q := ⟨_, rfl⟩
        obtain ⟨nb, hnbq⟩ : ∃ q, Ref.number f b = q := ⟨_, rfl⟩
        rw [hq] at hst HSN HNA HM ⊢
        rw [hnbq] at hnb HNA HNV
        have HNBQ := Lib.hid hnbq
        have z0 : (0 : Int) ≤ (k : Int) := by omega
        have z1 : (k : Int) < (o.length : Int) := by omega
        have z2 : (0 : Int) ≤ (b : Int) := by omega
        have z3 : (b : Int) < (f.blocks.length : Int) := by omega
        clear hob hl hAl hl3 hq hnbq hlt hbl HDB
        go_wp2_with (at_mapUpdate; refine MapAt.store HMB.out hkn (b : Int) (k : Int) hw1 hw2 rfl (.tmp 68) (.tmp 69) (.tmp 70) rfl rfl rfl rfl ?_; intro w3 hm3 hg3; have HMB3 := Lib.hid hm3; have HR3 := Lib.hid (HR.out.other hg3 HR2B.out.1); have HM3 := Lib.hid (HM.out.other hg3 HR2B.out.2.1); have HG3 : Hid (Gr W w3) := gr_map HG.out hg3 HR2B.out.2.2; clear hm3 hg3; obtain ⟨k0, k1, k2, k3⟩ := KP0.out _ HG3.out; have l1 := HAL.out _ (HB0.out.trans HG3.out))
        obtain ⟨MB2, hMB2⟩ : ∃ MB2 : Int → Option Int, (fun j : Int => if j = (b : Int) then some (k : Int) else MB j) = MB2 := ⟨_, rfl⟩
        rw [hMB2] at HMB3 HDB2
        clear hMB2 k0 k1 k2 k3 l0 l1 HMB HM HR HG
        go_loopw [12, 77] (fun s12 s77 wr => ∃ (i : Nat) (MV : Int → Option Int), i ≤ l.length ∧ s77 = .int .i64 i ∧ s12 = .int .i64 ((q : Int) + (i : Int)) ∧ Hid (MapAt r1 (q + i) wr MV) ∧ Hid (Dm f o MV k i) ∧ Hid (MapAt r2 (k + 1) wr MB2) ∧ Hid (NRow w.heap.size hb f.blocks.length wr ns1) ∧ Hid (Gr W wr)) (fun _ i _ => l.length - (intOf i).toNat)
        case atStart => exact ⟨0, MV, Nat.zero_le _, rfl, by simp, HM3, HD, HMB3, HR3, HG3⟩
        case round =>
          clear HM3 HD HMB3 HR3 HG3
          obtain ⟨i, MV, hi, rfl, rfl, HM, HD, HMB, HR, HG⟩ := hrel
          by_cases hlt : i < l.length
          · have e0 := HR.out.cell b _ HNV.out
            have hw3 : Word ((nb : Int) + (i : Int)) := ⟨by omega, by omega⟩
            have hw4 : Word ((q : Int) + (i : Int)) := ⟨by omega, by omega⟩
            have hkm : q + i ≤ 1000000 := by omega
            have HD2 : Hid (Dm f o (fun j : Int => if j = (nb : Int) + (i : Int) then some ((q : Int) + (i : Int)) else MV j) k (i + 1)) := by
              have := HD.out.step HOB.out HLB.out hlt
              rw [HNBQ.out, HNA.out i hlt] at this
              show Dm _ _ _ _ _
              simpa using this
            have z4 : (0 : Int) ≤ (i : Int) := by omega
            have z5 : (i : Int) < (l.length : Int) := by omega
            have z6 : (0 : Int) ≤ (nb : Int) := by omega
            have z7 : (0 : Int) ≤ (q : Int) := by omega
            have z8 : (nb : Int) + (i : Int) ≤ 43 := by omega
            have z9 : (q : Int) + (i : Int) ≤ 42 := by omega
            clear hlt
            go_wp2_with (at_mapUpdate; refine MapAt.store HM.out hkm ((nb : Int) + (i : Int)) ((q : Int) + (i : Int)) hw3 hw4 rfl (.tmp 80) (.tmp 86) (.tmp 87) rfl rfl rfl rfl ?_; intro w3 hm3 hg3; have HM3 := Lib.hid hm3; have HR3 := Lib.hid (HR.out.other hg3 HR1B.out.1); have HMB3 := Lib.hid (HMB.out.other hg3 (Ne.symm HR2B.out.2.1)); have HG3 : Hid (Gr W w3) := gr_map HG.out hg3 HR1B.out.2; clear hm3 hg3)
            go_roundw
            case rel => exact ⟨i + 1, _, by omega, by go_num, by go_num, HM3, HD2, HMB3, HR3, HG3⟩
            case measure => simp [intOf] <;> omega
          · obtain rfl : i = l.length := by omega
            have HM4 : Hid (MapAt r1 (Ref.start f (o.take (k + 1))) wr MV) := by show MapAt _ _ _ _; rw [HSN.out]; exact HM.out
            go_wp2_with (fail)
            go_roundw
            case rel => exact ⟨k + 1, MV, MB2, by omega, by go_num, by rw [HSN.out]; go_num, HM4, Lib.hid (HD.out.next HOB.out HLB.out rfl), HMB, HDB2, HR, HG⟩
            case measure => simp [intOf] <;> omega
      · obtain rfl : k = o.length := by omega
        go_wp2_with (fail)
        go_meet
        exact ⟨MV, MB, _, _, HM, HMB, Lib.hid (Maps2.of HD.out HDB.out), HG⟩
  case rest =>
  obtain ⟨MV, MB, n1, n2, HMV, HMB, HM2, HGc⟩ := hcut
  have hB0c : Gr w wc := HB0.out.trans HGc.out
  have hWsc : w.heap.size + 2 ≤ wc.heap.size := by have := HGc.out.size; have := HWS.out; omega
  have KPc : Hid (∀ w', Gr wc w' → w'.cell? ⟨w.heap.size, 0, none⟩ = some (.slice Ap f.params.length cp) ∧ w'.cell? ⟨w.heap.size, 1, none⟩ = some (.int .i64 f.ret) ∧ w'.cell? ⟨w.heap.size, 2, none⟩ = some (.slice As f.slots.length cs)) := fun w' g => by
    obtain ⟨a0, a1, a2, -⟩ := KP0.out _ (HGc.out.trans g)
    exact ⟨a0, a1, a2⟩
  have HR0c : Hid (wc.heap[w.heap.size]? = some (.cells row 25 (0, 0))) := (HGc.out.heap _ (by have := HWS.out; omega)).trans HR0.out
  have HR1c : Hid (wc.heap[w.heap.size + 1]? = some (.cells #[.slice none 0 0, .int .i64 0, .slice none 0 0, .slice none 0 0] 25 (0, 0))) := (HGc.out.heap _ (by have := HWS.out; omega)).trans HR1.out
  have HC1 : Hid (∀ w1, Gr wc w1 → Calls Tryz.prog 36 #[.slice Ap f.params.length cp] w1 fun e w' => ∃ A c, e = .returned (.slice A f.params.length c) ∧ Hid (TI w.heap.size w' (.slice A f.params.length c) f.params) ∧ Gr w1 w') := fun w1 q =>
    (Clone_own _ f.params _ w1 (HP.out.gr (hB0c.trans q)) (Nat.le_refl _)).mono fun _ _ ⟨A, c, h1, h2, h3⟩ => ⟨A, c, h1, (h2.ti hp2).lower (by have := q.size; omega), h3⟩
  have HC2 : Hid (∀ w1, Gr wc w1 → Calls Tryz.prog 36 #[.slice As f.slots.length cs] w1 fun e w' => ∃ A c, e = .returned (.slice A f.slots.length c) ∧ Hid (TI w.heap.size w' (.slice A f.slots.length c) f.slots) ∧ Gr w1 w') := fun w1 q =>
    (Clone_own _ f.slots _ w1 (HS.out.gr (hB0c.trans q)) (Nat.le_refl _)).mono fun _ _ ⟨A, c, h1, h2, h3⟩ => ⟨A, c, h1, (h2.ti hs2).lower (by have := q.size; omega), h3⟩
  have HZ : Hid (∀ w', Gr (wc.alloc (.cells #[.slice none 0 0, .int .i64 0, .slice none 0 0, .slice none 0 0] 25)) w' → w'.heap[wc.heap.size]? = some (.cells #[.slice none 0 0, .int .i64 0, .slice none 0 0, .slice none 0 0] 25 (0, 0))) := fun w' q =>
    (q.heap _ (by simp)).trans (heap_alloc_new wc _)
  clear HF3 HR1B HR2B HM1 HMV1 HRb HGb HVa k0 k1 k2 k3 hW
  go_upto_region 28 with (fail)
  go_cut [16] from 92 to 100 (fun s16 wx => ∃ Bo A1 c1 A2 c2, s16 = .pointer (some ⟨Bo, 0, none⟩) ∧ Hid (CInv w wx Bo (Ref.moved f o) (.slice A1 f.params.length c1) (.slice A2 f.slots.length c2) row 0 (.slice none 0 0) wx) ∧ Hid (Gr wc wx))
  case first =>
    clear HMV HMB HM2 HVAL HK
    go_region_held3 (fun w' => w'.cell? ⟨w.heap.size, 0, none⟩ = some (.slice Ap f.params.length cp) ∧ w'.cell? ⟨w.heap.size, 1, none⟩ = some (.int .i64 f.ret) ∧ w'.cell? ⟨w.heap.size, 2, none⟩ = some (.slice As f.slots.length cs))
      (first | exact KPc.out _ (Gr.refl wc).drew | exact KPc.out _ gl | exact KPc.out _ g3 | exact KPc.out _ g4 | exact KPc.out _ ((Gr.refl wc).alloc _).drew | exact KPc.out _ ((Gr.refl wc).drew.alloc _) | exact KPc.out _ (g3.alloc _) | exact KPc.out _ (g4.alloc _) | exact KPc.out _ (gl.alloc _) | exact KPc.out _ (four_gr gl (by first | omega | (have := g3.size; omega) | (have := g4.size; omega)) _ _ _ _))
      (first
        | (go_at_call 36; (with_reducible refine (HC1.out _ (Gr.refl _).drew).mono ?_); rintro e3 w3 ⟨A3, c3, rfl, T3, g30⟩; have g3 : Gr wc w3 := (Gr.refl _).drew.trans g30)
        | (go_at_call 36; (with_reducible refine (HC2.out _ (Gr.refl _).drew).mono ?_); rintro e4 w4 ⟨A4, c4, rfl, T4, g40⟩; have g4 : Gr wc w4 := (Gr.refl _).drew.trans g40)
        | (go_at_call 36; (with_reducible refine (HC1.out _ ((Gr.refl _).alloc _).drew).mono ?_); rintro e3 w3 ⟨A3, c3, rfl, T3, g30⟩; have g3 : Gr wc w3 := ((Gr.refl _).alloc _).drew.trans g30; have hb3 := HZ.out _ ((Gr.refl _).drew.trans g30))
        | (go_at_call 36; (with_reducible refine (HC2.out _ ((Gr.refl _).alloc _).drew).mono ?_); rintro e4 w4 ⟨A4, c4, rfl, T4, g40⟩; have g4 : Gr wc w4 := ((Gr.refl _).alloc _).drew.trans g40; have hb3 := HZ.out _ ((Gr.refl _).drew.trans g40))
        | (go_at_call 36; (with_reducible refine (HC2.out _ g3).mono ?_); rintro e4 wl ⟨A4, c4, rfl, T4, g40⟩; have gl : Gr wc wl := g3.trans g40; have TA := Lib.hid (T3.out.gr g40); have TT := T4; (try (have hbx := (g40.heap _ (Array.getElem?_eq_some_iff.1 hb3).1).trans hb3; have x0 := cell_of_row _ _ 0 _ _ _ hbx; have x1 := cell_of_row _ _ 1 _ _ _ hbx; have x2 := cell_of_row _ _ 2 _ _ _ hbx; have x3 := cell_of_row _ _ 3 _ _ _ hbx; have y0 := frozen_of_row _ _ 0 _ _ hbx; have y1 := frozen_of_row _ _ 1 _ _ hbx; have y2 := frozen_of_row _ _ 2 _ _ hbx; have y3 := frozen_of_row _ _ 3 _ _ hbx)))
        | (go_at_call 36; (with_reducible refine (HC2.out _ (g3.alloc (.cells #[.slice none 0 0, .int .i64 0, .slice none 0 0, .slice none 0 0] 25))).mono ?_); rintro e4 wl ⟨A4, c4, rfl, T4, g40⟩; have gl : Gr wc wl := (g3.alloc _).trans g40; have TA := Lib.hid ((T3.out.gr ((Gr.refl _).alloc _)).gr g40); have TT := T4; have hbx := (g40.heap _ (Array.getElem?_eq_some_iff.1 (heap_alloc_new w3 (.cells #[.slice none 0 0, .int .i64 0, .slice none 0 0, .slice none 0 0] 25))).1).trans (heap_alloc_new w3 (.cells #[.slice none 0 0, .int .i64 0, .slice none 0 0, .slice none 0 0] 25)); have x0 := cell_of_row _ _ 0 _ _ _ hbx; have x1 := cell_of_row _ _ 1 _ _ _ hbx; have x2 := cell_of_row _ _ 2 _ _ _ hbx; have x3 := cell_of_row _ _ 3 _ _ _ hbx; have y0 := frozen_of_row _ _ 0 _ _ hbx; have y1 := frozen_of_row _ _ 1 _ _ hbx; have y2 := frozen_of_row _ _ 2 _ _ hbx; have y3 := frozen_of_row _ _ 3 _ _ hbx)
        | (go_at_call 36; (with_reducible refine (HC1.out _ g4).mono ?_); rintro e3 wl ⟨A3, c3, rfl, T3, g30⟩; have gl : Gr wc wl := g4.trans g30; have TA := T3; have TT := Lib.hid (T4.out.gr g30); (try (have hbx := (g30.heap _ (Array.getElem?_eq_some_iff.1 hb3).1).trans hb3; have x0 := cell_of_row _ _ 0 _ _ _ hbx; have x1 := cell_of_row _ _ 1 _ _ _ hbx; have x2 := cell_of_row _ _ 2 _ _ _ hbx; have x3 := cell_of_row _ _ 3 _ _ _ hbx; have y0 := frozen_of_row _ _ 0 _ _ hbx; have y1 := frozen_of_row _ _ 1 _ _ hbx; have y2 := frozen_of_row _ _ 2 _ _ hbx; have y3 := frozen_of_row _ _ 3 _ _ hbx)))
        | (go_at_call 36; (with_reducible refine (HC1.out _ (g4.alloc (.cells #[.slice none 0 0, .int .i64 0, .slice none 0 0, .slice none 0 0] 25))).mono ?_); rintro e3 wl ⟨A3, c3, rfl, T3, g30⟩; have gl : Gr wc wl := (g4.alloc _).trans g30; have TA := T3; have TT := Lib.hid ((T4.out.gr ((Gr.refl _).alloc _)).gr g30); have hbx := (g30.heap _ (Array.getElem?_eq_some_iff.1 (heap_alloc_new w4 (.cells #[.slice none 0 0, .int .i64 0, .slice none 0 0, .slice none 0 0] 25))).1).trans (heap_alloc_new w4 (.cells #[.slice none 0 0, .int .i64 0, .slice none 0 0, .slice none 0 0] 25)); have x0 := cell_of_row _ _ 0 _ _ _ hbx; have x1 := cell_of_row _ _ 1 _ _ _ hbx; have x2 := cell_of_row _ _ 2 _ _ _ hbx; have x3 := cell_of_row _ _ 3 _ _ _ hbx; have y0 := frozen_of_row _ _ 0 _ _ hbx; have y1 := frozen_of_row _ _ 1 _ _ hbx; have y2 := frozen_of_row _ _ 2 _ _ hbx; have y3 := frozen_of_row _ _ 3 _ _ hbx))
    all_goals go_wp2_with (fail)
    all_goals go_meet
    all_goals refine ⟨_, A3, c3, A4, c4, rfl, Lib.hid (CInv.turn (f := f) ?_ rfl rfl rfl), Lib.hid ?_⟩
    all_goals first
      | with_reducible exact CInv.start' hB0c HR0c.out HR1c.out gl TA.out TT.out
      | with_reducible exact CInv.start hB0c HR0c.out HR1c.out gl hbx (by first | omega | (have := g3.size; omega) | (have := g4.size; omega)) TA.out TT.out
      | with_reducible exact gl.alloc _
      | with_reducible exact four_gr gl (by first | omega | (have := g3.size; omega) | (have := g4.size; omega)) _ _ _ _
  case rest =>
  obtain ⟨Bo, A1, c1, A2, c2, rfl, HI0, HGd⟩ := hcut
  have HMV0 : Hid (MapAt r1 n1 wc MV) := HMV.out.gr HGd.out
  have HMB0 : Hid (MapAt r2 n2 wc MB) := HMB.out.gr HGd.out
  have HSRC : Hid (∀ (k : Nat) (vb : Value) (wr : World), CInv w wc Bo (Ref.moved f o) (.slice A1 f.params.length c1) (.slice A2 f.slots.length c2) row k vb wr → wr.cell? ⟨w.heap.size, 3, none⟩ = some (.slice (some ⟨bb, ob, none⟩) f.blocks.length cb)) := fun k vb wr h => by
    have q := h.src
    rw [← HROW.out] at q
    exact cell_of_row _ _ 3 _ _ _ q
  have HINS : Hid (∀ (k b : Nat) (l : List Ins) (i : Nat) (x : Ins), o[k]? = some b → f.blocks[b]? = some l → l[i]? = some x → ∀ w1, Gr w w1 → MapAt r1 n1 w1 MV → MapAt r2 n2 w1 MB → ∀ Aa ca Av cv, IntsAt w.heap.size w (.slice Aa x.args.length ca) x.args → IntsAt w.heap.size w (.slice Av x.to.length cv) x.to → Calls Tryz.prog 37 #[.agg #[.int .i64 x.op, .int .i64 x.width, .int .i64 x.flags, .slice Aa x.args.length ca, .int .u32 x.imm, .slice Av x.to.length cv], .map (some r1), .map (some r2)] w1 fun e w' => ∃ A3 c3 A4 c4, e = .returned (.agg #[.int .i64 (Ref.renum f o x).op, .int .i64 (Ref.renum f o x).width, .int .i64 (Ref.renum f o x).flags, .slice A3 (Ref.renum f o x).args.length c3, .int .u32 (Ref.renum f o x).imm, .slice A4 (Ref.renum f o x).to.length c4]) ∧ Hid (TI w.heap.size w' (.slice A3 (Ref.renum f o x).args.length c3) (Ref.renum f o x).args ∧ TI w.heap.size w' (.slice A4 (Ref.renum f o x).to.length c4) (Ref.renum f o x).to) ∧ Gr w1 w') := by
    intro k b l i x hob hl hx w1 g m1 m2 Aa ca Av cv ha hvt
    refine (changed_any HVAL.out HK.out HM2.out (List.mem_of_getElem? hob) hl hx _ r1 r2 n1 n2 w1 ⟨_, _, rfl, ha.gr g, hvt.gr g⟩ m1 m2).mono ?_
    rintro e w' ⟨A3, c3, A4, c4, he, ⟨t1, t2⟩, hg⟩
    exact ⟨A3, c3, A4, c4, he, ⟨t1.lower g.size, t2.lower g.size⟩, hg⟩
  have HML := Lib.hid (Ref.moved_len f o)
  have HMB2 : Hid (∀ (k b : Nat) (l : List Ins), o[k]? = some b → f.blocks[b]? = some l → (Ref.moved f o).blocks[k]? = some (l.map (Ref.renum f o)) ∧ l.length ≤ 43) := fun k b l h1 h2 => by
    obtain ⟨l', q1, q2⟩ := Ref.moved_blk HK.out.toOrd h1
    rw [h2] at q1; cases q1
    exact ⟨q2, by have := start_le HVAL.out HK.out h1 h2; omega⟩
  clear HMV HMB HM2 HVAL HK HGd HGc HP HS HR0 HR1 HR0c HR1c KPc HB0 hB0c KP0 HC1 HC2 HZ
  go_wp2_with (fail)
  go_loopw [18, 19, 21, 103] (fun _ _ _ i wr => ∃ (k : Nat) (vb : Value), k ≤ o.length ∧ i = .int .i64 k ∧ Hid (CInv w wc Bo (Ref.moved f o) (.slice A1 f.params.length c1) (.slice A2 f.slots.length c2) row k vb wr) ∧ Hid (MapAt r1 n1 wr MV) ∧ Hid (MapAt r2 n2 wr MB)) (fun _ _ _ i _ => o.length - (intOf i).toNat)
  case atStart => exact ⟨0, _, Nat.zero_le _, rfl, HI0, HMV0, HMB0⟩
  case round =>
    clear HI0 HMV0 HMB0
    obtain ⟨k, vb, hk, rfl, HI, HMV, HMB⟩ := hrel
    obtain ⟨wo, ewo⟩ : ∃ wo, wo = wr := ⟨wr, rfl⟩
    subst ewo
    by_cases hlt : k < o.length
    · obtain ⟨b, hob⟩ : ∃ b, o[k]? = some b := ⟨_, List.getElem?_eq_getElem hlt⟩
      obtain ⟨l, hl, hbl⟩ := HORD.out k b hob
      obtain ⟨Al, cl, hAl, hl1, hl2, hl3⟩ := HBC.out b l hl
      obtain ⟨hmb, hll⟩ := HMB2.out k b l hob hl
      have HMK := Lib.hid hmb
      have H4 : Hid (0 < l.length → ∃ b off, Al = some ⟨b, off, none⟩ ∧ b < w.heap.size ∧ ∀ j x, l[j]? = some x → InsAt w.heap.size w b (off + j * 6) x) := hl3
      have hgw := HI.out.toGr
      have HGW := Lib.hid hgw
      have e1 := HSRC.out _ _ _ HI.out
      have e2 := HOC.out _ hgw k b hob
      have e3 := hAl _ hgw
      have HIN : Hid (∀ (i : Nat) (x : Ins), l[i]? = some x → ∀ w1, Gr wo w1 → ∀ Aa ca Av cv, IntsAt w.heap.size w (.slice Aa x.args.length ca) x.args → IntsAt w.heap.size w (.slice Av x.to.length cv) x.to → Calls Tryz.prog 37 #[.agg #[.int .i64 x.op, .int .i64 x.width, .int .i64 x.flags, .slice Aa x.args.length ca, .int .u32 x.imm, .slice Av x.to.length cv], .map (some r1), .map (some r2)] w1 fun e w' => ∃ A3 c3 A4 c4, e = .returned (.agg #[.int .i64 (Ref.renum f o x).op, .int .i64 (Ref.renum f o x).width, .int .i64 (Ref.renum f o x).flags, .slice A3 (Ref.renum f o x).args.length c3, .int .u32 (Ref.renum f o x).imm, .slice A4 (Ref.renum f o x).to.length c4]) ∧ Hid (TI w.heap.size w' (.slice A3 (Ref.renum f o x).args.length c3) (Ref.renum f o x).args ∧ TI w.heap.size w' (.slice A4 (Ref.renum f o x).to.length c4) (Ref.renum f o x).to) ∧ Gr w1 w') :=
        fun i x hx w1 g Aa ca Av cv => HINS.out k b l i x hob hl hx w1 (hgw.trans g) (HMV.out.gr g) (HMB.out.gr g) Aa ca Av cv
      have z0 : (0 : Int) ≤ (k : Int) := by omega
      have z1 : (k : Int) < (o.length : Int) := by omega
      have z2 : (0 : Int) ≤ (b : Int) := by omega
      have z3 : (b : Int) < (f.blocks.length : Int) := by omega
      clear hob hl hAl hmb hl3 hgw hlt hbl
      go_wp2_with (fail)
      clear e1 e2 e3
      go_loopw [19, 21, 113] (fun s _ i wx => ∃ (j : Nat) (m : List Ins), j ≤ l.length ∧ i = .int .i64 j ∧ Hid (m = (l.take j).map (Ref.renum f o)) ∧ Hid (OwnI w.heap.size wo.heap.size wx s m) ∧ Hid (Gr wo wx)) (fun _ _ i _ => l.length - (intOf i).toNat)
      case atStart => exact ⟨0, [], Nat.zero_le _, rfl, Lib.hid rfl, OwnI.nil _ _ _, Gr.refl _⟩
      case round =>
        obtain ⟨j, m, hj, rfl, HM, HO, HGX⟩ := hrel
        have hml : m.length ≤ 1000000 := by rw [HM.out, List.length_map, List.length_take]; omega
        by_cases hlt2 : j < l.length
        · obtain ⟨bl, ol, rfl, hbl, hcells2⟩ := H4.out (by omega)
          obtain ⟨x, hx⟩ : ∃ x, l[j]? = some x := ⟨_, List.getElem?_eq_getElem hlt2⟩
          obtain ⟨va, vt, x0, x1, x2, x3, x4, x5, hxa, hxt⟩ := hcells2 j x hx
          have HXA := Lib.hid hxa
          have HXT := Lib.hid hxt
          obtain ⟨Aa, ca, rfl, -, -, -⟩ := hxa
          obtain ⟨Av, cv, rfl, -, -, -⟩ := hxt
          have HCR := Lib.hid fun w1 (q : Gr wr w1) => HIN.out j x hx w1 (HGX.out.trans q) Aa ca Av cv HXA.out HXT.out
          obtain ⟨X, hX⟩ : ∃ X, Ref.renum f o x = X := ⟨_, rfl⟩
          rw [hX] at HCR
          have HMX : Hid (m ++ [X] = (l.take (j + 1)).map (Ref.renum f o)) := by show _ = _; rw [List.take_add_one, hx, List.map_append, HM.out, ← hX]; rfl
          have hgwx := HGW.out.trans HGX.out
          replace x0 := (hgwx.cell _ _ hbl).trans x0
          replace x1 := (hgwx.cell _ _ hbl).trans x1
          replace x2 := (hgwx.cell _ _ hbl).trans x2
          replace x3 := (hgwx.cell _ _ hbl).trans x3
          replace x4 := (hgwx.cell _ _ hbl).trans x4
          replace x5 := (hgwx.cell _ _ hbl).trans x5
          have hbb2 : wo.heap.size ≤ wr.heap.size := HGX.out.size
          have z4 : (0 : Int) ≤ (j : Int) := by omega
          have z5 : (j : Int) < (l.length : Int) := by omega
          clear hx hX hcells2 hlt2 hgwx
          go_wp2_with (first
            | (go_at_call 37; refine (HCR.out _ ((Gr.refl _).alloc _)).mono ?_; rintro e w1 ⟨A3, c3, A4, c4, rfl, HT1, g0⟩; have HG1 : Hid (Gr wr w1) := ((Gr.refl wr).alloc _).trans g0; have HO1 := Lib.hid (HO.out.gr HG1.out); have hz1 : wo.heap.size ≤ w1.heap.size := Nat.le_trans hbb2 HG1.out.size; clear g0 x0 x1 x2 x3 x4 x5)
            | (at_builtin; refine OwnI.app HO1.out HT1.out.1 HT1.out.2 hz1 hml rfl (.tmp 117) (.tmp 122) rfl rfl rfl ?_; intro A5 c5 w2 ho2 hb2; have HO2 := Lib.hid ho2; have HG2 : Hid (Gr wo w2) := (HGX.out.trans HG1.out).below hb2 (Nat.le_refl _); clear ho2 hb2))
          go_roundw
          case rel => exact ⟨j + 1, m ++ [X], by omega, by go_num, HMX, by (show OwnI _ _ _ _ _); simpa using HO2.out, HG2⟩
          case measure => simp [intOf] <;> omega
        · obtain rfl : j = l.length := by omega
          have HML2 : Hid (m = l.map (Ref.renum f o)) := by show _ = _; rw [HM.out, List.take_length]
          have HO2 := HO.out
          obtain ⟨Au, cu, rfl⟩ := HO2.form
          have HTB : Hid (TB w.heap.size wr (.slice Au m.length cu) m) := HO2.tb (by omega) HGW.out.size
          obtain ⟨Avb, cvb, rfl⟩ := HI.out.form
          have HI1 := Lib.hid (HI.out.gr HGX.out)
          have HMV1 := Lib.hid (HMV.out.gr HGX.out)
          have HMB1 := Lib.hid (HMB.out.gr HGX.out)
          have HMK2 : Hid ((Ref.moved f o).blocks[k]? = some m) := by show _ = _; rw [HML2.out]; exact HMK.out
          have hbx := HI1.out.box
          have b3 := cell_of_row _ _ 3 _ _ _ hbx
          clear hbx HI HO HO2 hml HM
          go_wp2_with (at_builtin; refine CInv.append3 HI1.out HTB.out HMK2.out (by omega) rfl _ _ rfl rfl rfl ?_; intro g5 c5 w5 hm5 HI5 hk5 ho5; have d3 := cell_of_row _ _ 3 _ _ _ hm5; have q3 := frozen_of_row _ _ 3 _ _ hm5; have HJ := Lib.hid HI5; have HMV2 := Lib.hid (HMV1.out.keeps ho5); have HMB3 := Lib.hid (HMB1.out.keeps ho5); clear hm5 HI5 hk5 ho5)
          go_roundw
          case rel => exact ⟨k + 1, _, by omega, by go_num, HJ, HMV2, HMB3⟩
          case measure => simp [intOf] <;> omega
    · obtain rfl : k = o.length := by omega
      obtain ⟨A3, c3, rfl⟩ := HI.out.form
      have hbx := HI.out.box
      have hrs := HI.out.res
      have b0 := cell_of_row _ _ 0 _ _ _ hbx
      have b1 := cell_of_row _ _ 1 _ _ _ hbx
      have b2 := cell_of_row _ _ 2 _ _ _ hbx
      have b3 := cell_of_row _ _ 3 _ _ _ hbx
      have r0 := cell_of_row _ _ 0 _ _ _ hrs
      have r1 := cell_of_row _ _ 1 _ _ _ hrs
      have r2 := cell_of_row _ _ 2 _ _ _ hrs
      have r3 := cell_of_row _ _ 3 _ _ _ hrs
      have f0 := frozen_of_row _ _ 0 _ _ hrs
      have f1 := frozen_of_row _ _ 1 _ _ hrs
      have f2 := frozen_of_row _ _ 2 _ _ hrs
      have f3 := frozen_of_row _ _ 3 _ _ hrs
      have HRS := Lib.hid hrs
      have HIE : Hid (CInv w wc Bo (Ref.moved f o) (.slice A1 f.params.length c1) (.slice A2 f.slots.length c2) row (Ref.moved f o).blocks.length (.slice A3 o.length c3) wo) := by
        show CInv _ _ _ _ _ _ _ _ _ _
        rw [HML.out]; exact HI.out
      clear hbx hrs
      go_wp2_with (fail)
      refine bodyPost_ret (results_fn _ _ 4 _ (w.heap.size + 1) _ _ _ _ _ rfl rfl (four_stores HRS.out _ _ _ _) ⟨_, _, _, rfl⟩ ⟨_, rfl⟩ ⟨_, _, _, rfl⟩ ⟨_, _, _, rfl⟩) rfl ?_
      obtain ⟨q1, q2⟩ := HIE.out.done
      exact ⟨A1, c1, A2, c2, A3, c3, rfl, q1, q2⟩
end Go.Proofs.YtiadpjhlomhjeaaGreat

import Derived.Test.YtiadpjhlomhjeaaGreatRefC
import Derived.Test.YtiadpjhlomhjeaaGreatRefE
import Derived.Test.YtiadpjhlomhjeaaGreatZb
namespace Go.Proofs.YtiadpjhlomhjeaaGreat
open Go.RowKit

theorem map_snoc {l : List Int} {k : Nat} {z : Int} {g : Int → Int} (h : l[k]? = some z) : (l.take (k + 1)).map g = (l.take k).map g ++ [g z] := by
  obtain ⟨hk, e⟩ := List.getElem?_eq_some_iff.1 h
  rw [List.take_succ_eq_append_getElem hk, e]; simp

/-- How many Args an instruction that is right has, by its operation. -/
theorem args_len (f : Fn) (x : Ins) (h : Ref.argument f x = true) :
    (x.op = 14 ∨ x.op = 25 ∨ x.op = 27 → x.args.length = 2) ∧ (x.op = 15 → x.args.length = 3) ∧ (x.op = 16 ∨ x.op = 17 ∨ x.op = 18 ∨ x.op = 26 ∨ x.op = 30 → x.args.length = 1) := by
  have h1 : Ref.counts (Ref.shape f x) x = true := by
    unfold Ref.argument at h; simp only [Bool.and_eq_true] at h; exact h.1.1.2
  refine ⟨fun h => ?_, fun h => ?_, fun h => ?_⟩
  · rcases h with h | h | h <;> simp [Ref.counts, Ref.shape, h] at h1 <;> omega
  · simp [Ref.counts, Ref.shape, h] at h1; omega
  · rcases h with h | h | h | h | h <;> simp [Ref.counts, Ref.shape, h] at h1 <;> omega
theorem two_of {l : List Int} (h : l.length = 2) : ∃ a b, l = [a, b] := by
  match l, h with | [a, b], _ => exact ⟨a, b, rfl⟩
theorem three_of {l : List Int} (h : l.length = 3) : ∃ a b c, l = [a, b, c] := by
  match l, h with | [a, b, c], _ => exact ⟨a, b, c, rfl⟩
theorem one_of {l : List Int} (h : l.length = 1) : ∃ a, l = [a] := by
  match l, h with | [a], _ => exact ⟨a, rfl⟩

set_option maxRecDepth 100000 in
set_option maxHeartbeats 16000000 in
theorem typed_any (f : Fn) (x : Ins) (v vx : Value) (w : World) (hf : FnAt w.heap.size w v f) (hx : InsV w.heap.size w vx x) (hs : f.blocks.length ≤ 100000) (hlen : x.args.length ≤ 100000)
    (hwf : Hid (∀ z ∈ x.args, -9223372036854775808 ≤ z ∧ z ≤ 9223372036854775807)) (hcnt : Hid (Ref.argument f x = true)) :
    Calls Tryz.prog 41 #[v, vx] w fun e w' => e = .returned (.bool (Ref.typed f x)) ∧ Gr w w' := by
  have hf0 := hf
  obtain ⟨vp, vs, vb, rfl, hp, ⟨As, cs, rfl, -, -, -⟩, ⟨Ab, cb, rfl, -, -, -⟩⟩ := hf
  obtain ⟨Ap, cp, rfl, -, -, -⟩ := hp
  obtain ⟨va, vt, rfl, ⟨Aa, ca, rfl, -, ha2, ha3⟩, ⟨At, ct, rfl, -, ht2, -⟩⟩ := hx
  obtain ⟨i0, hi, hz0, hz1, hz2⟩ := info_parts info_int
  obtain ⟨W, hW⟩ : ∃ W, (w.alloc (.cells #[.slice Ap f.params.length cp, .int .i64 f.ret, .slice As f.slots.length cs, .slice Ab f.blocks.length cb] 25)).alloc (.cells #[.int .i64 x.op, .int .i64 x.width, .int .i64 x.flags, .slice Aa x.args.length ca, .int .u32 x.imm, .slice At x.to.length ct] 38) = W := ⟨_, rfl⟩
  have hB0 : Gr w W := by rw [← hW]; exact ((Gr.refl w).alloc _).alloc _
  have hWs : W.heap.size = w.heap.size + 2 := by rw [← hW]; simp
  have b0 : ∀ o, W.cell? ⟨w.heap.size, o, none⟩ = (#[.slice Ap f.params.length cp, .int .i64 f.ret, .slice As f.slots.length cs, .slice Ab f.blocks.length cb] : Array Value)[o]? := by
    intro o; rw [← hW]; exact cell_of_row _ _ _ _ _ _ (heap_alloc2_old w _ _)
  have b1 : ∀ o, W.cell? ⟨w.heap.size + 1, o, none⟩ = (#[.int .i64 x.op, .int .i64 x.width, .int .i64 x.flags, .slice Aa x.args.length ca, .int .u32 x.imm, .slice At x.to.length ct] : Array Value)[o]? := by
    intro o; rw [← hW]; exact cell_of_row _ _ _ _ _ _ (heap_alloc2_new w _ _)
  have HT : Hid (Ref.typed f x = (x.args.all (fun v => decide (0 ≤ Ref.kind f v)) && Ref.typedKinds f x (x.args.map (Ref.kind f)))) := rfl
  unfold insVal
  go_enter Tryz.func41, Tryz.ntmps41
  go_wp2

  have HW := Lib.hid hW
  clear hW
  go_loopw [5, 6] (fun s i wr => ∃ ys : List Int, ys.length ≤ x.args.length ∧ i = .int .i64 ys.length ∧ Own1 W.heap.size 3 wr s (ys.map (Value.int .i64)) ∧ Gr W wr ∧ Hid (ys = (x.args.take ys.length).map (Ref.kind f)) ∧ Hid (∀ y ∈ ys, 0 ≤ y)) (fun _ i _ => x.args.length - (intOf i).toNat)
  case atStart => exact ⟨[], Nat.zero_le _, rfl, Own1.nil _ _ _, Gr.refl _, by show _ = _; simp, fun y hy => by simp at hy⟩
  case round =>
    obtain ⟨ys, hk, rfl, hown, hgr, hys, hall⟩ := hrel
    have c0 := (hgr.cell w.heap.size 0 (by omega)).trans (b0 0)
    have c1 := (hgr.cell w.heap.size 1 (by omega)).trans (b0 1)
    have c2 := (hgr.cell w.heap.size 2 (by omega)).trans (b0 2)
    have c3 := (hgr.cell w.heap.size 3 (by omega)).trans (b0 3)
    have d3 := (hgr.cell (w.heap.size + 1) 3 (by omega)).trans (b1 3)
    simp at c0 c1 c2 c3 d3
    by_cases hlt : ys.length < x.args.length
    · obtain ⟨ba, oa, rfl, hba, hca⟩ := ha3 (by omega)
      obtain ⟨z, hz⟩ : ∃ z, x.args[ys.length]? = some z := ⟨x.args[ys.length], by simp [hlt]⟩
      have hcell := ((hB0.trans hgr).cell ba (oa + ys.length) hba).trans (hca ys.length z hz)
      have hzw := hwf.out z (List.mem_of_getElem? hz)
      have HS : Hid (ys ++ [Ref.kind f z] = (x.args.take (ys.length + 1)).map (Ref.kind f)) := by show _ = _; rw [map_snoc hz, ← hys.out]
      have HZ : Hid (z ∈ x.args) := List.mem_of_getElem? hz
      have HC : Hid (∀ w1, Gr wr w1 → Calls Tryz.prog 75 #[.agg #[.slice Ap f.params.length cp, .int .i64 f.ret, .slice As f.slots.length cs, .slice Ab f.blocks.length cb], .int .i64 z] w1 fun e w' => e = .returned (.int .i64 (Ref.kind f z)) ∧ Gr w1 w') := fun w1 g1 =>
        kind_any _ f z w1 (hf0.gr ((hB0.trans hgr).trans g1)) hs hzw.1 hzw.2
      have z0 : (0 : Int) ≤ ys.length := by omega
      have z1 : (ys.length : Int) < (x.args.length : Int) := by omega
      have hgs := hgr.size
      have kp : Hid (∀ w', Gr W w' → (w'.cell? ⟨w.heap.size, 0, none⟩ = some (.slice Ap f.params.length cp) ∧ w'.cell? ⟨w.heap.size, 1, none⟩ = some (.int .i64 f.ret) ∧ w'.cell? ⟨w.heap.size, 2, none⟩ = some (.slice As f.slots.length cs) ∧ w'.cell? ⟨w.heap.size, 3, none⟩ = some (.slice Ab f.blocks.length cb) ∧ w'.cell? ⟨w.heap.size + 1, 3, none⟩ = some (.slice (some ⟨ba, oa, none⟩) x.args.length ca) ∧ w'.cell? ⟨ba, oa + ys.length, none⟩ = some (.int .i64 z))) := fun w' g => ⟨(g.cell w.heap.size 0 (by omega)).trans (b0 0), (g.cell w.heap.size 1 (by omega)).trans (b0 1), (g.cell w.heap.size 2 (by omega)).trans (b0 2), (g.cell w.heap.size 3 (by omega)).trans (b0 3), (g.cell (w.heap.size + 1) 3 (by omega)).trans (b1 3), ((hB0.trans g).cell ba (oa + ys.length) hba).trans (hca ys.length z hz)⟩
      clear hca ha3 hz hf0 b0 b1
      go_wp2
      go_region_held3 (fun w' => w'.cell? ⟨w.heap.size, 0, none⟩ = some (.slice Ap f.params.length cp) ∧ w'.cell? ⟨w.heap.size, 1, none⟩ = some (.int .i64 f.ret) ∧ w'.cell? ⟨w.heap.size, 2, none⟩ = some (.slice As f.slots.length cs) ∧ w'.cell? ⟨w.heap.size, 3, none⟩ = some (.slice Ab f.blocks.length cb) ∧ w'.cell? ⟨w.heap.size + 1, 3, none⟩ = some (.slice (some ⟨ba, oa, none⟩) x.args.length ca) ∧ w'.cell? ⟨ba, oa + ys.length, none⟩ = some (.int .i64 z)) (first | exact kp.out _ hgr.drew | exact kp.out _ g1 | exact kp.out _ (g1.alloc _) | exact kp.out _ g2) (first | (go_at_call 75; refine (HC.out _ ((Gr.refl _).drew)).mono ?_; rintro e w1 ⟨rfl, g0⟩; have g1 : Gr W w1 := (hgr.drew).trans g0; have hzz : W.heap.size ≤ w1.heap.size := g1.size; have hown1 := hown.gr (((Gr.refl wr).drew).trans g0)) | (refine step_app1 (v := u5) Tryz.underlying22 hi hz0 hz1 hz2 rfl (by omega) rfl (.tmp 15) (.tmp 23) (by rfl) (by rfl) hown1 rfl (by rfl) (by simp; omega) hzz ?_; intro A1 c1 w2 hown2 hb2 hg2; have g2 : Gr W w2 := g1.below hb2 (Nat.le_refl _)))
      obtain ⟨b2, rfl, -, -, hcc⟩ := own_cells hown2 (A := A1) (c := c1) (by simp) (by simp)
      have hk' : w2.cell? ⟨b2, ys.length, none⟩ = some (.int .i64 (Ref.kind f z)) := by
        rw [hcc ys.length (by simp), List.getElem?_append_right (by simp)]; simp
      have HOWN := Lib.hid hown2
      clear hcc hown2
      go_wp2
      · have hneg : Ref.kind f z < 0 := by assumption
        go_ret
        exact ⟨ret_bool (by
          rw [HT.out]
          have : x.args.all (fun v => decide (0 ≤ Ref.kind f v)) = false := by
            rw [List.all_eq_false]; exact ⟨z, HZ.out, by simp; omega⟩
          rw [this]; rfl), hB0.trans g2⟩
      · have hpos : 0 ≤ Ref.kind f z := by assumption
        go_roundw
        case rel => exact ⟨ys ++ [Ref.kind f z], by simp; omega, by simp, by simpa using HOWN.out, g2, by show _ = _; rw [HS.out]; simp, fun y hy => by rcases List.mem_append.1 hy with h | h; exact hall.out y h; simp at h; omega⟩
        case measure => simp [intOf]; omega
    · have hk' : ys.length = x.args.length := by omega
      have HY : Hid (ys = x.args.map (Ref.kind f)) := by show _ = _; rw [hys.out, hk', List.take_length]
      have HT' : Hid (Ref.typed f x = Ref.typedKinds f x ys) := by
        show _ = _
        rw [HT.out, ← HY.out]
        have : x.args.all (fun v => decide (0 ≤ Ref.kind f v)) = true := by
          rw [List.all_eq_true]; intro v hv; simp; exact hall.out _ (by rw [HY.out]; exact List.mem_map_of_mem hv)
        rw [this]; rfl
      obtain ⟨A2, c2', rfl⟩ := hown.form
      have HB : Gr w wr := hB0.trans hgr
      have d0 := (hgr.cell (w.heap.size + 1) 0 (by omega)).trans (b1 0)
      have d1 := (hgr.cell (w.heap.size + 1) 1 (by omega)).trans (b1 1)
      simp at d0 d1
      have hal := args_len f x hcnt.out
      have HK := Lib.hid hk'
      clear b0 b1 ha3 hys hall HT hwf hf0 hk' hlt
      rcases Decidable.em (x.op = 14) with ho | n14
      · obtain ⟨y0, y1, rfl⟩ := two_of (HK.out.trans (hal.1 (.inl ho)))
        have hge : x.args.length ≤ 2 := by have := HK.out; simp at this; omega
        obtain ⟨b2, rfl, -, -, hcc⟩ := own_cells hown (A := A2) (c := c2') (by simp) (by simp)
        have e0 := hcc 0 (by simp)
        have e1 := hcc 1 (by simp)
        simp at e0 e1
        clear hcc hal
        have HT2 : Hid (Ref.typed f x = (Ref.isWidth y0 && decide (y1 = y0))) := by show _ = _; rw [HT'.out]; simp [Ref.typedKinds, ho]
        have CW : Hid (∀ w', Calls Tryz.prog 38 #[.int .i64 y0] w' fun e w'' => e = .returned (.bool (Ref.isWidth y0)) ∧ w' = w'') := isWidth_any y0
        cases hw : Ref.isWidth y0 with
        | true =>
          rw [hw] at CW HT2
          clear hw
          go_wp2
          go_quiet ((go_at_call 38; exact quiet_same (CW.out _)))
          go_wp2
          all_goals go_ret
          all_goals exact ⟨ret_bool (by rw [HT2.out]; grind), HB.drewN _⟩
        | false =>
          rw [hw] at CW HT2
          clear hw
          go_wp2
          go_quiet ((go_at_call 38; exact quiet_same (CW.out _)))
          go_wp2
          all_goals go_ret
          all_goals exact ⟨ret_bool (by rw [HT2.out]; grind), HB.drewN _⟩
      rcases Decidable.em (x.op = 15) with ho | n15
      · obtain ⟨y0, y1, y2, rfl⟩ := three_of (HK.out.trans (hal.2.1 ho))
        have hge : x.args.length ≤ 3 := by have := HK.out; simp at this; omega
        obtain ⟨b2, rfl, -, -, hcc⟩ := own_cells hown (A := A2) (c := c2') (by simp) (by simp)
        have e0 := hcc 0 (by simp)
        have e1 := hcc 1 (by simp)
        have e2 := hcc 2 (by simp)
        simp at e0 e1 e2
        clear hcc hal
        have HT2 : Hid (Ref.typed f x = (decide (y0 = 1) && decide (y1 = x.width) && decide (y2 = x.width))) := by show _ = _; rw [HT'.out]; simp [Ref.typedKinds, ho]
        rcases Decidable.em (y0 = 1) with h0 | h0
        · have n0 : (y0 == 1) = true := by simp [h0]
          have H0 := Lib.hid h0
          clear h0
          rcases Decidable.em (y1 = x.width) with h1 | h1
          · have n1 : (y1 == x.width) = true := by simp [h1]
            have H1 := Lib.hid h1
            clear h1
            go_wp2
            go_quiet (fail)
            go_wp2
            go_ret
            exact ⟨ret_bool (by rw [HT2.out]; have a := H0.out; have b := H1.out; grind), HB.drewN _⟩
          · have n1 : (y1 == x.width) = false := by simp [h1]
            have H1 := Lib.hid h1
            clear h1
            go_wp2
            go_quiet (fail)
            go_wp2
            go_ret
            exact ⟨ret_bool (by rw [HT2.out]; have b := H1.out; grind), HB.drewN _⟩
        · have n0 : (y0 == 1) = false := by simp [h0]
          have H0 := Lib.hid h0
          clear h0
          go_wp2
          go_quiet (fail)
          go_wp2
          go_ret
          exact ⟨ret_bool (by rw [HT2.out]; have a := H0.out; grind), HB.drewN _⟩
      rcases Decidable.em (x.op = 16) with ho | n16
      · obtain ⟨y0, rfl⟩ := one_of (HK.out.trans (hal.2.2 (.inl ho)))
        have hge : x.args.length ≤ 1 := by have := HK.out; simp at this; omega
        obtain ⟨b2, rfl, -, -, hcc⟩ := own_cells hown (A := A2) (c := c2') (by simp) (by simp)
        have e0 := hcc 0 (by simp)
        simp at e0
        clear hcc hal
        have HT2 : Hid (Ref.typed f x = (Ref.isWidth y0 && decide (y0 < x.width))) := by show _ = _; rw [HT'.out]; simp [Ref.typedKinds, ho]
        have CW : Hid (∀ w', Calls Tryz.prog 38 #[.int .i64 y0] w' fun e w'' => e = .returned (.bool (Ref.isWidth y0)) ∧ w' = w'') := isWidth_any y0
        cases hw : Ref.isWidth y0 with
        | true =>
          rw [hw] at CW HT2
          clear hw
          go_wp2
          go_quiet ((go_at_call 38; exact quiet_same (CW.out _)))
          go_wp2
          all_goals go_ret
          all_goals exact ⟨ret_bool (by rw [HT2.out]; grind), HB.drewN _⟩
        | false =>
          rw [hw] at CW HT2
          clear hw
          go_wp2
          go_quiet ((go_at_call 38; exact quiet_same (CW.out _)))
          go_wp2
          all_goals go_ret
          all_goals exact ⟨ret_bool (by rw [HT2.out]; grind), HB.drewN _⟩
      rcases Decidable.em (x.op = 17) with ho | n17
      · obtain ⟨y0, rfl⟩ := one_of (HK.out.trans (hal.2.2 (.inr (.inl ho))))
        have hge : x.args.length ≤ 1 := by have := HK.out; simp at this; omega
        obtain ⟨b2, rfl, -, -, hcc⟩ := own_cells hown (A := A2) (c := c2') (by simp) (by simp)
        have e0 := hcc 0 (by simp)
        simp at e0
        clear hcc hal
        have HT2 : Hid (Ref.typed f x = (Ref.isWidth y0 && decide (y0 < x.width))) := by show _ = _; rw [HT'.out]; simp [Ref.typedKinds, ho]
        have CW : Hid (∀ w', Calls Tryz.prog 38 #[.int .i64 y0] w' fun e w'' => e = .returned (.bool (Ref.isWidth y0)) ∧ w' = w'') := isWidth_any y0
        cases hw : Ref.isWidth y0 with
        | true =>
          rw [hw] at CW HT2
          clear hw
          go_wp2
          go_quiet ((go_at_call 38; exact quiet_same (CW.out _)))
          go_wp2
          all_goals go_ret
          all_goals exact ⟨ret_bool (by rw [HT2.out]; grind), HB.drewN _⟩
        | false =>
          rw [hw] at CW HT2
          clear hw
          go_wp2
          go_quiet ((go_at_call 38; exact quiet_same (CW.out _)))
          go_wp2
          all_goals go_ret
          all_goals exact ⟨ret_bool (by rw [HT2.out]; grind), HB.drewN _⟩
      rcases Decidable.em (x.op = 18) with ho | n18
      · obtain ⟨y0, rfl⟩ := one_of (HK.out.trans (hal.2.2 (.inr (.inr (.inl ho)))))
        have hge : x.args.length ≤ 1 := by have := HK.out; simp at this; omega
        obtain ⟨b2, rfl, -, -, hcc⟩ := own_cells hown (A := A2) (c := c2') (by simp) (by simp)
        have e0 := hcc 0 (by simp)
        simp at e0
        clear hcc hal
        have HT2 : Hid (Ref.typed f x = (Ref.isWidth y0 && decide (x.width < y0))) := by show _ = _; rw [HT'.out]; simp [Ref.typedKinds, ho]
        have CW : Hid (∀ w', Calls Tryz.prog 38 #[.int .i64 y0] w' fun e w'' => e = .returned (.bool (Ref.isWidth y0)) ∧ w' = w'') := isWidth_any y0
        cases hw : Ref.isWidth y0 with
        | true =>
          rw [hw] at CW HT2
          clear hw
          go_wp2
          go_quiet ((go_at_call 38; exact quiet_same (CW.out _)))
          go_wp2
          all_goals go_ret
          all_goals exact ⟨ret_bool (by rw [HT2.out]; grind), HB.drewN _⟩
        | false =>
          rw [hw] at CW HT2
          clear hw
          go_wp2
          go_quiet ((go_at_call 38; exact quiet_same (CW.out _)))
          go_wp2
          all_goals go_ret
          all_goals exact ⟨ret_bool (by rw [HT2.out]; grind), HB.drewN _⟩
      rcases Decidable.em (x.op = 25) with ho | n25
      · obtain ⟨y0, y1, rfl⟩ := two_of (HK.out.trans (hal.1 (.inr (.inl ho))))
        have hge : x.args.length ≤ 2 := by have := HK.out; simp at this; omega
        obtain ⟨b2, rfl, -, -, hcc⟩ := own_cells hown (A := A2) (c := c2') (by simp) (by simp)
        have e0 := hcc 0 (by simp)
        have e1 := hcc 1 (by simp)
        simp at e0 e1
        clear hcc hal
        have HT2 : Hid (Ref.typed f x = (decide (y0 = 33) && Ref.isWidth y1)) := by show _ = _; rw [HT'.out]; simp [Ref.typedKinds, ho]
        go_wp2_with (go_at_call 38; refine (isWidth_any _ _).mono ?_; rintro e w1 ⟨rfl, rfl⟩)
        all_goals go_ret
        all_goals exact ⟨ret_bool (by rw [HT2.out]; grind), HB⟩
      rcases Decidable.em (x.op = 26) with ho | n26
      · obtain ⟨y0, rfl⟩ := one_of (HK.out.trans (hal.2.2 (.inr (.inr (.inr (.inl ho))))))
        have hge : x.args.length ≤ 1 := by have := HK.out; simp at this; omega
        obtain ⟨b2, rfl, -, -, hcc⟩ := own_cells hown (A := A2) (c := c2') (by simp) (by simp)
        have e0 := hcc 0 (by simp)
        simp at e0
        clear hcc hal
        have HT2 : Hid (Ref.typed f x = (decide (y0 = 33))) := by show _ = _; rw [HT'.out]; simp [Ref.typedKinds, ho]
        go_wp2
        all_goals go_ret
        all_goals exact ⟨ret_bool (by rw [HT2.out]; grind), HB⟩
      rcases Decidable.em (x.op = 27) with ho | n27
      · obtain ⟨y0, y1, rfl⟩ := two_of (HK.out.trans (hal.1 (.inr (.inr ho))))
        have hge : x.args.length ≤ 2 := by have := HK.out; simp at this; omega
        obtain ⟨b2, rfl, -, -, hcc⟩ := own_cells hown (A := A2) (c := c2') (by simp) (by simp)
        have e0 := hcc 0 (by simp)
        have e1 := hcc 1 (by simp)
        simp at e0 e1
        clear hcc hal
        have HT2 : Hid (Ref.typed f x = (decide (y0 = 33) && Ref.isMem y1)) := by show _ = _; rw [HT'.out]; simp [Ref.typedKinds, ho]
        go_wp2
        all_goals go_ret
        all_goals exact ⟨ret_bool (by rw [HT2.out]; unfold Ref.isMem; grind), HB⟩
      rcases Decidable.em (x.op = 30) with ho | n30
      · obtain ⟨y0, rfl⟩ := one_of (HK.out.trans (hal.2.2 (.inr (.inr (.inr (.inr ho))))))
        have hge : x.args.length ≤ 1 := by have := HK.out; simp at this; omega
        obtain ⟨b2, rfl, -, -, hcc⟩ := own_cells hown (A := A2) (c := c2') (by simp) (by simp)
        have e0 := hcc 0 (by simp)
        simp at e0
        clear hcc hal
        have HT2 : Hid (Ref.typed f x = (decide (y0 = 1))) := by show _ = _; rw [HT'.out]; simp [Ref.typedKinds, ho]
        go_wp2
        all_goals go_ret
        all_goals exact ⟨ret_bool (by rw [HT2.out]; grind), HB⟩
      rcases Decidable.em (x.op = 31) with ho | n31
      · clear hal
        rcases ys with _ | ⟨y0, r⟩
        · have HT2 : Hid (Ref.typed f x = true) := by show _ = _; rw [HT'.out]; simp [Ref.typedKinds, ho]
          have hge : x.args.length ≤ 0 := by have := HK.out; simp at this; simp [this]
          go_wp2
          go_quiet (fail)
          go_wp2
          go_ret
          exact ⟨ret_bool (by rw [HT2.out]), HB.drewN _⟩
        · obtain ⟨b2, rfl, -, -, hcc⟩ := own_cells hown (A := A2) (c := c2') (by simp) (by simp)
          have e0 := hcc 0 (by simp)
          simp at e0
          have HT2 : Hid (Ref.typed f x = decide (y0 = f.ret)) := by show _ = _; rw [HT'.out]; simp [Ref.typedKinds, ho]
          have hge : x.args.length ≤ r.length + 1 := by have := HK.out; simp at this; omega
          have nz : ((r.length : Int) + 1 == 0) = false := by simp; omega
          have z1 : (0 : Int) < (r.length : Int) + 1 := by omega
          clear hcc
          go_wp2
          go_quiet (fail)
          go_wp2
          go_ret
          exact ⟨ret_bool (by rw [HT2.out]; grind), HB.drewN _⟩
      have HT2 : Hid (Ref.typed f x = ys.all fun z => decide (z = x.width)) := by
        show _ = _; rw [HT'.out]; simp [Ref.typedKinds, n14, n15, n16, n17, n18, n25, n26, n27, n30, n31]
      have hge : x.args.length ≤ ys.length := by have := HK.out; omega
      clear hal
      go_wp2
      go_loopw [7] (fun i wx => ∃ k : Nat, k ≤ ys.length ∧ i = .int .i64 k ∧ Gr wr wx ∧ Hid ((ys.all fun z => decide (z = x.width)) = ((ys.drop k).all fun z => decide (z = x.width)))) (fun i _ => ys.length - (intOf i).toNat)
      case atStart => exact ⟨0, Nat.zero_le _, rfl, Gr.refl _, rfl⟩
      case round =>
        obtain ⟨k, hk, rfl, hgx, hrest⟩ := hrel
        rcases hr : ys.drop k with _ | ⟨z, r⟩
        · have hkn := drop_nil hr hk
          have HA : Hid ((ys.all fun z => decide (z = x.width)) = true) := by show _ = _; rw [hrest.out, hr]; rfl
          subst hkn
          clear hr hrest
          go_wp2
          go_ret
          exact ⟨ret_bool (by rw [HT2.out, HA.out]), HB.trans hgx⟩
        · obtain ⟨hlt, hl, hr'⟩ := drop_cons hr
          obtain ⟨b2, rfl, hb2, -, hcc⟩ := own_cells hown (A := A2) (c := c2') (by simp) (by simp; omega)
          have q := (hgx.cell b2 k hb2).trans (hcc k (by simp; omega))
          rw [List.getElem?_map, hl] at q
          simp only [Option.map_some] at q
          have q1 := (hgx.cell (w.heap.size + 1) 1 (by have := hgr.size; omega)).trans d1
          have HR : Hid ((ys.all fun z => decide (z = x.width)) = (decide (z = x.width) && r.all fun z => decide (z = x.width))) := by
            show _ = _
            rw [hrest.out, hr]; rfl
          have HR' : Hid (ys.drop (k + 1) = r) := hr'
          have z0 : (0 : Int) ≤ k := by omega
          have z1 : (k : Int) < (ys.length : Int) := by omega
          clear hr hl hr' hrest hcc
          go_wp2
          go_quiet (fail)
          go_wp2
          · go_ret
            exact ⟨ret_bool (by rw [HT2.out, HR.out]; grind), (HB.trans hgx).drewN _⟩
          · go_roundw
            case rel => exact ⟨k + 1, by omega, by go_num, hgx.drewN _, by (show _ = _; rw [HR.out, HR'.out]; grind)⟩
            case measure => simp [intOf]; omega
end Go.Proofs.YtiadpjhlomhjeaaGreat

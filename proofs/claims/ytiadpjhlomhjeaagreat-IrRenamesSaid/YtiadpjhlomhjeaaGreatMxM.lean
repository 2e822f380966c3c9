/- The law backstaylaw03.IrRenames. Printed by gen_mxl.py. -/
import Derived.Test.YtiadpjhlomhjeaaGreatZy
namespace Go.Proofs.YtiadpjhlomhjeaaGreat
set_option linter.unusedSimpArgs false
set_option linter.unusedVariables false
open Go.RowKit

/-- What the program's loop makes of the numbers back. -/
theorem back_all {tl : List Int} {n : Nat} (hp : Ref.permB tl = true) (hl : tl.length = n) : (∀ k, k < n → ∃ b : Nat, b < n ∧ tl[k]? = some (b : Int)) ∧ (∀ (i j b : Nat), tl[i]? = some (b : Int) → tl[j]? = some (b : Int) → i = j) := by
  obtain ⟨p1, p2⟩ := Ref.order_perm hp tl.length (Nat.le_refl _)
  have huniq : ∀ (i j b : Nat), tl[i]? = some (b : Int) → tl[j]? = some (b : Int) → i = j := by
    intro i j b h1 h2
    unfold Ref.permB at hp
    have hb : b < tl.length := by
      apply Classical.byContradiction
      intro hge
      have hc := @Ref.perm_count tl (by unfold Ref.permB; exact hp)
      have hs := Ref.sum_count_le tl tl.length
      have hone : ∀ m, m ≤ tl.length → ((List.range m).map fun b : Nat => tl.count ((b : Nat) : Int)).sum = m := by
        intro m hm
        induction m with
        | zero => rfl
        | succ m ih => rw [List.range_succ, List.map_append, List.sum_append, ih (by omega)]; simp [hc m (by omega)]
      have hs2 := Ref.sum_count_le tl (b + 1)
      have hsplit : ∀ m, tl.length ≤ m → m ≤ b → tl.length ≤ ((List.range m).map fun b : Nat => tl.count ((b : Nat) : Int)).sum := by
        intro m hm hmb
        induction m with
        | zero => omega
        | succ m ih =>
          rw [List.range_succ, List.map_append, List.sum_append]
          rcases (by omega : tl.length ≤ m ∨ tl.length = m + 1) with q | q
          · have := ih q (by omega); omega
          · have := hone (m + 1) (by omega)
            rw [List.range_succ, List.map_append, List.sum_append] at this
            omega
      have h3 := hsplit b (by omega) (Nat.le_refl _)
      rw [List.range_succ, List.map_append, List.sum_append] at hs2
      have h4 : 1 ≤ tl.count (b : Int) := List.one_le_count_iff.2 (List.mem_of_getElem? h1)
      simp at hs2
      omega
    have q1 := (p2 b i).2 ⟨hb, h1⟩
    have q2 := (p2 b j).2 ⟨hb, h2⟩
    rw [q1] at q2
    exact Option.some.inj q2
  refine ⟨fun k hk => ?_, huniq⟩
  have hm : k ∈ Ref.orderTo tl tl.length := by
    have hnd : (Ref.orderTo tl tl.length).Nodup := by
      rw [List.nodup_iff_pairwise_ne, List.pairwise_iff_getElem]
      intro i j hi hj hij e
      have q1 := ((p2 i _).1 (List.getElem?_eq_getElem hi)).2
      have q2 := ((p2 j _).1 (List.getElem?_eq_getElem hj)).2
      rw [e, q2] at q1
      have := Option.some.inj q1
      omega
    have hlt : ∀ b ∈ Ref.orderTo tl tl.length, b < tl.length := by
      intro c hc
      obtain ⟨b, hb⟩ := List.getElem?_of_mem hc
      exact (List.getElem?_eq_some_iff.1 ((p2 b c).1 hb).2).1
    apply Classical.byContradiction
    intro hnm
    have := Ref.sum_perm_le (fun i => if i = k then 0 else 1) tl.length _ hnd hlt
    have e1 : ((Ref.orderTo tl tl.length).map fun i => if i = k then 0 else 1).sum = (Ref.orderTo tl tl.length).length := by
      rw [← Ref.sum_one]
      congr 1
      refine List.map_congr_left fun i hi => ?_
      have hne : i ≠ k := fun e => hnm (by rw [← e]; exact hi)
      simp [hne]
    have e2 : ∀ m, k < m → ((List.range m).map fun i => if i = k then 0 else 1).sum + 1 ≤ m := by
      intro m
      induction m with
      | zero => intro h; omega
      | succ m ih =>
        intro hbn
        rw [List.range_succ, List.map_append, List.sum_append]
        rcases (by omega : k < m ∨ k = m) with q | q
        · have := ih q
          simp; split <;> omega
        · subst q
          have : ∀ j, j ≤ k → ((List.range j).map fun i => if i = k then 0 else 1).sum ≤ j := by
            intro j hj
            induction j with
            | zero => simp
            | succ j ihm =>
              rw [List.range_succ, List.map_append, List.sum_append]
              have := ihm (by omega)
              simp; split <;> omega
          have := this k (Nat.le_refl _)
          simp; omega
    have := e2 tl.length (by omega)
    omega
  obtain ⟨b, hb⟩ := List.getElem?_of_mem hm
  have := (p2 b k).1 hb
  exact ⟨b, by omega, this.2⟩
set_option maxRecDepth 100000 in
set_option maxHeartbeats 16000000 in
theorem lawRenames_any (v vt : Value) (f : Fn) (tl : List Int) (w : World) (hf : FnAt w.heap.size w v f) (ht : IntsAt w.heap.size w vt tl) (hn : longFn f = false → Nice f) :
    Calls Tryz.prog 4 #[v, vt] w fun e w' => e = .returned (.bool true) ∧ Gr w w' := by
  have HL : Hid (∀ w1, Gr w w1 → Calls Tryz.prog 5 #[v] w1 fun e w' => e = .returned (.bool (longFn f)) ∧ Gr w1 w') := fun w1 q => Long_any v f w1 (hf.gr q)
  have HKN : Hid (∀ w1, Calls Tryz.prog 6 #[] w1 fun e w' => e = .returned (.bool true) ∧ Gr w1 w') := known_any
  have hf0 := hf
  have ht0 := ht
  obtain ⟨At, ct, rfl, ht1, ht2, ht3⟩ := ht
  obtain ⟨vp, vs, vb, rfl, hp, hsl, hb⟩ := hf
  obtain ⟨Ap, cp, rfl, -, -, -⟩ := hp
  obtain ⟨As, cs, rfl, -, -, -⟩ := hsl
  obtain ⟨Ab, cb, rfl, -, -, -⟩ := hb
  obtain ⟨W, hW⟩ : ∃ W, w.alloc (.cells #[.slice Ap f.params.length cp, .int .i64 f.ret, .slice As f.slots.length cs, .slice Ab f.blocks.length cb] 25) = W := ⟨_, rfl⟩
  have hB0 : Gr w W := by rw [← hW]; exact (Gr.refl w).alloc _
  have HB0 := Lib.hid hB0
  have HR0 : Hid (W.heap[w.heap.size]? = some (.cells #[.slice Ap f.params.length cp, .int .i64 f.ret, .slice As f.slots.length cs, .slice Ab f.blocks.length cb] 25 (0, 0))) := by rw [← hW]; exact heap_alloc_new w _
  have KP : Hid (∀ w', Gr W w' → (w'.cell? ⟨w.heap.size, 0, none⟩ = some (.slice Ap f.params.length cp) ∧ w'.cell? ⟨w.heap.size, 1, none⟩ = some (.int .i64 f.ret) ∧ w'.cell? ⟨w.heap.size, 2, none⟩ = some (.slice As f.slots.length cs) ∧ w'.cell? ⟨w.heap.size, 3, none⟩ = some (.slice Ab f.blocks.length cb))) := fun w' q => box4 HR0.out q
  obtain ⟨k0, k1, k2, k3⟩ := KP.out W (Gr.refl _)
  by_cases hgo : longFn f = false ∧ tl.length ≤ 100
  · obtain ⟨hlg, hle⟩ := hgo
    rw [hlg] at HL
    have hnf := hn hlg
    have zz : ((tl.length : Nat) : Int) ≤ 100 := by omega
    obtain ⟨E, hE⟩ : ∃ E, Ref.renameE f tl = E := ⟨_, rfl⟩
    obtain ⟨F, hF⟩ : ∃ F, Ref.renameF f tl = F := ⟨_, rfl⟩
    have hEE : (E != E) = false := by simp
    by_cases hz : E = 0
    · subst hz
      obtain ⟨hv, hl, h00, hpm⟩ := Ref.renameE_ok hE
      obtain ⟨hvF, hbE, hbF⟩ := Ref.rename_law rcAll hE
      have sz := hv.size
      have e2 : F = Ref.moved f (Ref.orderTo tl tl.length) := by rw [← hF]; unfold Ref.renameF; rw [if_pos hE]
      obtain ⟨o1, o2, o3⟩ := Ref.order_ord hpm hl h00
      rw [hF] at hvF hbE hbF
      have hnF : Nice F := by
        rw [e2] at hvF ⊢
        exact nice_moved hnf hvF o1
      have hFS : F.blocks.length ≤ 17592186044416 := by have := hvF.size; omega
      obtain ⟨hba, hbu⟩ := back_all hpm rfl
      obtain ⟨hbl, hbi⟩ := Ref.backOf_at hpm
      obtain ⟨bt, ot, rfl, hbt, hct⟩ := ht3 (by omega)
      have HP : Hid (∀ w1, Gr w w1 → Calls Tryz.prog 11 #[.agg #[.slice Ap f.params.length cp, .int .i64 f.ret, .slice As f.slots.length cs, .slice Ab f.blocks.length cb], .slice (some ⟨bt, ot, none⟩) tl.length ct] w1 fun e w' => ∃ a1 a1c a2 a2c a3 a3c, e = .returned (.tuple #[.agg #[.slice a1 F.params.length a1c, .int .i64 F.ret, .slice a2 F.slots.length a2c, .slice a3 F.blocks.length a3c], .int .i64 0]) ∧ Hid (FnAt w'.heap.size w' (.agg #[.slice a1 F.params.length a1c, .int .i64 F.ret, .slice a2 F.slots.length a2c, .slice a3 F.blocks.length a3c]) F) ∧ Gr w1 w') := fun w1 q => by
        have := iRename_any _ _ f tl w1 (hf0.gr q) (ht0.gr q) hnf
        rw [hE, hF] at this
        exact this.mono fun e w' h => h.out hFS
      have HQ : Hid (∀ w1, Gr w w1 → Calls Tryz.prog 12 #[.agg #[.slice Ap f.params.length cp, .int .i64 f.ret, .slice As f.slots.length cs, .slice Ab f.blocks.length cb], .slice (some ⟨bt, ot, none⟩) tl.length ct] w1 fun e w' => ∃ a1 a1c a2 a2c a3 a3c, e = .returned (.tuple #[.agg #[.slice a1 F.params.length a1c, .int .i64 F.ret, .slice a2 F.slots.length a2c, .slice a3 F.blocks.length a3c], .int .i64 0]) ∧ Hid (FnAt w'.heap.size w' (.agg #[.slice a1 F.params.length a1c, .int .i64 F.ret, .slice a2 F.slots.length a2c, .slice a3 F.blocks.length a3c]) F) ∧ Gr w1 w') := fun w1 q => by
        have := rRename_any _ _ f tl w1 (hf0.gr q) (ht0.gr q) hnf
        rw [hE, hF] at this
        exact this.mono fun e w' h => h.out hFS
      have HSA : Hid (∀ w1 v1 v2, FnAt w1.heap.size w1 v1 F → FnAt w1.heap.size w1 v2 F → Calls Tryz.prog 9 #[v1, v2] w1 fun e w' => e = .returned (.bool true) ∧ Gr w1 w') := fun w1 v1 v2 h1 h2 => by
        have := rSame_any v1 v2 F F w1 h1 h2
        simpa using this
      have HSF : Hid (∀ w1 v1, Gr w w1 → FnAt w1.heap.size w1 v1 f → Calls Tryz.prog 9 #[v1, .agg #[.slice Ap f.params.length cp, .int .i64 f.ret, .slice As f.slots.length cs, .slice Ab f.blocks.length cb]] w1 fun e w' => e = .returned (.bool true) ∧ Gr w1 w') := fun w1 v1 q h1 => by
        have := rSame_any v1 _ f f w1 h1 (hf0.gr q)
        simpa using this
      have HP2 : Hid (∀ w1 v1 u, FnAt w1.heap.size w1 v1 F → IntsAt w1.heap.size w1 u (Ref.backOf tl) → Calls Tryz.prog 11 #[v1, u] w1 fun e w' => ∃ a1 a1c a2 a2c a3 a3c, e = .returned (.tuple #[.agg #[.slice a1 f.params.length a1c, .int .i64 f.ret, .slice a2 f.slots.length a2c, .slice a3 f.blocks.length a3c], .int .i64 0]) ∧ Hid (FnAt w'.heap.size w' (.agg #[.slice a1 f.params.length a1c, .int .i64 f.ret, .slice a2 f.slots.length a2c, .slice a3 f.blocks.length a3c]) f) ∧ Gr w1 w') := fun w1 v1 u h1 h2 => by
        have := iRename_any v1 u F (Ref.backOf tl) w1 h1 h2 hnF
        rw [hbE, hbF] at this
        exact this.mono fun e w' h => h.out (by omega)
      have HV : Hid (∀ w1 v1, FnAt w1.heap.size w1 v1 F → Calls Tryz.prog 10 #[v1] w1 fun e w' => e = .returned (.int .i64 0) ∧ Gr w1 w') := fun w1 v1 h1 => by
        have h2 : Ref.validate F = 0 := (Ref.val_iff F).2 hvF
        rw [← h2]; exact ival_nice v1 F w1 h1 hnF
      have HTC : Hid (∀ w', Gr w w' → ∀ (j : Nat) z, tl[j]? = some z → w'.cell? ⟨bt, ot + j, none⟩ = some (.int .i64 z)) := fun w' q j z hj => (q.cell bt (ot + j) hbt).trans (hct j z hj)
      have HBA : Hid (∀ k, k < tl.length → ∃ b : Nat, b < tl.length ∧ tl[k]? = some (b : Int)) := hba
      have HBU : Hid (∀ (i j b : Nat), tl[i]? = some (b : Int) → tl[j]? = some (b : Int) → i = j) := hbu
      have HBI : Hid ((Ref.backOf tl).length = tl.length ∧ ∀ b k : Nat, (Ref.backOf tl)[b]? = some (k : Int) ↔ b < tl.length ∧ tl[k]? = some (b : Int)) := ⟨hbl, hbi⟩
      have HPM := Lib.hid hpm
      have hto1 : 1 ≤ tl.length := by omega
      clear hE hF hv hvF hbE hbF sz e2 o1 o2 o3 hnF hn hnf hf0 ht0 hlg hB0 hFS hl h00 hpm hba hbu hbl hbi ht3 hct hle
      go_enter Tryz.func4, Tryz.ntmps4
      go_upto_block 0 with (first
        | (go_at_call 5; refine (HL.out _ HB0.out).mono ?_; rintro e w1 ⟨rfl, g1⟩; have HG1 := Lib.hid g1; clear g1 k0 k1 k2 k3; obtain ⟨k0, k1, k2, k3⟩ := KP.out _ HG1.out)
        | (go_at_call 11; refine (HP.out _ (HB0.out.trans HG1.out)).mono ?_; rintro e w2 ⟨a1, a1c, a2, a2c, a3, a3c, rfl, HFA, g2⟩; have HG2 := Lib.hid (HG1.out.trans g2); obtain ⟨V2, hV2⟩ : ∃ V, w2.alloc (.cells #[.slice a1 F.params.length a1c, .int .i64 F.ret, .slice a2 F.slots.length a2c, .slice a3 F.blocks.length a3c] 25) = V := ⟨_, rfl⟩; have HX2 : Hid (V2.heap[w2.heap.size]? = some (.cells #[.slice a1 F.params.length a1c, .int .i64 F.ret, .slice a2 F.slots.length a2c, .slice a3 F.blocks.length a3c] 25 (0, 0)) ∧ Gr w2 V2) := (by rw [← hV2]; exact Lib.hid ⟨heap_alloc_new _ _, (Gr.refl _).alloc _⟩); clear g2 k0 k1 k2 k3; obtain ⟨k0, k1, k2, k3⟩ := KP.out _ (HG2.out.trans HX2.out.2))
        | (go_at_call 12; refine (HQ.out _ (HB0.out.trans (HG2.out.trans HX2.out.2))).mono ?_; rintro e w3 ⟨b1, b1c, b2, b2c, b3, b3c, rfl, HFB, g3⟩; have HG3 : Hid (Gr V2 w3) := g3; obtain ⟨V3, hV3⟩ : ∃ V, w3.alloc (.cells #[.slice b1 F.params.length b1c, .int .i64 F.ret, .slice b2 F.slots.length b2c, .slice b3 F.blocks.length b3c] 25) = V := ⟨_, rfl⟩; have HX3 : Hid (V3.heap[w3.heap.size]? = some (.cells #[.slice b1 F.params.length b1c, .int .i64 F.ret, .slice b2 F.slots.length b2c, .slice b3 F.blocks.length b3c] 25 (0, 0)) ∧ Gr w3 V3) := (by rw [← hV3]; exact Lib.hid ⟨heap_alloc_new _ _, (Gr.refl _).alloc _⟩); clear g3 k0 k1 k2 k3; obtain ⟨k0, k1, k2, k3⟩ := box4 HX2.out.1 (HG3.out.trans HX3.out.2); obtain ⟨m0, m1, m2, m3⟩ := box4 HX3.out.1 (Gr.refl _))
        | (go_at_call 9; refine (HSA.out _ _ _ (HFA.out.gr (HX2.out.2.trans (HG3.out.trans HX3.out.2))) (HFB.out.gr HX3.out.2)).mono ?_; rintro e w4 ⟨rfl, g4⟩; have HG4 : Hid (Gr V2 w4) := HG3.out.trans (HX3.out.2.trans g4); clear g4 k0 k1 k2 k3 m0 m1 m2 m3)
        | (at_make; refine make_ints rfl _ _ rfl w.heap.size tl.length rfl rfl (by omega) (HB0.out.trans (HG2.out.trans (HX2.out.2.trans HG4.out))).size ?_; intro w5 hrow5 hg5; have HR5 := Lib.hid hrow5; have HG5 := Lib.hid hg5; clear hrow5 hg5))
      have HW4 : Hid (Gr w w4) := HB0.out.trans (HG2.out.trans (HX2.out.2.trans HG4.out))
      clear hV2 hV3
      obtain ⟨hb, hhb⟩ : ∃ hb, w4.heap.size = hb := ⟨_, rfl⟩
      have HHB := Lib.hid hhb
      rw [hhb] at HR5 ⊢
      clear hhb
      go_wp2_with (fail)
      go_loopw [10] (fun i wr => ∃ (k : Nat) (ns : List Int), k ≤ tl.length ∧ i = .int .i64 k ∧ Hid (NRow w.heap.size hb tl.length wr ns) ∧ Hid (∀ i b : Nat, i < k → tl[i]? = some (b : Int) → ns[b]? = some (i : Int)) ∧ Hid (Gr w4 wr)) (fun i _ => tl.length - (intOf i).toNat)
      case atStart => exact ⟨0, _, Nat.zero_le _, rfl, HR5, Lib.hid fun i b h => by omega, HG5⟩
      case round =>
        obtain ⟨k, ns, hk, rfl, HR, HT, HG⟩ := hrel
        by_cases hlt : k < tl.length
        · obtain ⟨b, hb1, hkb⟩ := HBA.out k hlt
          have hln := HR.out.len
          obtain ⟨z, hz⟩ : ∃ z, ns[b]? = some z := ⟨_, List.getElem?_eq_getElem (by omega)⟩
          have q0 := HR.out.cell b z hz
          have q1 := HR.out.frozen b
          have l1 := HTC.out _ (HW4.out.trans HG.out) k b hkb
          have HT2 : Hid (∀ i c : Nat, i < k + 1 → tl[i]? = some (c : Int) → (ns.set b (k : Int))[c]? = some (i : Int)) := fun i c hi hic => by
            rcases (by omega : i < k ∨ i = k) with q | q
            · have hne : b ≠ c := fun e => by
                have := HBU.out i k b (by rw [e]; exact hic) hkb
                omega
              rw [List.getElem?_set_ne hne]; exact HT.out i c q hic
            · subst q
              rw [hkb] at hic
              have e : b = c := by injection hic with h; omega
              rw [← e, List.getElem?_set_self (by omega)]
          have z0 : (0 : Int) ≤ (k : Int) := by omega
          have z1 : (k : Int) < (tl.length : Int) := by omega
          have z2 : (0 : Int) ≤ (b : Int) := by omega
          have z3 : (b : Int) < (tl.length : Int) := by omega
          have HR6 := Lib.hid (HR.out.set_ b (k : Int))
          have HG6 : Hid (Gr w4 (wr.setCell ⟨hb, b, none⟩ (.int .i64 (k : Int)))) := HG.out.setCell (by rw [HHB.out]; exact Nat.le_refl _) _
          clear hln hz hkb hlt
          go_wp2_with (fail)
          go_roundw
          case rel => exact ⟨k + 1, _, by omega, by go_num, HR6, HT2, HG6⟩
          case measure => simp [intOf] <;> omega
        · obtain rfl : k = tl.length := by omega
          have HNS : Hid (ns = Ref.backOf tl) := by
            refine List.ext_getElem? fun b => ?_
            rcases Nat.lt_or_ge b tl.length with q | q
            · obtain ⟨p1, p2⟩ := Ref.order_perm HPM.out tl.length (Nat.le_refl _)
              obtain ⟨i, hi⟩ : ∃ i, (Ref.orderTo tl tl.length)[b]? = some i := ⟨_, List.getElem?_eq_getElem (by omega)⟩
              have h1 := ((p2 b i).1 hi).2
              rw [HT.out i b (List.getElem?_eq_some_iff.1 h1).1 h1, (HBI.out.2 b i).2 ⟨q, h1⟩]
            · rw [List.getElem?_eq_none (by rw [HR.out.len]; exact q), List.getElem?_eq_none (by rw [HBI.out.1]; exact q)]
          have HNI : Hid (IntsAt wr.heap.size wr (.slice (some ⟨hb, 0, none⟩) tl.length tl.length) (Ref.backOf tl)) := by
            rw [← HNS.out]
            exact (HR.out.ti (by omega)).ints
          have HV2W : Hid (Gr V2 wr) := HG4.out.trans HG.out
          obtain ⟨k0, k1, k2, k3⟩ := box4 HX2.out.1 HV2W.out
          go_wp2_with (first
            | (go_at_call 11; refine (HP2.out _ _ _ (HFA.out.gr (HX2.out.2.trans HV2W.out)) HNI.out).mono ?_; rintro e w6 ⟨d1, d1c, d2, d2c, d3, d3c, rfl, HFD, g6⟩; have HG6 : Hid (Gr V2 w6) := HV2W.out.trans g6; obtain ⟨V6, hV6⟩ : ∃ V, w6.alloc (.cells #[.slice d1 f.params.length d1c, .int .i64 f.ret, .slice d2 f.slots.length d2c, .slice d3 f.blocks.length d3c] 25) = V := ⟨_, rfl⟩; have HX6 : Hid (V6.heap[w6.heap.size]? = some (.cells #[.slice d1 f.params.length d1c, .int .i64 f.ret, .slice d2 f.slots.length d2c, .slice d3 f.blocks.length d3c] 25 (0, 0)) ∧ Gr w6 V6) := (by rw [← hV6]; exact Lib.hid ⟨heap_alloc_new _ _, (Gr.refl _).alloc _⟩); clear g6 k0 k1 k2 k3; obtain ⟨k0, k1, k2, k3⟩ := box4 HX2.out.1 (HG6.out.trans HX6.out.2))
            | (go_at_call 10; refine (HV.out _ _ (HFA.out.gr (HX2.out.2.trans (HG6.out.trans HX6.out.2)))).mono ?_; rintro e w7 ⟨rfl, g7⟩; have HG7 : Hid (Gr V6 w7) := g7; clear g7 k0 k1 k2 k3; obtain ⟨m0, m1, m2, m3⟩ := box4 HX6.out.1 HG7.out; obtain ⟨k0, k1, k2, k3⟩ := KP.out _ (HG2.out.trans (HX2.out.2.trans (HG6.out.trans (HX6.out.2.trans HG7.out)))))
            | (go_at_call 9; refine (HSF.out _ _ (HB0.out.trans (HG2.out.trans (HX2.out.2.trans (HG6.out.trans (HX6.out.2.trans HG7.out))))) (HFD.out.gr (HX6.out.2.trans HG7.out))).mono ?_; rintro e w9 ⟨rfl, g9⟩; have HG9 := Lib.hid g9; clear g9)
            | (go_at_call 6; refine (HKN.out _).mono ?_; rintro e w8 ⟨rfl, g8⟩; have HG8 := Lib.hid g8; clear g8))
          go_ret
          exact ⟨rfl, HB0.out.trans (HG2.out.trans (HX2.out.2.trans (HG6.out.trans (HX6.out.2.trans (HG7.out.trans (HG9.out.trans HG8.out))))))⟩
    · have hE1 : (E != 0) = true := by simpa using hz
      have hE2 : (E == 0) = false := by simpa using hz
      have hFS : F.blocks.length ≤ 17592186044416 := by
        rw [← hF]
        unfold Ref.renameF
        rw [if_neg (by rw [hE]; exact hz)]
        simp [Ref.noFn]
      have HP : Hid (∀ w1, Gr w w1 → Calls Tryz.prog 11 #[.agg #[.slice Ap f.params.length cp, .int .i64 f.ret, .slice As f.slots.length cs, .slice Ab f.blocks.length cb], .slice At tl.length ct] w1 fun e w' => ∃ a1 a1c a2 a2c a3 a3c, e = .returned (.tuple #[.agg #[.slice a1 F.params.length a1c, .int .i64 F.ret, .slice a2 F.slots.length a2c, .slice a3 F.blocks.length a3c], .int .i64 E]) ∧ Hid (FnAt w'.heap.size w' (.agg #[.slice a1 F.params.length a1c, .int .i64 F.ret, .slice a2 F.slots.length a2c, .slice a3 F.blocks.length a3c]) F) ∧ Gr w1 w') := fun w1 q => by
        have := iRename_any _ _ f tl w1 (hf0.gr q) (ht0.gr q) hnf
        rw [hE, hF] at this
        exact this.mono fun e w' h => h.out hFS
      have HQ : Hid (∀ w1, Gr w w1 → Calls Tryz.prog 12 #[.agg #[.slice Ap f.params.length cp, .int .i64 f.ret, .slice As f.slots.length cs, .slice Ab f.blocks.length cb], .slice At tl.length ct] w1 fun e w' => ∃ a1 a1c a2 a2c a3 a3c, e = .returned (.tuple #[.agg #[.slice a1 F.params.length a1c, .int .i64 F.ret, .slice a2 F.slots.length a2c, .slice a3 F.blocks.length a3c], .int .i64 E]) ∧ Hid (FnAt w'.heap.size w' (.agg #[.slice a1 F.params.length a1c, .int .i64 F.ret, .slice a2 F.slots.length a2c, .slice a3 F.blocks.length a3c]) F) ∧ Gr w1 w') := fun w1 q => by
        have := rRename_any _ _ f tl w1 (hf0.gr q) (ht0.gr q) hnf
        rw [hE, hF] at this
        exact this.mono fun e w' h => h.out hFS
      have HSA : Hid (∀ w1 v1 v2, FnAt w1.heap.size w1 v1 F → FnAt w1.heap.size w1 v2 F → Calls Tryz.prog 9 #[v1, v2] w1 fun e w' => e = .returned (.bool true) ∧ Gr w1 w') := fun w1 v1 v2 h1 h2 => by
        have := rSame_any v1 v2 F F w1 h1 h2
        simpa using this
      clear hE hF hn hnf hf0 ht0 hlg hB0 hFS hz ht3 hle
      go_enter Tryz.func4, Tryz.ntmps4
      go_wp2_with (first
        | (go_at_call 5; refine (HL.out _ HB0.out).mono ?_; rintro e w1 ⟨rfl, g1⟩; have HG1 := Lib.hid g1; clear g1 k0 k1 k2 k3; obtain ⟨k0, k1, k2, k3⟩ := KP.out _ HG1.out)
        | (go_at_call 11; refine (HP.out _ (HB0.out.trans HG1.out)).mono ?_; rintro e w2 ⟨a1, a1c, a2, a2c, a3, a3c, rfl, HFA, g2⟩; have HG2 := Lib.hid (HG1.out.trans g2); obtain ⟨V2, hV2⟩ : ∃ V, w2.alloc (.cells #[.slice a1 F.params.length a1c, .int .i64 F.ret, .slice a2 F.slots.length a2c, .slice a3 F.blocks.length a3c] 25) = V := ⟨_, rfl⟩; have HX2 : Hid (V2.heap[w2.heap.size]? = some (.cells #[.slice a1 F.params.length a1c, .int .i64 F.ret, .slice a2 F.slots.length a2c, .slice a3 F.blocks.length a3c] 25 (0, 0)) ∧ Gr w2 V2) := (by rw [← hV2]; exact Lib.hid ⟨heap_alloc_new _ _, (Gr.refl _).alloc _⟩); clear g2 k0 k1 k2 k3; obtain ⟨k0, k1, k2, k3⟩ := KP.out _ (HG2.out.trans HX2.out.2))
        | (go_at_call 12; refine (HQ.out _ (HB0.out.trans (HG2.out.trans HX2.out.2))).mono ?_; rintro e w3 ⟨b1, b1c, b2, b2c, b3, b3c, rfl, HFB, g3⟩; have HG3 : Hid (Gr V2 w3) := g3; obtain ⟨V3, hV3⟩ : ∃ V, w3.alloc (.cells #[.slice b1 F.params.length b1c, .int .i64 F.ret, .slice b2 F.slots.length b2c, .slice b3 F.blocks.length b3c] 25) = V := ⟨_, rfl⟩; have HX3 : Hid (V3.heap[w3.heap.size]? = some (.cells #[.slice b1 F.params.length b1c, .int .i64 F.ret, .slice b2 F.slots.length b2c, .slice b3 F.blocks.length b3c] 25 (0, 0)) ∧ Gr w3 V3) := (by rw [← hV3]; exact Lib.hid ⟨heap_alloc_new _ _, (Gr.refl _).alloc _⟩); clear g3 k0 k1 k2 k3; obtain ⟨k0, k1, k2, k3⟩ := box4 HX2.out.1 (HG3.out.trans HX3.out.2); obtain ⟨m0, m1, m2, m3⟩ := box4 HX3.out.1 (Gr.refl _))
        | (go_at_call 9; refine (HSA.out _ _ _ (HFA.out.gr (HX2.out.2.trans (HG3.out.trans HX3.out.2))) (HFB.out.gr HX3.out.2)).mono ?_; rintro e w4 ⟨rfl, g4⟩; have HG4 : Hid (Gr V2 w4) := HG3.out.trans (HX3.out.2.trans g4); clear g4 k0 k1 k2 k3 m0 m1 m2 m3)
        | (go_at_call 6; refine (HKN.out _).mono ?_; rintro e w8 ⟨rfl, g8⟩; have HG8 := Lib.hid g8; clear g8))
      go_ret
      exact ⟨rfl, HB0.out.trans (HG2.out.trans (HX2.out.2.trans (HG4.out.trans HG8.out)))⟩
  · cases hlg : longFn f with
    | true =>
      rw [hlg] at HL
      clear hlg hn hf0 ht0 hB0 hgo ht3
      go_enter Tryz.func4, Tryz.ntmps4
      go_wp2_with (first
        | (go_at_call 5; refine (HL.out _ HB0.out).mono ?_; rintro e w1 ⟨rfl, g1⟩; have HG1 := Lib.hid g1; clear g1 k0 k1 k2 k3; obtain ⟨k0, k1, k2, k3⟩ := KP.out _ HG1.out)
        | (go_at_call 6; refine (HKN.out _).mono ?_; rintro e w8 ⟨rfl, g8⟩; have HG8 := Lib.hid g8; clear g8))
      go_ret
      exact ⟨rfl, HB0.out.trans (HG1.out.trans HG8.out)⟩
    | false =>
      rw [hlg] at HL
      have zz : (100 : Int) < ((tl.length : Nat) : Int) := by
        have : ¬ tl.length ≤ 100 := fun h => hgo ⟨hlg, h⟩
        omega
      clear hlg hn hf0 ht0 hB0 hgo ht3
      go_enter Tryz.func4, Tryz.ntmps4
      go_wp2_with (first
        | (go_at_call 5; refine (HL.out _ HB0.out).mono ?_; rintro e w1 ⟨rfl, g1⟩; have HG1 := Lib.hid g1; clear g1 k0 k1 k2 k3; obtain ⟨k0, k1, k2, k3⟩ := KP.out _ HG1.out)
        | (go_at_call 6; refine (HKN.out _).mono ?_; rintro e w8 ⟨rfl, g8⟩; have HG8 := Lib.hid g8; clear g8))
      go_ret
      exact ⟨rfl, HB0.out.trans (HG1.out.trans HG8.out)⟩
end Go.Proofs.YtiadpjhlomhjeaaGreat

import Derived.Test.YtiadpjhlomhjeaaGreatRefJ
namespace Go.Proofs.YtiadpjhlomhjeaaGreat
open Go.RowKit

def prevB (l : List Ins) (j : Nat) : Bool := decide (j = 0) || decide ((l[j - 1]?.map (·.op)).getD 0 = 28)
theorem prevB_succ (l : List Ins) (j : Nat) (x : Ins) (h : l[j]? = some x) : prevB l (j + 1) = decide (x.op = 28) := by simp [prevB, h]

set_option maxRecDepth 100000 in
set_option maxHeartbeats 8000000 in
theorem rules_any (v : Value) (f : Fn) (w : World) (hf : FnAt w.heap.size w v f) (hs1 : 1 ≤ f.blocks.length) (hs : f.blocks.length ≤ 100000)
    (hwf : Hid (∀ l ∈ f.blocks, l.length ≤ 100000)) :
    Calls Tryz.prog 40 #[v] w fun e w' => e = .returned (.bool (Ref.rules f)) ∧ Gr w w' := by
  have hf0 := hf
  obtain ⟨vp, vs, vb, rfl, hp, hsl, hb⟩ := hf
  obtain ⟨Ap, cp, rfl, -, -, -⟩ := hp
  obtain ⟨As, cs, rfl, -, -, -⟩ := hsl
  obtain ⟨Ab, cb, rfl, -, hb2, hb3⟩ := hb
  obtain ⟨bb, ob, rfl, hbb, hcells⟩ := hb3 (by omega)
  obtain ⟨W, hW⟩ : ∃ W, w.alloc (.cells #[.slice Ap f.params.length cp, .int .i64 f.ret, .slice As f.slots.length cs, .slice (some ⟨bb, ob, none⟩) f.blocks.length cb] 25) = W := ⟨_, rfl⟩
  have hB0 : Gr w W := by rw [← hW]; exact (Gr.refl w).alloc _
  have hWs : W.heap.size = w.heap.size + 1 := by rw [← hW]; simp
  have b0 : ∀ o, W.cell? ⟨w.heap.size, o, none⟩ = (#[.slice Ap f.params.length cp, .int .i64 f.ret, .slice As f.slots.length cs, .slice (some ⟨bb, ob, none⟩) f.blocks.length cb] : Array Value)[o]? := by
    intro o; rw [← hW]; exact cell_of_row _ _ _ _ _ _ (heap_alloc_new w _)
  have B0 : Hid (∀ w', Gr W w' → w'.cell? ⟨w.heap.size, 0, none⟩ = some (.slice Ap f.params.length cp) ∧ w'.cell? ⟨w.heap.size, 1, none⟩ = some (.int .i64 f.ret) ∧ w'.cell? ⟨w.heap.size, 2, none⟩ = some (.slice As f.slots.length cs) ∧ w'.cell? ⟨w.heap.size, 3, none⟩ = some (.slice (some ⟨bb, ob, none⟩) f.blocks.length cb)) :=
    fun w' g => ⟨(g.cell w.heap.size 0 (by omega)).trans (b0 0), (g.cell w.heap.size 1 (by omega)).trans (b0 1), (g.cell w.heap.size 2 (by omega)).trans (b0 2), (g.cell w.heap.size 3 (by omega)).trans (b0 3)⟩
  obtain ⟨g, hgd⟩ : ∃ g, g = Ref.graph f := ⟨_, rfl⟩
  have hgl : g.length = f.blocks.length := by rw [hgd]; simp [Ref.graph]
  have HS : Hid (Ref.rules f = (f.blocks.all Ref.laid && (Ref.before g 0).isEmpty && Ref.phisFrom g f.blocks 0)) := by show _ = _; rw [hgd]; rfl
  have HCg : Hid ((∀ l ∈ f.blocks, l ≠ []) → ∀ w1, Gr w w1 → Calls Tryz.prog 44 #[.agg #[.slice Ap f.params.length cp, .int .i64 f.ret, .slice As f.slots.length cs, .slice (some ⟨bb, ob, none⟩) f.blocks.length cb]] w1 fun e w' => ∃ u, e = .returned u ∧ TabAt w'.heap.size w' u g ∧ Gr w1 w') := by
    rw [hgd]; exact fun hne w1 g1 => rgraph_any _ f w1 (hf0.gr g1) hs hne
  have HCb : Hid (∀ w1 u (z : Int), TabAt w1.heap.size w1 u g → Calls Tryz.prog 74 #[u, .int .i64 z] w1 fun e w' => ∃ v, e = .returned v ∧ IntsAt w'.heap.size w' v (Ref.before g z) ∧ Gr w1 w') :=
    fun w1 u z h => before_any u g z w1 h (by omega)
  have HGL := Lib.hid hgl
  have HC := Lib.hid hcells
  obtain ⟨-, -, -, k3⟩ := B0.out W (Gr.refl _)
  clear hgd hgl b0 hcells hb3 hf0
  go_enter Tryz.func40, Tryz.ntmps40
  go_wp2_with fail
  go_loopw [3, 4, 5] (fun b _ _ wr => ∃ k : Nat, k ≤ f.blocks.length ∧ b = .int .i64 k ∧ Gr W wr ∧ Hid (f.blocks.all Ref.laid = (f.blocks.drop k).all Ref.laid) ∧ Hid (∀ l ∈ f.blocks.take k, l ≠ [])) (fun b _ _ _ => f.blocks.length - (intOf b).toNat)
  case atStart => exact ⟨0, Nat.zero_le _, rfl, Gr.refl _, rfl, fun l hl => by simp at hl⟩
  case round =>
    obtain ⟨k, hk, rfl, hgr, hrest, hnone⟩ := hrel
    obtain ⟨wo, rfl⟩ : ∃ wo : World, wo = wr := ⟨_, rfl⟩
    obtain ⟨c0, c1, c2, c3⟩ := B0.out _ hgr
    clear k3
    rcases hr : f.blocks.drop k with _ | ⟨l, r⟩
    · have hkn := drop_nil hr hk
      have HE : Hid (f.blocks.all Ref.laid = true) := by show _ = _; rw [hrest.out, hr]; rfl
      subst hkn
      have hne : ∀ l ∈ f.blocks, l ≠ [] := by have := hnone.out; rwa [List.take_length] at this
      have HCg' := Lib.hid (HCg.out hne)
      clear hr hrest hnone hne
      by_cases hpos : 0 < (Ref.before g 0).length
      · have hpos' : (0 : Int) < ((Ref.before g 0).length : Int) := by omega
        go_wp2_with (first
        | (go_at_call 44; refine (HCg'.out _ (hB0.trans hgr)).mono ?_; rintro e w1 ⟨vg, rfl, htab, g1⟩)
        | (go_at_call 74; refine (HCb.out _ _ _ htab).mono ?_; rintro e w2 ⟨vb, rfl, hvb, g2⟩; obtain ⟨A2, c2', rfl, -, hb2', -⟩ := hvb))
        go_ret
        exact ⟨ret_bool (by rw [HS.out]; cases hbe : Ref.before g 0 with | nil => (rw [hbe] at hpos; simp at hpos) | cons a b => simp), (hB0.trans hgr).trans (g1.trans g2)⟩
      · have hle : ((Ref.before g 0).length : Int) ≤ 0 := by omega
        have HLE := Lib.hid hle
        go_wp2_with (first
        | (go_at_call 44; refine (HCg'.out _ (hB0.trans hgr)).mono ?_; rintro e w1 ⟨vg, rfl, htab, g1⟩)
        | (go_at_call 74; refine (HCb.out _ _ _ htab).mono ?_; rintro e w2 ⟨vb, rfl, hvb, g2⟩; obtain ⟨A2, c2', rfl, -, hb2', -⟩ := hvb))
        have HP : Hid (Ref.rules f = Ref.phisFrom g f.blocks 0) := by
          show _ = _
          have : Ref.before g 0 = [] := List.eq_nil_of_length_eq_zero (by have := HLE.out; omega)
          rw [HS.out, HE.out, this]; simp
        have HTab : Hid (TabAt w2.heap.size w2 vg g) := htab.gr g2
        have hW2 : Gr W w2 := hgr.trans (g1.trans g2)
        obtain ⟨-, -, -, d3⟩ := B0.out _ hW2
        clear htab c0 c1 c2 c3
        go_loopw [7, 8, 9] (fun b _ _ wr => ∃ k : Nat, k ≤ f.blocks.length ∧ b = .int .i64 k ∧ Gr w2 wr ∧ Hid (Ref.rules f = Ref.phisFrom g (f.blocks.drop k) k)) (fun b _ _ _ => f.blocks.length - (intOf b).toNat)
        case atStart => exact ⟨0, Nat.zero_le _, rfl, Gr.refl _, HP⟩
        case round =>
          obtain ⟨k, hk, rfl, hgr2, hrest⟩ := hrel
          obtain ⟨wp, rfl⟩ : ∃ wp : World, wp = wr := ⟨_, rfl⟩
          obtain ⟨-, -, -, d31⟩ := B0.out _ (hW2.trans hgr2)
          clear d3
          rcases hr : f.blocks.drop k with _ | ⟨l, r⟩
          · have hkn := drop_nil hr hk
            have HE2 : Hid (Ref.rules f = true) := by show _ = _; rw [hrest.out, hr]; rfl
            subst hkn
            clear hr hrest
            go_wp2
            go_ret
            exact ⟨ret_bool (by rw [HE2.out]), hB0.trans (hW2.trans hgr2)⟩
          · obtain ⟨hlt, hl, hr'⟩ := drop_cons hr
            obtain ⟨u, hu, hul⟩ := HC.out k l hl
            have hu' := ((hB0.trans (hW2.trans hgr2)).cell _ _ hbb).trans hu
            obtain ⟨Al, cl, rfl, p1, p2, p3⟩ := hul
            have P3 := Lib.hid p3
            have HU := Lib.hid hu
            have HL : Hid (l ∈ f.blocks) := List.mem_of_getElem? hl
            have HR : Hid (Ref.rules f = (l.all (fun x => decide (x.op ≠ 28) || Ref.sameInts x.to (Ref.before g k)) && Ref.phisFrom g r (k + 1))) := by show _ = _; rw [hrest.out, hr]; rfl
            have HR' : Hid (f.blocks.drop (k + 1) = r) := hr'
            clear hr hl hr' hrest hu p3
            go_wp2
            go_loopw [8, 9] (fun i _ wr => ∃ j : Nat, j ≤ l.length ∧ i = .int .i64 j ∧ Gr w2 wr ∧ Hid (l.all (fun x => decide (x.op ≠ 28) || Ref.sameInts x.to (Ref.before g k)) = (l.drop j).all (fun x => decide (x.op ≠ 28) || Ref.sameInts x.to (Ref.before g k)))) (fun i _ _ => l.length - (intOf i).toNat)
            case atStart => exact ⟨0, Nat.zero_le _, rfl, hgr2, rfl⟩
            case round =>
              obtain ⟨j, hj, rfl, hgr3, hrest1⟩ := hrel
              obtain ⟨wx, rfl⟩ : ∃ wx : World, wx = wr := ⟨_, rfl⟩
              obtain ⟨-, -, -, d32⟩ := B0.out _ (hW2.trans hgr3)
              have hu1 := ((hB0.trans (hW2.trans hgr3)).cell _ _ hbb).trans HU.out
              clear d31 hu'
              rcases hr1 : l.drop j with _ | ⟨x, r1⟩
              · have hjn := drop_nil hr1 hj
                have HE3 : Hid (l.all (fun x => decide (x.op ≠ 28) || Ref.sameInts x.to (Ref.before g k)) = true) := by show _ = _; rw [hrest1.out, hr1]; rfl
                subst hjn
                clear hr1 hrest1
                go_wp2
                go_roundw
                case rel => first | exact ⟨k + 1, by omega, by go_num, hgr3, by (show _ = _; rw [HR.out, HR'.out, HE3.out]; simp)⟩ | ((repeat apply Exists.intro); refine ⟨?_, rfl⟩; exact ⟨k + 1, by omega, by go_num, hgr3, by (show _ = _; rw [HR.out, HR'.out, HE3.out]; simp)⟩)
                case measure => simp [intOf]; omega
              · obtain ⟨hlt1, hx, hr1'⟩ := drop_cons hr1
                obtain ⟨bl, ol, rfl, hbl, hcl⟩ := P3.out (by omega)
                obtain ⟨va, vt, i0, i1, i2, i3, i4, i5, hva, hvt⟩ := hcl j x hx
                have HR1 : Hid (l.all (fun x => decide (x.op ≠ 28) || Ref.sameInts x.to (Ref.before g k)) = ((decide (x.op ≠ 28) || Ref.sameInts x.to (Ref.before g k)) && r1.all (fun x => decide (x.op ≠ 28) || Ref.sameInts x.to (Ref.before g k)))) := by show _ = _; rw [hrest1.out, hr1]; rfl
                have HR1' : Hid (l.drop (j + 1) = r1) := hr1'
                have gw := hB0.trans (hW2.trans hgr3)
                have j0 := (gw.cell _ _ hbl).trans i0
                have j1 := (gw.cell _ _ hbl).trans i1
                have j2 := (gw.cell _ _ hbl).trans i2
                have j3 := (gw.cell _ _ hbl).trans i3
                have j4 := (gw.cell _ _ hbl).trans i4
                have j5 := (gw.cell _ _ hbl).trans i5
                have HT : Hid (∀ w', Gr w w' → IntsAt w'.heap.size w' vt x.to) := fun w' q => hvt.gr q
                obtain ⟨Aa, ca, rfl, -, -, -⟩ := hva
                obtain ⟨At, ct, rfl, -, -, -⟩ := hvt
                clear hr1 hx hr1' hrest1 hcl i0 i1 i2 i3 i4 i5
                obtain ⟨wy, hwy⟩ : ∃ wy, wx.alloc (.cells #[.int .i64 x.op, .int .i64 x.width, .int .i64 x.flags, .slice Aa x.args.length ca, .int .u32 x.imm, .slice At x.to.length ct] 38) = wy := ⟨_, rfl⟩
                have b1 : ∀ o, wy.cell? ⟨wx.heap.size, o, none⟩ = (#[.int .i64 x.op, .int .i64 x.width, .int .i64 x.flags, .slice Aa x.args.length ca, .int .u32 x.imm, .slice At x.to.length ct] : Array Value)[o]? := by
                  intro o; rw [← hwy]; exact cell_of_row _ _ _ _ _ _ (heap_alloc_new wx _)
                have hgy : Gr w2 wy := by rw [← hwy]; exact hgr3.alloc _
                have hys : wy.heap.size = wx.heap.size + 1 := by rw [← hwy]; simp
                have kp : Hid (∀ w', Gr wy w' → w'.cell? ⟨wx.heap.size, 0, none⟩ = some (.int .i64 x.op) ∧ w'.cell? ⟨wx.heap.size, 5, none⟩ = some (.slice At x.to.length ct)) := fun w' q => ⟨(q.cell wx.heap.size 0 (by omega)).trans (b1 0), (q.cell wx.heap.size 5 (by omega)).trans (b1 5)⟩
                obtain ⟨e0, e5⟩ := kp.out wy (Gr.refl _)
                clear b1
                rcases Decidable.em (x.op = 28) with ho | ho
                · have n28 : (x.op == 28) = true := by simp [ho]
                  have HO := Lib.hid ho
                  obtain ⟨sm, hsm⟩ : ∃ sm, decide (x.to = Ref.before g k) = sm := ⟨_, rfl⟩
                  have HSM : Hid (Ref.sameInts x.to (Ref.before g k) = sm) := by show _ = _; rw [Ref.sameInts_eq, hsm]
                  have HCS : Hid (∀ w1 v1, Gr w w1 → IntsAt w1.heap.size w1 v1 (Ref.before g k) → Calls Tryz.prog 21 #[.slice At x.to.length ct, v1] w1 fun e w' => e = .returned (.bool sm) ∧ Gr w1 w') := by
                    rw [← hsm]; exact fun w1 v1 q h => SameInts_any _ _ _ _ w1 (HT.out w1 q) h
                  clear ho hsm
                  go_wp2
                  go_region_held3 (fun w' => w'.cell? ⟨wx.heap.size, 0, none⟩ = some (.int .i64 x.op) ∧ w'.cell? ⟨wx.heap.size, 5, none⟩ = some (.slice At x.to.length ct)) (first | exact kp.out _ (Gr.refl wy).drew | exact kp.out _ g3 | exact kp.out _ g4) (first | (go_at_call 74; refine (HCb.out _ _ _ (HTab.out.gr hgy.drew)).mono ?_; rintro e w3 ⟨vb2, rfl, hvb2, g30⟩; have g3 : Gr wy w3 := ((Gr.refl wy).drew).trans g30) | (go_at_call 21; refine (HCS.out _ _ (hB0.trans (hW2.trans (hgy.trans g3))) hvb2).mono ?_; rintro e w4 ⟨rfl, g40⟩; have g4 : Gr wy w4 := g3.trans g40))
                  cases sm with
                  | true =>
                    go_wp2
                    go_roundw
                    case rel => exact ⟨j + 1, by omega, by go_num, hgy.trans g4, by (show _ = _; rw [HR1.out, HSM.out, HR1'.out]; simp)⟩
                    case measure => simp [intOf]; omega
                  | false =>
                    go_wp2
                    go_ret
                    exact ⟨ret_bool (by rw [HR.out, HR1.out, HSM.out, HO.out]; simp), hB0.trans (hW2.trans (hgy.trans g4))⟩
                · have n28 : (x.op == 28) = false := by simp [ho]
                  have HO := Lib.hid ho
                  clear ho
                  go_wp2
                  go_quiet (fail)
                  go_wp2
                  go_roundw
                  case rel => exact ⟨j + 1, by omega, by go_num, hgy.drewN _, by (show _ = _; rw [HR1.out, HR1'.out]; simp [HO.out])⟩
                  case measure => simp [intOf]; omega
    · obtain ⟨hlt, hl, hr'⟩ := drop_cons hr
      obtain ⟨u, hu, hul⟩ := HC.out k l hl
      have hu' := ((hB0.trans hgr).cell _ _ hbb).trans hu
      obtain ⟨Al, cl, rfl, p1, p2, p3⟩ := hul
      have hlen : l.length ≤ 100000 := hwf.out l (List.mem_of_getElem? hl)
      have HR : Hid (f.blocks.all Ref.laid = (Ref.laid l && r.all Ref.laid)) := by show _ = _; rw [hrest.out, hr]; rfl
      have HR' : Hid (f.blocks.drop (k + 1) = r) := hr'
      have HN : Hid (l ≠ [] → ∀ y ∈ f.blocks.take (k + 1), y ≠ []) := by
        intro h y hy
        obtain ⟨h1, e1⟩ := List.getElem?_eq_some_iff.1 hl
        rw [List.take_succ_eq_append_getElem h1, e1] at hy
        rcases List.mem_append.1 hy with h2 | h2
        · exact hnone.out y h2
        · simp at h2; subst h2; exact h
      have P3 := Lib.hid p3
      clear hr hl hr' hrest hu p3 hnone
      by_cases hl0 : l.length = 0
      · have n0 : ((l.length : Int) == 0) = true := by simp [hl0]
        have HE : Hid (Ref.laid l = false) := by show _ = _; rw [List.eq_nil_of_length_eq_zero hl0]; rfl
        clear hl0
        go_wp2_with fail
        go_ret
        exact ⟨ret_bool (by rw [HS.out, HR.out, HE.out]; simp), hB0.trans hgr⟩
      · have n0 : ((l.length : Int) == 0) = false := by rw [beq_eq_false_iff_ne]; omega
        have hne : l ≠ [] := fun h => hl0 (by rw [h]; rfl)
        have HN' := Lib.hid (HN.out hne)
        have HLD : Hid (Ref.laid l = Ref.laidFrom l true) := by show _ = _; unfold Ref.laid; cases l with | nil => exact absurd rfl hne | cons a b => rfl
        obtain ⟨bl, ol, rfl, hbl, hcl⟩ := P3.out (by omega)
        have HCL := Lib.hid hcl
        clear hl0 hne hcl HN
        go_wp2_with fail
        go_loopw [5] (fun i wr => ∃ j : Nat, j ≤ l.length ∧ i = .int .i64 j ∧ Gr W wr ∧ Hid (Ref.laidFrom l true = Ref.laidFrom (l.drop j) (prevB l j))) (fun i _ => l.length - (intOf i).toNat)
        case atStart => exact ⟨0, Nat.zero_le _, rfl, hgr, rfl⟩
        case round =>
          obtain ⟨j, hj, rfl, hgr1, hrest1⟩ := hrel
          clear hu' c0 c1 c2 c3
          rcases hr1 : l.drop j with _ | ⟨x, r1⟩
          · have hjn := drop_nil hr1 hj
            have HE3 : Hid (Ref.laidFrom l true = true) := by show _ = _; rw [hrest1.out, hr1]; rfl
            subst hjn
            clear hr1 hrest1
            go_wp2_with fail
            go_roundw
            case rel => exact ⟨k + 1, by omega, by go_num, hgr1, by (show _ = _; rw [HR.out, HR'.out, HLD.out, HE3.out]; simp), HN'.out⟩
            case measure => simp [intOf]; omega
          · obtain ⟨hlt1, hx, hr1'⟩ := drop_cons hr1
            obtain ⟨va, vt, i0, -, -, -, -, -, -, -⟩ := HCL.out j x hx
            have j0 := ((hB0.trans hgr1).cell _ _ hbl).trans i0
            have HR1 : Hid (Ref.laidFrom l true = ((Ref.isLast x.op == r1.isEmpty) && (decide (x.op ≠ 28) || prevB l j) && Ref.laidFrom r1 (decide (x.op = 28)))) := by show _ = _; rw [hrest1.out, hr1]; rfl
            have HR1' : Hid (Ref.laidFrom r1 (decide (x.op = 28)) = Ref.laidFrom (l.drop (j + 1)) (prevB l (j + 1))) := by show _ = _; rw [prevB_succ l j x hx, hr1']
            have hre : r1.isEmpty = decide ((j : Int) = (l.length : Int) - 1) := by
              have h1 : r1.length = l.length - (j + 1) := by rw [← hr1']; simp
              cases r1 with
              | nil => rw [List.length_nil] at h1; simp only [List.isEmpty_nil]; symm; rw [decide_eq_true_eq]; omega
              | cons a b => rw [List.length_cons] at h1; simp only [List.isEmpty_cons]; symm; rw [decide_eq_false_iff_not]; omega
            obtain ⟨em, hem⟩ : ∃ em, ((j : Int) == (l.length : Int) - 1) = em := ⟨_, rfl⟩
            have HEM : Hid (r1.isEmpty = em) := by show _ = _; rw [hre, ← hem]; rfl
            obtain ⟨la, hla⟩ : ∃ la, Ref.isLast x.op = la := ⟨_, rfl⟩
            have HCI : Hid (∀ w1, Calls Tryz.prog 73 #[.int .i64 x.op] w1 fun e w' => e = .returned (.bool la) ∧ w1 = w') := by rw [← hla]; exact fun w1 => isLast_any x.op w1
            have HLA := Lib.hid hla
            have HXC : Hid (∀ j' x', l[j']? = some x' → w.cell? ⟨bl, ol + j' * 6, none⟩ = some (.int .i64 x'.op)) := fun j' x' h => by obtain ⟨_, _, i0, -⟩ := HCL.out j' x' h; exact i0
            clear hr1 hx hr1' hrest1 i0 hre hla
            by_cases heq : em = la
            · subst heq
              by_cases hj0 : j = 0
              · have HPB : Hid (prevB l j = true) := by show _ = _; rw [hj0]; rfl
                have hz : (j : Int) ≤ 0 := by omega
                clear hj0
                cases em <;>
                · go_wp2_with (go_at_call 73; refine (HCI.out _).mono ?_; rintro e w1 ⟨rfl, rfl⟩)
                  go_roundw
                  case rel => exact ⟨j + 1, by omega, by go_num, hgr1, by (show _ = _; rw [HR1.out, HLA.out, HEM.out, HPB.out, HR1'.out]; simp)⟩
                  case measure => simp [intOf]; omega
              · obtain ⟨p, hp⟩ : ∃ p, p + 1 = j := ⟨j - 1, by omega⟩
                obtain ⟨x', hx'⟩ : ∃ x', l[p]? = some x' := ⟨l[p]'(by omega), by simp [show p < l.length by omega]⟩
                have j1 := ((hB0.trans hgr1).cell _ _ hbl).trans (HXC.out p x' hx')
                have HPB : Hid (prevB l j = decide (x'.op = 28)) := by show _ = _; rw [← hp]; exact prevB_succ l p x' hx'
                have wj : (j : Int) - 1 = p := by omega
                have hz : (0 : Int) < j := by omega
                have hpl : (p : Int) < (l.length : Int) := by omega
                clear hx' hj0 hp
                cases em <;>
                · go_wp2_with (go_at_call 73; refine (HCI.out _).mono ?_; rintro e w1 ⟨rfl, rfl⟩)
                  all_goals first
                    | (go_ret; exact ⟨ret_bool (by rw [HS.out, HR.out, HLD.out, HR1.out, HLA.out, HEM.out, HPB.out]; grind), hB0.trans hgr1⟩)
                    | (go_roundw
                       case rel => exact ⟨j + 1, by omega, by go_num, hgr1, by (show _ = _; rw [HR1.out, HLA.out, HEM.out, HPB.out, HR1'.out]; grind)⟩
                       case measure => simp [intOf]; omega)
            · have HNE := Lib.hid heq
              clear heq
              cases em <;> cases la <;> first
                | exact absurd rfl HNE.out
                | (go_wp2_with (go_at_call 73; refine (HCI.out _).mono ?_; rintro e w1 ⟨rfl, rfl⟩)
                   go_ret
                   exact ⟨ret_bool (by rw [HS.out, HR.out, HLD.out, HR1.out, HLA.out, HEM.out]; simp), hB0.trans hgr1⟩)
end Go.Proofs.YtiadpjhlomhjeaaGreat

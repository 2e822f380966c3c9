/- SameList at equal lists; the law RvBytes. -/
import Derived.Test.YthiaaagoccpkcaaDoorRvZa
namespace Go.Proofs.YthiaaagoccpkcaaDoor
set_option linter.unusedSimpArgs false
set_option linter.unusedVariables false
open Go.RowKit

set_option maxRecDepth 100000 in
set_option maxHeartbeats 8000000 in
theorem sameList_eq (u v : Value) (L : List RvI) (w : World) (hu : RvsAt w u L) (hv : RvsAt w v L) : Calls Tryd.prog 22 #[u, v] w fun e w' => e = .returned (.bool true) ∧ Gr w w' := by
  rcases SlAt.cases hu with ⟨h0, A, c, rfl⟩ | ⟨h0, b, off, c, rfl, hc, hcm, hb, hR⟩
  · obtain ⟨A', c', rfl, -⟩ := hv
    rw [h0]
    clear hu
    go_enter Tryd.func22, Tryd.ntmps22
    go_wp2
    refine wp_loop_rounds 1 ?_
    rw [rounds_succ]
    go_wp2
    go_ret
    exact ⟨rfl, Gr.refl w⟩
  · rcases SlAt.cases hv with ⟨h0', -⟩ | ⟨-, b', off', c', rfl, hc', hcm', hb', hR'⟩
    · omega
    · have HR : Hid (∀ w1, Gr w w1 → ∀ j x, L[j]? = some x → RvCells w1 b (off + j * 5) x ∧ RvCells w1 b' (off' + j * 5) x) := fun w1 g j x hx => ⟨(hR j x hx).gr hb g, (hR' j x hx).gr hb' g⟩
      obtain ⟨n, hn⟩ : ∃ n, L.length = n := ⟨_, rfl⟩
      have HN := Lib.hid hn
      rw [hn] at hc hc' h0 ⊢
      unfold maxLen at hcm hcm'
      have hl : (n : Int) ≤ 9223372036854775807 := by omega
      clear hu hv hR hR' hn
      go_enter Tryd.func22, Tryd.ntmps22
      go_wp2
      go_loopw [5] (fun i wr => ∃ k : Nat, k ≤ n ∧ i = .int .i64 k ∧ Hid (Gr w wr)) (fun i _ => n - (intOf i).toNat)
      case atStart => exact ⟨0, by omega, rfl, Lib.hid (Gr.refl w)⟩
      case round =>
        obtain ⟨k, hk, rfl, HG⟩ := hrel
        by_cases hlt : k < n
        · obtain ⟨x, hx⟩ : ∃ x, L[k]? = some x := ⟨_, List.getElem?_eq_getElem (by rw [HN.out]; exact hlt)⟩
          obtain ⟨⟨c0, c1, c2, c3, c4⟩, ⟨d0, d1, d2, d3, d4⟩⟩ := HR.out wr HG.out k x hx
          obtain ⟨x0, x1, x2, x3, x4⟩ := x
          dsimp only at c0 c1 c2 c3 c4 d0 d1 d2 d3 d4
          have b0 : (k : Int) < (n : Int) := by omega
          have b1 : (0 : Int) ≤ (k : Int) := by omega
          clear hx
          go_wp2
          go_quiet (fail)
          go_wp2
          go_roundw
          case rel => exact ⟨k + 1, by omega, by go_num, Lib.hid (HG.out.drewN _)⟩
          case measure => simp [intOf]; omega
        · go_wp2
          go_ret
          exact ⟨rfl, HG.out⟩

theorem Own1.out8 {B : Nat} {w : World} {A : Option Addr} {c : Nat} {bs : List Int} (h : Own1 B 5 w (.slice A bs.length c) (bs.map (Value.int .u8))) (hb : Rv.isBytes bs) (hn : bs.length ≤ 140737488351232) : BytesAt w (.slice A bs.length c) bs := own_bytes h hb hn
set_option maxRecDepth 100000 in
set_option maxHeartbeats 8000000 in
theorem rvBytes_any (v : Value) (L : List RvI) (w : World) (hv : RvsAt w v L) (ht : Tabs w) : Calls Tryd.prog 5 #[v] w fun e w' => e = .returned (.bool true) ∧ Gr w w' := by
  have HKN : Hid (∀ w1, Gr w w1 → Calls Tryd.prog 17 #[] w1 fun e w' => e = .returned (.bool true) ∧ Gr w1 w') := fun w1 g => known_any w1 (ht.gr g)
  by_cases hlong : 300 < L.length
  · obtain ⟨A, c, rfl, -⟩ := hv
    have hl' : (300 : Int) < (L.length : Int) := by omega
    obtain ⟨n, hn⟩ : ∃ n, L.length = n := ⟨_, rfl⟩
    rw [hn] at hl' ⊢
    clear ht hlong hn
    go_enter Tryd.func5, Tryd.ntmps5
    go_wp2_with (go_at_call 17; refine (HKN.out _ (Gr.refl w)).mono ?_; rintro e w1 ⟨rfl, g1⟩)
    go_ret
    exact ⟨rfl, g1⟩
  · have hn : L.length ≤ 300 := by omega
    have HBP : Hid (∀ w1, Gr w w1 → Calls Tryd.prog 19 #[v] w1 (BytesRet w1 L)) := fun w1 g => pBytes_any v L w1 (hv.gr g) (by omega)
    have HBR : Hid (∀ w1, Gr w w1 → Calls Tryd.prog 20 #[v] w1 (BytesRet w1 L)) := fun w1 g => rBytes_any v L w1 (hv.gr g) (by omega)
    have HLS : Hid (∀ u w1, BytesAt w1 u (Rv.bytesR L) → Calls Tryd.prog 21 #[u] w1 (ListRet w1 (Rv.bytesR L))) := fun u w1 h => pList_any u _ w1 h (by unfold Rv.bytesR; split <;> simp [Rv.bytesOf_length]; omega)
    have HSL : Hid (∀ u w1, Gr w w1 → RvsAt w1 u L → Calls Tryd.prog 22 #[v, u] w1 fun e w' => e = .returned (.bool true) ∧ Gr w1 w') := fun u w1 g h => sameList_eq v u L w1 (hv.gr g) h
    have HIN := Lib.hid (Rv.bytesR_in L)
    have HBL : Hid ((Rv.bytesR L).length ≤ 1200) := by show _ ≤ _; unfold Rv.bytesR; split <;> simp [Rv.bytesOf_length]; omega
    have hcase : (Rv.bytesE L = 0 ∧ Rv.listOf (Rv.bytesR L) = L ∧ (Rv.bytesR L).length = 4 * L.length) ∨ (Rv.bytesE L = 1) := by
      cases h : Rv.allValid L with
      | true =>
        have e : Rv.bytesR L = Rv.bytesOf L := by unfold Rv.bytesR; rw [h]; rfl
        exact .inl ⟨by unfold Rv.bytesE; rw [h]; rfl, by rw [e]; exact Rv.list_bytes L h, by rw [e]; exact Rv.bytesOf_length L⟩
      | false => exact .inr (by unfold Rv.bytesE; rw [h]; rfl)
    obtain ⟨A0, c0, rfl, -⟩ := hv
    obtain ⟨S, hS⟩ : ∃ S, bytesB (Rv.bytesR L) = S := ⟨_, rfl⟩
    have HS := Lib.hid hS
    have hl' : ¬ (300 : Int) < (L.length : Int) := by omega
    clear ht hlong hS
    rcases hcase with ⟨e1, e2, e3⟩ | e1
    · have hnn : ((4 * L.length : Nat) : Int) = ((Rv.bytesR L).length : Int) := by rw [e3]
      have HNN := Lib.hid hnn
      have HE1 := Lib.hid e1
      have HE2 := Lib.hid e2
      have HHN := Lib.hid hn
      clear e1 e2 e3 hnn hn
      go_enter Tryd.func5, Tryd.ntmps5
      go_wp2_with (first
        | (go_at_call 19; refine (HBP.out _ (Gr.refl w)).mono ?_; rintro e w1 ⟨A1, c1, rfl, o1, g1⟩; have HO1 := Lib.hid (o1.out8 HIN.out (by have := HBL.out; omega)); have HG1 := Lib.hid g1; clear o1 g1; rw [HE1.out])
        | (go_at_call 20; refine (HBR.out _ HG1.out).mono ?_; rintro e w2 ⟨A2, c2, rfl, o2, g2⟩; have HO2 := Lib.hid (o2.out8 HIN.out (by have := HBL.out; omega)); have HG2 := Lib.hid g2; clear o2 g2; rw [HE1.out]; have q1 := run_bytes (P := Tryd.prog) (HO1.out.gr HG2.out) Tryd.underlying35 Tryd.underlying5 Tryd.underlying9; have q2 := run_bytes (P := Tryd.prog) HO2.out Tryd.underlying35 Tryd.underlying5 Tryd.underlying9; rw [HS.out] at q1 q2)
        | (go_at_call 21; refine (HLS.out _ _ (HO1.out.gr HG2.out)).mono ?_; rintro e w3 ⟨A3, c3, rfl, o3, g3⟩; rw [HE2.out] at o3; have HO3 := Lib.hid (o3.rvs (by have := HHN.out; omega)); have HG3 := Lib.hid g3; clear o3 g3; rw [HE2.out, HNN.out])
        | (go_at_call 22; refine (HSL.out _ _ (HG1.out.trans (HG2.out.trans HG3.out)) HO3.out).mono ?_; rintro e w4 ⟨rfl, g4⟩)
        | (go_at_call 17; refine (HKN.out _ ((HG1.out.trans (HG2.out.trans HG3.out)).trans g4)).mono ?_; rintro e w5 ⟨rfl, g5⟩))
      go_ret
      exact ⟨rfl, ((HG1.out.trans (HG2.out.trans HG3.out)).trans g4).trans g5⟩
    · have HE1 := Lib.hid e1
      clear e1 hn
      go_enter Tryd.func5, Tryd.ntmps5
      go_wp2_with (first
        | (go_at_call 19; refine (HBP.out _ (Gr.refl w)).mono ?_; rintro e w1 ⟨A1, c1, rfl, o1, g1⟩; have HO1 := Lib.hid (o1.out8 HIN.out (by have := HBL.out; omega)); have HG1 := Lib.hid g1; clear o1 g1; rw [HE1.out])
        | (go_at_call 20; refine (HBR.out _ HG1.out).mono ?_; rintro e w2 ⟨A2, c2, rfl, o2, g2⟩; have HO2 := Lib.hid (o2.out8 HIN.out (by have := HBL.out; omega)); have HG2 := Lib.hid g2; clear o2 g2; rw [HE1.out]; have q1 := run_bytes (P := Tryd.prog) (HO1.out.gr HG2.out) Tryd.underlying35 Tryd.underlying5 Tryd.underlying9; have q2 := run_bytes (P := Tryd.prog) HO2.out Tryd.underlying35 Tryd.underlying5 Tryd.underlying9; rw [HS.out] at q1 q2)
        | (go_at_call 21; refine (HLS.out _ _ (HO1.out.gr HG2.out)).mono ?_; rintro e w3 ⟨A3, c3, rfl, o3, g3⟩; have HG3 := Lib.hid g3; clear o3 g3)
        | (go_at_call 17; refine (HKN.out _ (HG1.out.trans (HG2.out.trans HG3.out))).mono ?_; rintro e w5 ⟨rfl, g5⟩))
      go_ret
      exact ⟨rfl, (HG1.out.trans (HG2.out.trans HG3.out)).trans g5⟩
end Go.Proofs.YthiaaagoccpkcaaDoor

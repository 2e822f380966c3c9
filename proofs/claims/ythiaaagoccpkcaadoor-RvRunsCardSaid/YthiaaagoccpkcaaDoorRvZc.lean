/- The law RvLists, walked. -/
import Derived.Test.YthiaaagoccpkcaaDoorRvZb
namespace Go.Proofs.YthiaaagoccpkcaaDoor
set_option linter.unusedSimpArgs false
set_option linter.unusedVariables false
open Go.RowKit

theorem BytesAt.take {w : World} {A : Option Addr} {n c k : Nat} {bs : List Int} (h : BytesAt w (.slice A n c) bs) (hk : k ≤ n) : BytesAt w (.slice A k c) (bs.take k) := by
  obtain ⟨hb, A', c', e, h1, h2, h3, h5⟩ := h
  injection e with e1 e2 e3
  subst e1; subst e3
  have hl : (bs.take k).length = k := by simp; omega
  refine ⟨fun z hz => hb z (List.mem_of_mem_take hz), A, c, by rw [hl], by omega, h2, by omega, fun h0 => ?_⟩
  obtain ⟨b, off, e', hlt, hR⟩ := h5 (by omega)
  refine ⟨b, off, e', hlt, fun j z hz => hR j z ?_⟩
  have hj : j < k := by
    have := (List.getElem?_eq_some_iff.1 hz).1
    omega
  rw [List.getElem?_take, if_pos hj] at hz
  exact hz
set_option maxRecDepth 100000 in
set_option maxHeartbeats 8000000 in
theorem rvLists_any (v : Value) (bs : List Int) (w : World) (hv : BytesAt w v bs) (ht : Tabs w) : Calls Tryd.prog 6 #[v] w fun e w' => e = .returned (.bool true) ∧ Gr w w' := by
  have HKN : Hid (∀ w1, Gr w w1 → Calls Tryd.prog 17 #[] w1 fun e w' => e = .returned (.bool true) ∧ Gr w1 w') := fun w1 g => known_any w1 (ht.gr g)
  by_cases hlong : 2000 < bs.length
  · obtain ⟨A, c, rfl, -⟩ := hv.2
    have hl' : (2000 : Int) < (bs.length : Int) := by omega
    obtain ⟨n, hn⟩ : ∃ n, bs.length = n := ⟨_, rfl⟩
    rw [hn] at hl' ⊢
    clear ht hlong hn hv
    go_enter Tryd.func6, Tryd.ntmps6
    go_wp2_with (go_at_call 17; refine (HKN.out _ (Gr.refl w)).mono ?_; rintro e w1 ⟨rfl, g1⟩)
    go_ret
    exact ⟨rfl, g1⟩
  · obtain ⟨hv1, hv2, hv3⟩ := Rv.bytes_list hv.1
    have HLP : Hid (∀ w1, Gr w w1 → Calls Tryd.prog 21 #[v] w1 (ListRet w1 bs)) := fun w1 g => pList_any v bs w1 (hv.gr g) (by omega)
    have HLR : Hid (∀ w1, Gr w w1 → Calls Tryd.prog 23 #[v] w1 (ListRet w1 bs)) := fun w1 g => rList_any v bs w1 (hv.gr g) (by omega)
    have HSL : Hid (∀ u1 u2 w1, RvsAt w1 u1 (Rv.listOf bs) → RvsAt w1 u2 (Rv.listOf bs) → Calls Tryd.prog 22 #[u1, u2] w1 fun e w' => e = .returned (.bool true) ∧ Gr w1 w') := fun u1 u2 w1 h1 h2 => sameList_eq u1 u2 _ w1 h1 h2
    have HBP : Hid (∀ u w1, RvsAt w1 u (Rv.listOf bs) → Calls Tryd.prog 19 #[u] w1 (BytesRet w1 (Rv.listOf bs))) := fun u w1 h => pBytes_any u _ w1 h (by omega)
    have HBE : Hid (Rv.bytesE (Rv.listOf bs) = 0) := by show _ = _; unfold Rv.bytesE; rw [hv1]; rfl
    have HBR : Hid (Rv.bytesR (Rv.listOf bs) = bs.take (4 * (Rv.listOf bs).length)) := by show _ = _; unfold Rv.bytesR; rw [hv1]; exact hv3
    have HIN := Lib.hid (Rv.bytesR_in (Rv.listOf bs))
    have HBL : Hid ((Rv.bytesR (Rv.listOf bs)).length ≤ 2000) := by show _ ≤ _; rw [HBR.out]; simp; omega
    have HLL : Hid ((Rv.listOf bs).length ≤ 500) := by show _ ≤ _; omega
    obtain ⟨A0, c0, rfl, hc0, hcm, -⟩ := hv.2
    obtain ⟨k, hk⟩ : ∃ k, 4 * (Rv.listOf bs).length = k := ⟨_, rfl⟩
    have HK := Lib.hid hk
    have HTK : Hid (∀ w1, Gr w w1 → (convert 35 9 (.slice A0 k c0)).run Tryd.prog w1 = .ok (.string (bytesB (bs.take k))) w1) := fun w1 g => run_bytes ((hv.gr g).take (by omega)) Tryd.underlying35 Tryd.underlying5 Tryd.underlying9
    rw [hk] at HBR
    obtain ⟨S, hS⟩ : ∃ S, bytesB (bs.take k) = S := ⟨_, rfl⟩
    have HS := Lib.hid hS
    rw [hS] at HTK
    have hl' : ¬ (2000 : Int) < (bs.length : Int) := by omega
    obtain ⟨n, hn⟩ : ∃ n, bs.length = n := ⟨_, rfl⟩
    have b0 : (0 : Int) ≤ (k : Int) := by omega
    have b1 : (k : Int) ≤ (c0 : Int) := by omega
    have b2 : (k : Int) ≤ 2000 := by omega
    have b3 : k ≤ c0 := by omega
    rw [hn] at hl' hc0 HLP HLR
    rw [hn]
    unfold maxLen at hcm
    clear hv hv1 hv2 hv3 ht hlong hk hS hn
    go_enter Tryd.func6, Tryd.ntmps6
    go_wp2_with (first
      | (go_at_call 21; refine (HLP.out _ (Gr.refl w)).mono ?_; rintro e w1 ⟨A1, c1, rfl, o1, g1⟩; have HO1 := Lib.hid (o1.rvs (by have := HLL.out; omega)); have HG1 := Lib.hid g1; clear o1 g1; rw [HK.out])
      | (go_at_call 23; refine (HLR.out _ HG1.out).mono ?_; rintro e w2 ⟨A2, c2, rfl, o2, g2⟩; have HO2 := Lib.hid (o2.rvs (by have := HLL.out; omega)); have HG2 := Lib.hid g2; clear o2 g2; rw [HK.out])
      | (go_at_call 22; refine (HSL.out _ _ _ (HO1.out.gr HG2.out) HO2.out).mono ?_; rintro e w3 ⟨rfl, g3⟩; have HG3 : Hid (Gr w w3) := HG1.out.trans (HG2.out.trans g3); have HR3 : Hid (RvsAt w3 (.slice A1 (Rv.listOf bs).length c1) (Rv.listOf bs)) := HO1.out.gr (HG2.out.trans g3); clear g3)
      | (go_at_call 19; refine (HBP.out _ _ HR3.out).mono ?_; rintro e w4 ⟨A4, c4, rfl, o4, g4⟩; have HO4 := Lib.hid (o4.out8 HIN.out (by have := HBL.out; omega)); have HG4 : Hid (Gr w w4) := HG3.out.trans g4; clear o4 g4; rw [HBE.out]))
    have q1 : ∀ u : GrW w4, (convert 35 9 (.slice A4 (Rv.bytesR (Rv.listOf bs)).length c4)).run Tryd.prog u.val = .ok (.string S) u.val := fun u => by
      have h := run_bytes (P := Tryd.prog) (HO4.out.gr u.gr) Tryd.underlying35 Tryd.underlying5 Tryd.underlying9
      rw [h, HBR.out, HS.out]
    have q2 : ∀ u : GrW w4, (convert 35 9 (.slice A0 k c0)).run Tryd.prog u.val = .ok (.string S) u.val := fun u => HTK.out u.val (HG4.out.trans u.gr)
    refine wp_region_quietGr (by kernel_rfl) (by kernel_rfl) ?_
    repeat (go_big_quiet_step ((rename_i u; go_at_call 17; exact grW_call u (HKN.out _ (HG4.out.trans u.gr)))))
    refine wpQuiet_nil ?_
    intro w9 hw9
    obtain ⟨u9, rfl⟩ := hw9
    have HG9 := Lib.hid (HG4.out.trans u9.gr)
    go_wp2
    go_ret
    exact ⟨rfl, HG9.out⟩
end Go.Proofs.YthiaaagoccpkcaaDoor

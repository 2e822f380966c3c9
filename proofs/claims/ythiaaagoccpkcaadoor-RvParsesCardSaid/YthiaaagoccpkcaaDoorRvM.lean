/- newDecoder. -/
import Derived.Test.YthiaaagoccpkcaaDoorRvL
namespace Go.Proofs.YthiaaagoccpkcaaDoor
set_option linter.unusedSimpArgs false
set_option linter.unusedVariables false
open Go.RowKit Go.Maps

set_option maxRecDepth 100000 in
set_option maxHeartbeats 8000000 in
theorem newDecoder_any (w : World) : Calls Tryd.prog 45 #[] w fun e w' => e = .returned (.map (some w.heap.size)) ∧ Hid (DecAt w' w.heap.size) ∧ Gr w w' := by
  have hmm := @run_makeMap Tryd.prog
  go_enter Tryd.func45, Tryd.ntmps45
  go_wp2
  go_loopw [2] (fun i wr => ∃ k : Nat, k ≤ 39 ∧ i = .int .i64 k ∧ Hid (wr.ownsMap Tryd.prog 108 (plainElem (H := Unit) Tryd.prog 3) w.heap.size k (tabD k)) ∧ Hid (Gr w wr)) (fun i _ => 39 - (intOf i).toNat)
  case atStart => exact ⟨0, Nat.zero_le _, rfl, Lib.hid (World.ownsMap_made _ _ _ _), Lib.hid ((Gr.refl w).alloc _)⟩
  case round =>
    obtain ⟨k, hk, rfl, HO, HG⟩ := hrel
    by_cases hlt : k < 39
    · have hlt' : (k : Int) ≤ 38 := by omega
      have HFO : Hid (∀ w1, Calls Tryd.prog 37 #[.int .i64 (k : Int)] w1 fun e w' => e = .returned (.int .i64 (Rv.shapeN k)) ∧ w1 = w') := fun w1 => by
        have h := formOf_any (k : Int) w1
        have e : Rv.form (k : Int) = Rv.shapeN k := by unfold Rv.form; rw [if_neg (by omega)]; simp
        rw [e] at h; exact h
      have HCO : Hid (∀ w1, Calls Tryd.prog 65 #[.int .i64 (Rv.shapeN k)] w1 fun e w' => e = .returned (.int .u32 (Rv.codeN k)) ∧ w1 = w') := fun w1 => code_any k (by omega) w1
      have HTH : Hid (∀ w1, Calls Tryd.prog 66 #[.int .i64 (k : Int)] w1 fun e w' => e = .returned (.int .u32 (Rv.thirdN k)) ∧ w1 = w') := fun w1 => third_any k (by omega) w1
      have HSE : Hid (∀ w1, Calls Tryd.prog 67 #[.int .i64 (k : Int)] w1 fun e w' => e = .returned (.int .u32 (Rv.seventhN k)) ∧ w1 = w') := fun w1 => seventh_any k (by omega) w1
      have HK : Hid (Rv.keyN k = (Rv.codeN k, if Rv.shapeN k = 3 ∨ Rv.shapeN k = 7 then 0 else Rv.thirdN k, if Rv.shapeN k = 0 ∨ Rv.shapeN k = 2 then Rv.seventhN k else 0)) := by show _ = _; rfl
      have HOK : Hid (keyOk (Rv.keyN k)) := keyN_ok k (by omega)
      obtain ⟨c, hc⟩ : ∃ c, Rv.codeN k = c := ⟨_, rfl⟩
      obtain ⟨t, ht⟩ : ∃ c, Rv.thirdN k = c := ⟨_, rfl⟩
      obtain ⟨sv, hsv⟩ : ∃ c, Rv.seventhN k = c := ⟨_, rfl⟩
      have hsr := shape_range k
      obtain ⟨s, hs⟩ : ∃ c, Rv.shapeN k = c := ⟨_, rfl⟩
      rw [hs] at HFO hsr
      rw [hs, hc] at HCO
      rw [ht] at HTH
      rw [hsv] at HSE
      rw [hc, ht, hsv, hs] at HK
      clear hc ht hsv hs
      obtain ⟨q, hq⟩ : ∃ q, kl (Rv.keyN k) = q := ⟨_, rfl⟩
      have HKEY := Lib.hid (keyOf_keyV _ HOK.out)
      rw [hq] at HKEY
      have HQ := Lib.hid hq
      rw [HK.out] at HKEY
      clear HK HOK hq
      have hwf : (Lit.int .i64 (k : Int)).wf = true := WalkArith.wf_i64 (by omega)
      rcases hsr with rfl | rfl | rfl | rfl | rfl | rfl | rfl | rfl | rfl | rfl
      all_goals
        simp only [Int.reduceEq, or_true, or_false, false_or, true_or, if_true, if_false] at HKEY
        unfold keyV at HKEY
        dsimp only at HKEY
        go_wp2_with (first
          | (go_at_call 37; refine (HFO.out _).mono ?_; rintro e w1 ⟨rfl, rfl⟩)
          | (go_at_call 65; refine (HCO.out _).mono ?_; rintro e w1 ⟨rfl, rfl⟩)
          | (go_at_call 66; refine (HTH.out _).mono ?_; rintro e w1 ⟨rfl, rfl⟩)
          | (go_at_call 67; refine (HSE.out _).mono ?_; rintro e w1 ⟨rfl, rfl⟩)
          | (at_mapUpdate; refine wpList_mapUpdate_own _ rfl _ _ _ 78 rfl 108 3 fieldsLaw Tryd.underlying78 _ w.heap.size k _ rfl (HO.out.alloc _) (by unfold maxLen; omega) _ _ _ rfl rfl HKEY.out _ [] (plainElem_int Tryd.underlying3 hwf) ?_; intro w1 hown1 hgrow1))
        go_roundw
        case rel => exact ⟨k + 1, by omega, by go_num, Lib.hid (by unfold tabD; rw [HQ.out]; exact hown1), Lib.hid ((HG.out.alloc _).grown hgrow1 (fun j hj => by cases hj; exact Nat.le_refl _))⟩
        case measure => simp [intOf]; omega
    · have he : k = 39 := by omega
      subst he
      go_wp2
      go_ret
      exact ⟨rfl, HO, HG.out⟩
end Go.Proofs.YthiaaagoccpkcaaDoor

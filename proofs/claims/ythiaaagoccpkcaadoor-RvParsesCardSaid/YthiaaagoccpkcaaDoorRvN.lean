/- find: the operation of a word by the table. -/
import Derived.Test.YthiaaagoccpkcaaDoorRvM
namespace Go.Proofs.YthiaaagoccpkcaaDoor
open Go.RowKit Go.Maps

/-- A look-up in the decoder's table. -/
theorem wpList_lookup_dec (w : World) {ops : Array Oper} {rest : List Oper} {o : Oper} {a : Act} {Q : Exit → Act → World → Prop}
    (hg : o.guard = none) (m x : Operand) (hop : o.op = Op.lookup 78 m x true) (B : Nat) (hm : a.eval m = .map (some B)) (hD : DecAt w B) {c t s : Int}
    (hx : a.eval x = .agg #[.int .u32 c, .int .u32 t, .int .u32 s]) (hk : keyOk (c, t, s))
    (hK : wpList Tryd.prog ops Q rest (a.put o.dst (.tuple #[.int .i64 ((Rv.lastOp 39 (c, t, s)).getD 0 : Nat), .bool (Rv.lastOp 39 (c, t, s)).isSome])) w) :
    wpList Tryd.prog ops Q (o :: rest) a w := by
  obtain ⟨h1, h2⟩ := tabD_look (c, t, s) hk 39 (Nat.le_refl _)
  refine wpList_lookup_own_ok_int w hg m x 78 hop 108 3 .i64 fieldsLaw Tryd.underlying78 Tryd.underlying3 (zeroInt _) B 39 (tabD 39) hm hD _ (kl (c, t, s)) hx (keyOf_keyV (c, t, s) hk) ?_
  intro z hz _
  rw [h2] at hz
  have e : ((Rv.lastOp 39 (c, t, s)).getD 0 : Int) = z := by simpa using hz
  rw [h1, ← e]
  exact hK

def Rv.opOf (w : Int) : Int := ((Rv.findP w).getD 0 : Nat)
set_option maxRecDepth 100000 in
set_option maxHeartbeats 8000000 in
theorem find_any (x : Int) (B : Nat) (w : World) (hD : DecAt w B) (h0 : 0 ≤ x) (h1 : x < 4294967296) :
    Calls Tryd.prog 69 #[.map (some B), .int .u32 x] w fun e w' => e = .returned (.tuple #[.int .i64 (Rv.opOf x), .bool (Rv.findP x).isSome]) ∧ Gr w w' := by
  have HA1 := Lib.hid (and_u32 7 x h0 h1 (by omega))
  have HA2 := Lib.hid (and_u32 3 (x / 4096) (by omega) (by omega) (by omega))
  have a1 : bits .and .u32 x 127 = x % 128 := HA1.out
  have a2 : bits .and .u32 (x / 4096) 7 = x / 4096 % 8 := HA2.out
  clear HA1 HA2
  have HD := Lib.hid hD
  clear hD
  have K1 : Hid (keyOk (x % 128, 0, 0)) := ⟨by dsimp only; omega, by dsimp only; omega, by dsimp only; omega⟩
  have K2 : Hid (keyOk (x % 128, x / 4096 % 8, 0)) := ⟨by dsimp only; omega, by dsimp only; omega, by dsimp only; omega⟩
  have K3 : Hid (keyOk (x % 128, x / 4096 % 8, x / 33554432)) := ⟨by dsimp only; omega, by dsimp only; omega, by dsimp only; omega⟩
  have HFO : ∀ o : Nat, o < 39 → Hid (∀ w1, Calls Tryd.prog 37 #[.int .i64 (o : Int)] w1 fun e w' => e = .returned (.int .i64 (Rv.shapeN o)) ∧ w1 = w') := fun o ho w1 => by
    have h := formOf_any (o : Int) w1
    have e : Rv.form (o : Int) = Rv.shapeN o := by unfold Rv.form; rw [if_neg (by omega)]; simp
    rw [e] at h; exact h
  have HP : Hid (Rv.findP x = match Rv.lastOp 39 (x % 128, 0, 0) with
    | some op => if Rv.shapeN op = 3 ∨ Rv.shapeN op = 7 then some op else
        match Rv.lastOp 39 (x % 128, x / 4096 % 8, 0) with
        | some op => if Rv.shapeN op ≠ 0 ∧ Rv.shapeN op ≠ 2 then some op else Rv.lastOp 39 (x % 128, x / 4096 % 8, x / 33554432)
        | none => Rv.lastOp 39 (x % 128, x / 4096 % 8, x / 33554432)
    | none =>
        match Rv.lastOp 39 (x % 128, x / 4096 % 8, 0) with
        | some op => if Rv.shapeN op ≠ 0 ∧ Rv.shapeN op ≠ 2 then some op else Rv.lastOp 39 (x % 128, x / 4096 % 8, x / 33554432)
        | none => Rv.lastOp 39 (x % 128, x / 4096 % 8, x / 33554432)) := by show _ = _; rfl
  unfold Rv.opOf
  obtain ⟨r1, e1⟩ : ∃ r, Rv.lastOp 39 (x % 128, 0, 0) = r := ⟨_, rfl⟩
  obtain ⟨r2, e2⟩ : ∃ r, Rv.lastOp 39 (x % 128, x / 4096 % 8, 0) = r := ⟨_, rfl⟩
  obtain ⟨r3, e3⟩ : ∃ r, Rv.lastOp 39 (x % 128, x / 4096 % 8, x / 33554432) = r := ⟨_, rfl⟩
  rw [e1, e2, e3] at HP
  have L1 : ∀ o, r1 = some o → o < 39 := fun o h => Rv.lastOp_lt 39 _ o (e1.trans h)
  have L2 : ∀ o, r2 = some o → o < 39 := fun o h => Rv.lastOp_lt 39 _ o (e2.trans h)
  have hr1 : r1 = none ∨ (∃ o, r1 = some o ∧ Rv.shapeN o = 3) ∨ (∃ o, r1 = some o ∧ Rv.shapeN o = 7) ∨ (∃ o s, r1 = some o ∧ Rv.shapeN o = s ∧ s ≠ 3 ∧ s ≠ 7) := by
    cases r1 with
    | none => exact Or.inl rfl
    | some o =>
      by_cases p : Rv.shapeN o = 3
      · exact Or.inr (Or.inl ⟨o, rfl, p⟩)
      · by_cases p' : Rv.shapeN o = 7
        · exact Or.inr (Or.inr (Or.inl ⟨o, rfl, p'⟩))
        · exact Or.inr (Or.inr (Or.inr ⟨o, _, rfl, rfl, p, p'⟩))
  have hr2 : r2 = none ∨ (∃ o, r2 = some o ∧ Rv.shapeN o = 0) ∨ (∃ o, r2 = some o ∧ Rv.shapeN o = 2) ∨ (∃ o s, r2 = some o ∧ Rv.shapeN o = s ∧ s ≠ 0 ∧ s ≠ 2) := by
    cases r2 with
    | none => exact Or.inl rfl
    | some o =>
      by_cases p : Rv.shapeN o = 0
      · exact Or.inr (Or.inl ⟨o, rfl, p⟩)
      · by_cases p' : Rv.shapeN o = 2
        · exact Or.inr (Or.inr (Or.inl ⟨o, rfl, p'⟩))
        · exact Or.inr (Or.inr (Or.inr ⟨o, _, rfl, rfl, p, p'⟩))
  rcases hr1 with rfl | ⟨o1, rfl, hs1⟩ | ⟨o1, rfl, hs1⟩ | ⟨o1, s1, rfl, hs1, p1, p2⟩
  · rcases hr2 with rfl | ⟨o2, rfl, hs2⟩ | ⟨o2, rfl, hs2⟩ | ⟨o2, s2, rfl, hs2, p3, p4⟩
    · have HPF : Hid (Rv.findP x = r3) := by show _ = _; rw [HP.out]
      rw [HPF.out]
      clear HP HFO L1 L2 HPF
      go_enter Tryd.func69, Tryd.ntmps69
      go_wp2_with (first
        | (at_lookup; refine wpList_lookup_dec _ rfl _ _ rfl B rfl (HD.out.gr ((Gr.refl w).alloc _)) rfl K1.out ?_)
        | (at_lookup; refine wpList_lookup_dec _ rfl _ _ rfl B rfl (HD.out.gr ((Gr.refl w).alloc _)) rfl K2.out ?_)
        | (at_lookup; refine wpList_lookup_dec _ rfl _ _ rfl B rfl (HD.out.gr ((Gr.refl w).alloc _)) rfl K3.out ?_))
      go_ret2
      exact ⟨rfl, (Gr.refl w).alloc _⟩
    · have F2 := HFO o2 (L2 o2 rfl)
      have HS2 := Lib.hid hs2
      rw [hs2] at F2
      clear hs2
      have HPF : Hid (Rv.findP x = r3) := by show _ = _; rw [HP.out]; simp [HS2.out]
      rw [HPF.out]
      clear HP HFO L1 L2 HPF
      go_enter Tryd.func69, Tryd.ntmps69
      go_wp2_with (first
        | (at_lookup; refine wpList_lookup_dec _ rfl _ _ rfl B rfl (HD.out.gr ((Gr.refl w).alloc _)) rfl K1.out ?_)
        | (at_lookup; refine wpList_lookup_dec _ rfl _ _ rfl B rfl (HD.out.gr ((Gr.refl w).alloc _)) rfl K2.out ?_)
        | (at_lookup; refine wpList_lookup_dec _ rfl _ _ rfl B rfl (HD.out.gr ((Gr.refl w).alloc _)) rfl K3.out ?_)
        | (go_at_call 37; with_reducible refine (F2.out _).mono ?_; rintro e w1 ⟨rfl, rfl⟩))
      go_ret2
      exact ⟨rfl, (Gr.refl w).alloc _⟩
    · have F2 := HFO o2 (L2 o2 rfl)
      have HS2 := Lib.hid hs2
      rw [hs2] at F2
      clear hs2
      have HPF : Hid (Rv.findP x = r3) := by show _ = _; rw [HP.out]; simp [HS2.out]
      rw [HPF.out]
      clear HP HFO L1 L2 HPF
      go_enter Tryd.func69, Tryd.ntmps69
      go_wp2_with (first
        | (at_lookup; refine wpList_lookup_dec _ rfl _ _ rfl B rfl (HD.out.gr ((Gr.refl w).alloc _)) rfl K1.out ?_)
        | (at_lookup; refine wpList_lookup_dec _ rfl _ _ rfl B rfl (HD.out.gr ((Gr.refl w).alloc _)) rfl K2.out ?_)
        | (at_lookup; refine wpList_lookup_dec _ rfl _ _ rfl B rfl (HD.out.gr ((Gr.refl w).alloc _)) rfl K3.out ?_)
        | (go_at_call 37; with_reducible refine (F2.out _).mono ?_; rintro e w1 ⟨rfl, rfl⟩))
      go_ret2
      exact ⟨rfl, (Gr.refl w).alloc _⟩
    · have F2 := HFO o2 (L2 o2 rfl)
      have b3 : (s2 != 0) = true := by simp [p3]
      have b4 : (s2 != 2) = true := by simp [p4]
      have HS2 := Lib.hid hs2
      rw [hs2] at F2
      have HP3 := Lib.hid p3
      have HP4 := Lib.hid p4
      clear hs2 p3 p4
      have HPF : Hid (Rv.findP x = some o2) := by show _ = _; rw [HP.out]; simp [HS2.out, HP3.out, HP4.out]
      rw [HPF.out]
      clear HP HFO L1 L2 HPF
      go_enter Tryd.func69, Tryd.ntmps69
      go_wp2_with (first
        | (at_lookup; refine wpList_lookup_dec _ rfl _ _ rfl B rfl (HD.out.gr ((Gr.refl w).alloc _)) rfl K1.out ?_)
        | (at_lookup; refine wpList_lookup_dec _ rfl _ _ rfl B rfl (HD.out.gr ((Gr.refl w).alloc _)) rfl K2.out ?_)
        | (at_lookup; refine wpList_lookup_dec _ rfl _ _ rfl B rfl (HD.out.gr ((Gr.refl w).alloc _)) rfl K3.out ?_)
        | (go_at_call 37; with_reducible refine (F2.out _).mono ?_; rintro e w1 ⟨rfl, rfl⟩))
      go_ret2
      exact ⟨rfl, (Gr.refl w).alloc _⟩
  · have F1 := HFO o1 (L1 o1 rfl)
    have HS1 := Lib.hid hs1
    rw [hs1] at F1
    clear hs1
    have HPF : Hid (Rv.findP x = some o1) := by show _ = _; rw [HP.out]; simp [HS1.out]
    rw [HPF.out]
    clear HP HFO L1 L2 HPF
    go_enter Tryd.func69, Tryd.ntmps69
    go_wp2_with (first
      | (at_lookup; refine wpList_lookup_dec _ rfl _ _ rfl B rfl (HD.out.gr ((Gr.refl w).alloc _)) rfl K1.out ?_)
      | (at_lookup; refine wpList_lookup_dec _ rfl _ _ rfl B rfl (HD.out.gr ((Gr.refl w).alloc _)) rfl K2.out ?_)
      | (at_lookup; refine wpList_lookup_dec _ rfl _ _ rfl B rfl (HD.out.gr ((Gr.refl w).alloc _)) rfl K3.out ?_)
      | (go_at_call 37; with_reducible refine (F1.out _).mono ?_; rintro e w1 ⟨rfl, rfl⟩))
    go_ret2
    exact ⟨rfl, (Gr.refl w).alloc _⟩
  · have F1 := HFO o1 (L1 o1 rfl)
    have HS1 := Lib.hid hs1
    rw [hs1] at F1
    clear hs1
    have HPF : Hid (Rv.findP x = some o1) := by show _ = _; rw [HP.out]; simp [HS1.out]
    rw [HPF.out]
    clear HP HFO L1 L2 HPF
    go_enter Tryd.func69, Tryd.ntmps69
    go_wp2_with (first
      | (at_lookup; refine wpList_lookup_dec _ rfl _ _ rfl B rfl (HD.out.gr ((Gr.refl w).alloc _)) rfl K1.out ?_)
      | (at_lookup; refine wpList_lookup_dec _ rfl _ _ rfl B rfl (HD.out.gr ((Gr.refl w).alloc _)) rfl K2.out ?_)
      | (at_lookup; refine wpList_lookup_dec _ rfl _ _ rfl B rfl (HD.out.gr ((Gr.refl w).alloc _)) rfl K3.out ?_)
      | (go_at_call 37; with_reducible refine (F1.out _).mono ?_; rintro e w1 ⟨rfl, rfl⟩))
    go_ret2
    exact ⟨rfl, (Gr.refl w).alloc _⟩
  · have F1 := HFO o1 (L1 o1 rfl)
    have b1 : (s1 == 3) = false := by simp [p1]
    have b2 : (s1 == 7) = false := by simp [p2]
    have HS1 := Lib.hid hs1
    rw [hs1] at F1
    have HP1 := Lib.hid p1
    have HP2 := Lib.hid p2
    clear hs1 p1 p2
    rcases hr2 with rfl | ⟨o2, rfl, hs2⟩ | ⟨o2, rfl, hs2⟩ | ⟨o2, s2, rfl, hs2, p3, p4⟩
    · have HPF : Hid (Rv.findP x = r3) := by show _ = _; rw [HP.out]; simp [HS1.out, HP1.out, HP2.out]
      rw [HPF.out]
      clear HP HFO L1 L2 HPF
      go_enter Tryd.func69, Tryd.ntmps69
      go_wp2_with (first
        | (at_lookup; refine wpList_lookup_dec _ rfl _ _ rfl B rfl (HD.out.gr ((Gr.refl w).alloc _)) rfl K1.out ?_)
        | (at_lookup; refine wpList_lookup_dec _ rfl _ _ rfl B rfl (HD.out.gr ((Gr.refl w).alloc _)) rfl K2.out ?_)
        | (at_lookup; refine wpList_lookup_dec _ rfl _ _ rfl B rfl (HD.out.gr ((Gr.refl w).alloc _)) rfl K3.out ?_)
        | (go_at_call 37; with_reducible refine (F1.out _).mono ?_; rintro e w1 ⟨rfl, rfl⟩))
      go_ret2
      exact ⟨rfl, (Gr.refl w).alloc _⟩
    · have F2 := HFO o2 (L2 o2 rfl)
      have HS2 := Lib.hid hs2
      rw [hs2] at F2
      clear hs2
      have HPF : Hid (Rv.findP x = r3) := by show _ = _; rw [HP.out]; simp [HS1.out, HP1.out, HP2.out, HS2.out]
      rw [HPF.out]
      clear HP HFO L1 L2 HPF
      go_enter Tryd.func69, Tryd.ntmps69
      go_wp2_with (first
        | (at_lookup; refine wpList_lookup_dec _ rfl _ _ rfl B rfl (HD.out.gr ((Gr.refl w).alloc _)) rfl K1.out ?_)
        | (at_lookup; refine wpList_lookup_dec _ rfl _ _ rfl B rfl (HD.out.gr ((Gr.refl w).alloc _)) rfl K2.out ?_)
        | (at_lookup; refine wpList_lookup_dec _ rfl _ _ rfl B rfl (HD.out.gr ((Gr.refl w).alloc _)) rfl K3.out ?_)
        | (go_at_call 37; with_reducible refine (F1.out _).mono ?_; rintro e w1 ⟨rfl, rfl⟩)
        | (go_at_call 37; with_reducible refine (F2.out _).mono ?_; rintro e w1 ⟨rfl, rfl⟩))
      go_ret2
      exact ⟨rfl, (Gr.refl w).alloc _⟩
    · have F2 := HFO o2 (L2 o2 rfl)
      have HS2 := Lib.hid hs2
      rw [hs2] at F2
      clear hs2
      have HPF : Hid (Rv.findP x = r3) := by show _ = _; rw [HP.out]; simp [HS1.out, HP1.out, HP2.out, HS2.out]
      rw [HPF.out]
      clear HP HFO L1 L2 HPF
      go_enter Tryd.func69, Tryd.ntmps69
      go_wp2_with (first
        | (at_lookup; refine wpList_lookup_dec _ rfl _ _ rfl B rfl (HD.out.gr ((Gr.refl w).alloc _)) rfl K1.out ?_)
        | (at_lookup; refine wpList_lookup_dec _ rfl _ _ rfl B rfl (HD.out.gr ((Gr.refl w).alloc _)) rfl K2.out ?_)
        | (at_lookup; refine wpList_lookup_dec _ rfl _ _ rfl B rfl (HD.out.gr ((Gr.refl w).alloc _)) rfl K3.out ?_)
        | (go_at_call 37; with_reducible refine (F1.out _).mono ?_; rintro e w1 ⟨rfl, rfl⟩)
        | (go_at_call 37; with_reducible refine (F2.out _).mono ?_; rintro e w1 ⟨rfl, rfl⟩))
      go_ret2
      exact ⟨rfl, (Gr.refl w).alloc _⟩
    · have F2 := HFO o2 (L2 o2 rfl)
      have b3 : (s2 != 0) = true := by simp [p3]
      have b4 : (s2 != 2) = true := by simp [p4]
      have HS2 := Lib.hid hs2
      rw [hs2] at F2
      have HP3 := Lib.hid p3
      have HP4 := Lib.hid p4
      clear hs2 p3 p4
      have HPF : Hid (Rv.findP x = some o2) := by show _ = _; rw [HP.out]; simp [HS1.out, HP1.out, HP2.out, HS2.out, HP3.out, HP4.out]
      rw [HPF.out]
      clear HP HFO L1 L2 HPF
      go_enter Tryd.func69, Tryd.ntmps69
      go_wp2_with (first
        | (at_lookup; refine wpList_lookup_dec _ rfl _ _ rfl B rfl (HD.out.gr ((Gr.refl w).alloc _)) rfl K1.out ?_)
        | (at_lookup; refine wpList_lookup_dec _ rfl _ _ rfl B rfl (HD.out.gr ((Gr.refl w).alloc _)) rfl K2.out ?_)
        | (at_lookup; refine wpList_lookup_dec _ rfl _ _ rfl B rfl (HD.out.gr ((Gr.refl w).alloc _)) rfl K3.out ?_)
        | (go_at_call 37; with_reducible refine (F1.out _).mono ?_; rintro e w1 ⟨rfl, rfl⟩)
        | (go_at_call 37; with_reducible refine (F2.out _).mono ?_; rintro e w1 ⟨rfl, rfl⟩))
      go_ret2
      exact ⟨rfl, (Gr.refl w).alloc _⟩
end Go.Proofs.YthiaaagoccpkcaaDoor

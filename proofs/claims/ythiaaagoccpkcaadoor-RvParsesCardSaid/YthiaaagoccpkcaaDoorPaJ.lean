/- value of the document. -/
import Derived.Test.YthiaaagoccpkcaaDoorPaI
namespace Go.Proofs.YthiaaagoccpkcaaDoor
set_option linter.unusedSimpArgs false
set_option linter.unusedVariables false
open Go.RowKit

theorem tail_list (s : ByteArray) (h : 0 < s.size) : ∃ r, s.data.toList = s[0] :: r ∧ (s.extract 1 s.size).data.toList = r ∧ (s.extract 1 s.size).size = s.size - 1 := by
  have hl : s.data.toList.length = s.size := by rw [Array.length_toList]; rfl
  refine ⟨s.data.toList.drop 1, ?_, Lib.extract_to_end s 1, by simp⟩
  have := List.drop_eq_getElem_cons (l := s.data.toList) (i := 0) (by omega)
  rw [List.drop_zero] at this
  exact this
set_option maxRecDepth 100000 in
set_option maxHeartbeats 8000000 in
theorem value_nil (s : ByteArray) (hs : s.size = 0) (w : World) : Calls Tryd.prog 62 #[.string s] w fun e w' => e = .returned (.int .i64 (Pa.value s.data.toList)) ∧ w = w' := by
  have e0 : s.data.toList = [] := List.eq_nil_of_length_eq_zero (by rw [Array.length_toList]; exact hs)
  have HV : Hid (Pa.value s.data.toList = match Pa.digs 0 s.data.toList with | some n => 1 * (n : Int) | none => 0) := by show _ = _; rw [e0]; rfl
  have c0 : decide ((0 : Int) < (s.size : Int)) = false := by rw [decide_eq_false_iff_not]; omega
  have hs' : (s.size : Int) = 0 := by omega
  clear e0
  go_enter Tryd.func62, Tryd.ntmps62
  go_wp2
  have hb0 : s.size ≤ 90000 := by omega
  have HL : Hid (s.data.toList.length = s.size) := Lib.hid (by rw [Array.length_toList]; rfl)
  go_loop [4, 5] (fun s4 s5 => ∃ k n : Nat, k ≤ s.size ∧ s5 = .int .i64 k ∧ s4 = .int .i64 n ∧ n ≤ 42949672969 ∧ Hid (Pa.digs 0 s.data.toList = Pa.digs n (s.data.toList.drop k))) (fun _ s5 => s.size - (intOf s5).toNat)
  case atStart => exact ⟨0, 0, by omega, rfl, rfl, by omega, Lib.hid rfl⟩
  case round =>
    obtain ⟨k, n, hk, rfl, rfl, hn, HI⟩ := hrel
    by_cases hlt : k < s.size
    · exact absurd hlt (by omega)
    · have he : k = s.size := by omega
      have HZ : Hid (Pa.value s.data.toList = 1 * (n : Int)) := by
        show _ = _
        rw [HV.out, HI.out, List.drop_of_length_le (by rw [HL.out]; omega)]
        try rfl
      subst he
      go_wp2
      go_ret
      exact ⟨ret_int (by rw [HZ.out]; omega), rfl⟩
set_option maxRecDepth 100000 in
set_option maxHeartbeats 8000000 in
theorem value_no (s : ByteArray) (hs : 0 < s.size) (hm : s.size ≤ 90000) (h1 : ¬ s[0] = 120) (h2 : ¬ s[0] = 45) (w : World) : Calls Tryd.prog 62 #[.string s] w fun e w' => e = .returned (.int .i64 (Pa.value s.data.toList)) ∧ w = w' := by
  obtain ⟨r, er, -, -⟩ := tail_list s hs
  have HV : Hid (Pa.value s.data.toList = match Pa.digs 0 s.data.toList with | some n => 1 * (n : Int) | none => 0) := by
    show _ = _
    have e1 : Pa.noX s.data.toList = s.data.toList := by rw [er]; simp [Pa.noX, h1]
    have e2 : Pa.noMinus s.data.toList = s.data.toList := by rw [er]; simp [Pa.noMinus, h2]
    have e3 : Pa.signOf s.data.toList = 1 := by rw [er]; simp [Pa.signOf, h2]
    unfold Pa.value
    rw [e1, e2, e3]
    cases Pa.digs 0 s.data.toList <;> rfl
  have c1 : ((s[0].toNat : Int) == 120) = false := by
    rw [beq_eq_false_iff_ne]; intro e; apply h1; apply UInt8.toNat_inj.1; show s[0].toNat = 120; omega
  have c2 : ((s[0].toNat : Int) == 45) = false := by
    rw [beq_eq_false_iff_ne]; intro e; apply h2; apply UInt8.toNat_inj.1; show s[0].toNat = 45; omega
  have h0 : (0 : Int) < (s.size : Int) := by omega
  clear er h1 h2
  go_enter Tryd.func62, Tryd.ntmps62
  go_wp2
  have hb0 : s.size ≤ 90000 := by omega
  have HL : Hid (s.data.toList.length = s.size) := Lib.hid (by rw [Array.length_toList]; rfl)
  go_loop [4, 5] (fun s4 s5 => ∃ k n : Nat, k ≤ s.size ∧ s5 = .int .i64 k ∧ s4 = .int .i64 n ∧ n ≤ 42949672969 ∧ Hid (Pa.digs 0 s.data.toList = Pa.digs n (s.data.toList.drop k))) (fun _ s5 => s.size - (intOf s5).toNat)
  case atStart => exact ⟨0, 0, by omega, rfl, rfl, by omega, Lib.hid rfl⟩
  case round =>
    obtain ⟨k, n, hk, rfl, rfl, hn, HI⟩ := hrel
    by_cases hlt : k < s.size
    · have HD : Hid (s.data.toList.drop k = s[k] :: s.data.toList.drop (k + 1)) := by
        show _ = _
        rw [List.drop_eq_getElem_cons (by rw [HL.out]; exact hlt)]
        rfl
      by_cases hbad : s[k].toNat < 48 ∨ 57 < s[k].toNat ∨ 4294967296 < n
      · have HZ : Hid (Pa.value s.data.toList = 0) := by
          show _ = _
          rw [HV.out, HI.out, HD.out]
          simp only [Pa.digs, Pa.digit, if_pos hbad, Option.bind_none]
        rcases hbad with hbad | hbad | hbad
        · have b1 : (s[k].toNat : Int) < 48 := by omega
          go_wp2
          all_goals (go_ret; exact ⟨ret_int (by rw [HZ.out]), rfl⟩)
        · have b1 : (57 : Int) < (s[k].toNat : Int) := by omega
          go_wp2
          all_goals (go_ret; exact ⟨ret_int (by rw [HZ.out]), rfl⟩)
        · have b1 : (4294967296 : Int) < (n : Int) := by omega
          go_wp2
          all_goals (go_ret; exact ⟨ret_int (by rw [HZ.out]), rfl⟩)
      · have b1 : (48 : Int) ≤ (s[k].toNat : Int) := by omega
        have b2 : (s[k].toNat : Int) ≤ 57 := by omega
        have b3 : (n : Int) ≤ 4294967296 := by omega
        have HN : Hid (Pa.digs 0 s.data.toList = Pa.digs (10 * n + (s[k].toNat - 48)) (s.data.toList.drop (k + 1))) := by
          show _ = _
          rw [HI.out, HD.out]
          simp only [Pa.digs, Pa.digit, if_neg hbad, Option.bind_some]
        have HB : Hid (¬ (s[k].toNat < 48 ∨ 57 < s[k].toNat ∨ 4294967296 < n)) := hbad
        clear hbad
        go_wp2
        go_round
        case rel => exact ⟨k + 1, 10 * n + (s[k].toNat - 48), by omega, by go_num, by have := HB.out; congr 1; omega, by have := HB.out; omega, HN⟩
        case measure => simp [intOf]; omega
    · have he : k = s.size := by omega
      have HZ : Hid (Pa.value s.data.toList = 1 * (n : Int)) := by
        show _ = _
        rw [HV.out, HI.out, List.drop_of_length_le (by rw [HL.out]; omega)]
        try rfl
      subst he
      go_wp2
      go_ret
      exact ⟨ret_int (by rw [HZ.out]; omega), rfl⟩
set_option maxRecDepth 100000 in
set_option maxHeartbeats 8000000 in
theorem value_min (s : ByteArray) (hs : 0 < s.size) (hm : s.size ≤ 90000) (h1 : ¬ s[0] = 120) (h2 : s[0] = 45) (w : World) : Calls Tryd.prog 62 #[.string s] w fun e w' => e = .returned (.int .i64 (Pa.value s.data.toList)) ∧ w = w' := by
  obtain ⟨r, er, et, es⟩ := tail_list s hs
  have c2 : ((s[0].toNat : Int) == 45) = true := by rw [beq_iff_eq, h2]; rfl
  have c1 : ((s[0].toNat : Int) == 120) = false := by
    rw [beq_eq_false_iff_ne]; intro e; apply h1; apply UInt8.toNat_inj.1; show s[0].toNat = 120; omega
  obtain ⟨t, ht⟩ : ∃ t, s.extract 1 s.size = t := ⟨_, rfl⟩
  rw [ht] at et es
  have HV : Hid (Pa.value s.data.toList = match Pa.digs 0 t.data.toList with | some n => -1 * (n : Int) | none => 0) := by
    show _ = _
    have e1 : Pa.noX s.data.toList = s.data.toList := by rw [er]; simp [Pa.noX, h1]
    have e2 : Pa.noMinus s.data.toList = t.data.toList := by rw [er, et]; simp [Pa.noMinus, h2]
    have e3 : Pa.signOf s.data.toList = -1 := by rw [er]; simp [Pa.signOf, h2]
    unfold Pa.value
    rw [e1, e2, e3]
    cases Pa.digs 0 t.data.toList <;> rfl
  have h0 : (0 : Int) < (s.size : Int) := by omega
  have hz : t.size ≤ 90000 := by omega
  clear er h1 h2 et
  go_enter Tryd.func62, Tryd.ntmps62
  go_wp2
  have hb0 : t.size ≤ 90000 := by omega
  have HL : Hid (t.data.toList.length = t.size) := Lib.hid (by rw [Array.length_toList]; rfl)
  go_loop [4, 5] (fun s4 s5 => ∃ k n : Nat, k ≤ t.size ∧ s5 = .int .i64 k ∧ s4 = .int .i64 n ∧ n ≤ 42949672969 ∧ Hid (Pa.digs 0 t.data.toList = Pa.digs n (t.data.toList.drop k))) (fun _ s5 => t.size - (intOf s5).toNat)
  case atStart => exact ⟨0, 0, by omega, rfl, rfl, by omega, Lib.hid rfl⟩
  case round =>
    obtain ⟨k, n, hk, rfl, rfl, hn, HI⟩ := hrel
    by_cases hlt : k < t.size
    · have HD : Hid (t.data.toList.drop k = t[k] :: t.data.toList.drop (k + 1)) := by
        show _ = _
        rw [List.drop_eq_getElem_cons (by rw [HL.out]; exact hlt)]
        rfl
      by_cases hbad : t[k].toNat < 48 ∨ 57 < t[k].toNat ∨ 4294967296 < n
      · have HZ : Hid (Pa.value s.data.toList = 0) := by
          show _ = _
          rw [HV.out, HI.out, HD.out]
          simp only [Pa.digs, Pa.digit, if_pos hbad, Option.bind_none]
        rcases hbad with hbad | hbad | hbad
        · have b1 : (t[k].toNat : Int) < 48 := by omega
          go_wp2
          all_goals (go_ret; exact ⟨ret_int (by rw [HZ.out]), rfl⟩)
        · have b1 : (57 : Int) < (t[k].toNat : Int) := by omega
          go_wp2
          all_goals (go_ret; exact ⟨ret_int (by rw [HZ.out]), rfl⟩)
        · have b1 : (4294967296 : Int) < (n : Int) := by omega
          go_wp2
          all_goals (go_ret; exact ⟨ret_int (by rw [HZ.out]), rfl⟩)
      · have b1 : (48 : Int) ≤ (t[k].toNat : Int) := by omega
        have b2 : (t[k].toNat : Int) ≤ 57 := by omega
        have b3 : (n : Int) ≤ 4294967296 := by omega
        have HN : Hid (Pa.digs 0 t.data.toList = Pa.digs (10 * n + (t[k].toNat - 48)) (t.data.toList.drop (k + 1))) := by
          show _ = _
          rw [HI.out, HD.out]
          simp only [Pa.digs, Pa.digit, if_neg hbad, Option.bind_some]
        have HB : Hid (¬ (t[k].toNat < 48 ∨ 57 < t[k].toNat ∨ 4294967296 < n)) := hbad
        clear hbad
        go_wp2
        go_round
        case rel => exact ⟨k + 1, 10 * n + (t[k].toNat - 48), by omega, by go_num, by have := HB.out; congr 1; omega, by have := HB.out; omega, HN⟩
        case measure => simp [intOf]; omega
    · have he : k = t.size := by omega
      have HZ : Hid (Pa.value s.data.toList = -1 * (n : Int)) := by
        show _ = _
        rw [HV.out, HI.out, List.drop_of_length_le (by rw [HL.out]; omega)]
        try rfl
      subst he
      go_wp2
      go_ret
      exact ⟨ret_int (by rw [HZ.out]; omega), rfl⟩
set_option maxRecDepth 100000 in
set_option maxHeartbeats 8000000 in
theorem value_xnil (s : ByteArray) (hs : 0 < s.size) (hm : s.size ≤ 90000) (h1 : s[0] = 120) (hz : s.size = 1) (w : World) : Calls Tryd.prog 62 #[.string s] w fun e w' => e = .returned (.int .i64 (Pa.value s.data.toList)) ∧ w = w' := by
  obtain ⟨r, er, et, es⟩ := tail_list s hs
  have c1 : ((s[0].toNat : Int) == 120) = true := by
    rw [beq_iff_eq]; rw [h1]; rfl
  obtain ⟨u, hu⟩ : ∃ u, s.extract 1 s.size = u := ⟨_, rfl⟩
  rw [hu] at et es
  have e1 : Pa.noX s.data.toList = u.data.toList := by rw [er, et]; simp [Pa.noX, h1]
  have hu0 : u.size = 0 := by omega
  have e0 : u.data.toList = [] := List.eq_nil_of_length_eq_zero (by rw [Array.length_toList]; exact hu0)
  have HV : Hid (Pa.value s.data.toList = match Pa.digs 0 u.data.toList with | some n => 1 * (n : Int) | none => 0) := by show _ = _; unfold Pa.value; rw [e1, e0]; rfl
  have h0 : (0 : Int) < (s.size : Int) := by omega
  have c0 : decide ((0 : Int) < (u.size : Int)) = false := by rw [decide_eq_false_iff_not]; omega
  have c00 : (u.size : Int) = 0 := by omega
  clear er h1 et e1 e0 es hz
  go_enter Tryd.func62, Tryd.ntmps62
  go_wp2
  have hb0 : u.size ≤ 90000 := by omega
  have HL : Hid (u.data.toList.length = u.size) := Lib.hid (by rw [Array.length_toList]; rfl)
  go_loop [4, 5] (fun s4 s5 => ∃ k n : Nat, k ≤ u.size ∧ s5 = .int .i64 k ∧ s4 = .int .i64 n ∧ n ≤ 42949672969 ∧ Hid (Pa.digs 0 u.data.toList = Pa.digs n (u.data.toList.drop k))) (fun _ s5 => u.size - (intOf s5).toNat)
  case atStart => exact ⟨0, 0, by omega, rfl, rfl, by omega, Lib.hid rfl⟩
  case round =>
    obtain ⟨k, n, hk, rfl, rfl, hn, HI⟩ := hrel
    by_cases hlt : k < u.size
    · exact absurd hlt (by omega)
    · have he : k = u.size := by omega
      have HZ : Hid (Pa.value s.data.toList = 1 * (n : Int)) := by
        show _ = _
        rw [HV.out, HI.out, List.drop_of_length_le (by rw [HL.out]; omega)]
        try rfl
      subst he
      go_wp2
      go_ret
      exact ⟨ret_int (by rw [HZ.out]; omega), rfl⟩
set_option maxRecDepth 100000 in
set_option maxHeartbeats 8000000 in
theorem value_xno (s : ByteArray) (hs : 0 < s.size) (hm : s.size ≤ 90000) (h1 : s[0] = 120) (w : World) : ∀ u, s.extract 1 s.size = u → (hu0 : 0 < u.size) → ¬ u[0] = 45 → Calls Tryd.prog 62 #[.string s] w fun e w' => e = .returned (.int .i64 (Pa.value s.data.toList)) ∧ w = w' := by
  intro u hu hu0 h2
  obtain ⟨r, er, et, es⟩ := tail_list s hs
  have c1 : ((s[0].toNat : Int) == 120) = true := by
    rw [beq_iff_eq]; rw [h1]; rfl
  rw [hu] at et es
  have e1 : Pa.noX s.data.toList = u.data.toList := by rw [er, et]; simp [Pa.noX, h1]
  obtain ⟨q, eq, -, -⟩ := tail_list u hu0
  have HV : Hid (Pa.value s.data.toList = match Pa.digs 0 u.data.toList with | some n => 1 * (n : Int) | none => 0) := by
    show _ = _
    have e2 : Pa.noMinus u.data.toList = u.data.toList := by rw [eq]; simp [Pa.noMinus, h2]
    have e3 : Pa.signOf u.data.toList = 1 := by rw [eq]; simp [Pa.signOf, h2]
    unfold Pa.value
    rw [e1, e2, e3]
    cases Pa.digs 0 u.data.toList <;> rfl
  have c2 : ((u[0].toNat : Int) == 45) = false := by
    rw [beq_eq_false_iff_ne]; intro e; apply h2; apply UInt8.toNat_inj.1; show u[0].toNat = 45; omega
  have h0 : (0 : Int) < (s.size : Int) := by omega
  have h00 : (0 : Int) < (u.size : Int) := by omega
  clear er h1 h2 et e1 eq
  go_enter Tryd.func62, Tryd.ntmps62
  go_wp2
  have hb0 : u.size ≤ 90000 := by omega
  have HL : Hid (u.data.toList.length = u.size) := Lib.hid (by rw [Array.length_toList]; rfl)
  go_loop [4, 5] (fun s4 s5 => ∃ k n : Nat, k ≤ u.size ∧ s5 = .int .i64 k ∧ s4 = .int .i64 n ∧ n ≤ 42949672969 ∧ Hid (Pa.digs 0 u.data.toList = Pa.digs n (u.data.toList.drop k))) (fun _ s5 => u.size - (intOf s5).toNat)
  case atStart => exact ⟨0, 0, by omega, rfl, rfl, by omega, Lib.hid rfl⟩
  case round =>
    obtain ⟨k, n, hk, rfl, rfl, hn, HI⟩ := hrel
    by_cases hlt : k < u.size
    · have HD : Hid (u.data.toList.drop k = u[k] :: u.data.toList.drop (k + 1)) := by
        show _ = _
        rw [List.drop_eq_getElem_cons (by rw [HL.out]; exact hlt)]
        rfl
      by_cases hbad : u[k].toNat < 48 ∨ 57 < u[k].toNat ∨ 4294967296 < n
      · have HZ : Hid (Pa.value s.data.toList = 0) := by
          show _ = _
          rw [HV.out, HI.out, HD.out]
          simp only [Pa.digs, Pa.digit, if_pos hbad, Option.bind_none]
        rcases hbad with hbad | hbad | hbad
        · have b1 : (u[k].toNat : Int) < 48 := by omega
          go_wp2
          all_goals (go_ret; exact ⟨ret_int (by rw [HZ.out]), rfl⟩)
        · have b1 : (57 : Int) < (u[k].toNat : Int) := by omega
          go_wp2
          all_goals (go_ret; exact ⟨ret_int (by rw [HZ.out]), rfl⟩)
        · have b1 : (4294967296 : Int) < (n : Int) := by omega
          go_wp2
          all_goals (go_ret; exact ⟨ret_int (by rw [HZ.out]), rfl⟩)
      · have b1 : (48 : Int) ≤ (u[k].toNat : Int) := by omega
        have b2 : (u[k].toNat : Int) ≤ 57 := by omega
        have b3 : (n : Int) ≤ 4294967296 := by omega
        have HN : Hid (Pa.digs 0 u.data.toList = Pa.digs (10 * n + (u[k].toNat - 48)) (u.data.toList.drop (k + 1))) := by
          show _ = _
          rw [HI.out, HD.out]
          simp only [Pa.digs, Pa.digit, if_neg hbad, Option.bind_some]
        have HB : Hid (¬ (u[k].toNat < 48 ∨ 57 < u[k].toNat ∨ 4294967296 < n)) := hbad
        clear hbad
        go_wp2
        go_round
        case rel => exact ⟨k + 1, 10 * n + (u[k].toNat - 48), by omega, by go_num, by have := HB.out; congr 1; omega, by have := HB.out; omega, HN⟩
        case measure => simp [intOf]; omega
    · have he : k = u.size := by omega
      have HZ : Hid (Pa.value s.data.toList = 1 * (n : Int)) := by
        show _ = _
        rw [HV.out, HI.out, List.drop_of_length_le (by rw [HL.out]; omega)]
        try rfl
      subst he
      go_wp2
      go_ret
      exact ⟨ret_int (by rw [HZ.out]; omega), rfl⟩
set_option maxRecDepth 100000 in
set_option maxHeartbeats 8000000 in
theorem value_xmin (s : ByteArray) (hs : 0 < s.size) (hm : s.size ≤ 90000) (h1 : s[0] = 120) (w : World) : ∀ u, s.extract 1 s.size = u → (hu0 : 0 < u.size) → u[0] = 45 → Calls Tryd.prog 62 #[.string s] w fun e w' => e = .returned (.int .i64 (Pa.value s.data.toList)) ∧ w = w' := by
  intro u hu hu0 h2
  obtain ⟨r, er, et, es⟩ := tail_list s hs
  have c1 : ((s[0].toNat : Int) == 120) = true := by
    rw [beq_iff_eq]; rw [h1]; rfl
  rw [hu] at et es
  have e1 : Pa.noX s.data.toList = u.data.toList := by rw [er, et]; simp [Pa.noX, h1]
  obtain ⟨q, eq, ev, ez⟩ := tail_list u hu0
  obtain ⟨v, hv⟩ : ∃ v, u.extract 1 u.size = v := ⟨_, rfl⟩
  rw [hv] at ev ez
  have HV : Hid (Pa.value s.data.toList = match Pa.digs 0 v.data.toList with | some n => -1 * (n : Int) | none => 0) := by
    show _ = _
    have e2 : Pa.noMinus u.data.toList = v.data.toList := by rw [eq, ev]; simp [Pa.noMinus, h2]
    have e3 : Pa.signOf u.data.toList = -1 := by rw [eq]; simp [Pa.signOf, h2]
    unfold Pa.value
    rw [e1, e2, e3]
    cases Pa.digs 0 v.data.toList <;> rfl
  have c2 : ((u[0].toNat : Int) == 45) = true := by rw [beq_iff_eq, h2]; rfl
  have h0 : (0 : Int) < (s.size : Int) := by omega
  have h00 : (0 : Int) < (u.size : Int) := by omega
  have hz : v.size ≤ 90000 := by omega
  clear er h1 h2 et e1 eq ev es ez hm
  go_enter Tryd.func62, Tryd.ntmps62
  go_wp2
  have hb0 : v.size ≤ 90000 := by omega
  have HL : Hid (v.data.toList.length = v.size) := Lib.hid (by rw [Array.length_toList]; rfl)
  go_loop [4, 5] (fun s4 s5 => ∃ k n : Nat, k ≤ v.size ∧ s5 = .int .i64 k ∧ s4 = .int .i64 n ∧ n ≤ 42949672969 ∧ Hid (Pa.digs 0 v.data.toList = Pa.digs n (v.data.toList.drop k))) (fun _ s5 => v.size - (intOf s5).toNat)
  case atStart => exact ⟨0, 0, by omega, rfl, rfl, by omega, Lib.hid rfl⟩
  case round =>
    obtain ⟨k, n, hk, rfl, rfl, hn, HI⟩ := hrel
    by_cases hlt : k < v.size
    · have HD : Hid (v.data.toList.drop k = v[k] :: v.data.toList.drop (k + 1)) := by
        show _ = _
        rw [List.drop_eq_getElem_cons (by rw [HL.out]; exact hlt)]
        rfl
      by_cases hbad : v[k].toNat < 48 ∨ 57 < v[k].toNat ∨ 4294967296 < n
      · have HZ : Hid (Pa.value s.data.toList = 0) := by
          show _ = _
          rw [HV.out, HI.out, HD.out]
          simp only [Pa.digs, Pa.digit, if_pos hbad, Option.bind_none]
        rcases hbad with hbad | hbad | hbad
        · have b1 : (v[k].toNat : Int) < 48 := by omega
          go_wp2
          all_goals (go_ret; exact ⟨ret_int (by rw [HZ.out]), rfl⟩)
        · have b1 : (57 : Int) < (v[k].toNat : Int) := by omega
          go_wp2
          all_goals (go_ret; exact ⟨ret_int (by rw [HZ.out]), rfl⟩)
        · have b1 : (4294967296 : Int) < (n : Int) := by omega
          go_wp2
          all_goals (go_ret; exact ⟨ret_int (by rw [HZ.out]), rfl⟩)
      · have b1 : (48 : Int) ≤ (v[k].toNat : Int) := by omega
        have b2 : (v[k].toNat : Int) ≤ 57 := by omega
        have b3 : (n : Int) ≤ 4294967296 := by omega
        have HN : Hid (Pa.digs 0 v.data.toList = Pa.digs (10 * n + (v[k].toNat - 48)) (v.data.toList.drop (k + 1))) := by
          show _ = _
          rw [HI.out, HD.out]
          simp only [Pa.digs, Pa.digit, if_neg hbad, Option.bind_some]
        have HB : Hid (¬ (v[k].toNat < 48 ∨ 57 < v[k].toNat ∨ 4294967296 < n)) := hbad
        clear hbad
        go_wp2
        go_round
        case rel => exact ⟨k + 1, 10 * n + (v[k].toNat - 48), by omega, by go_num, by have := HB.out; congr 1; omega, by have := HB.out; omega, HN⟩
        case measure => simp [intOf]; omega
    · have he : k = v.size := by omega
      have HZ : Hid (Pa.value s.data.toList = -1 * (n : Int)) := by
        show _ = _
        rw [HV.out, HI.out, List.drop_of_length_le (by rw [HL.out]; omega)]
        try rfl
      subst he
      go_wp2
      go_ret
      exact ⟨ret_int (by rw [HZ.out]; omega), rfl⟩
theorem value_any (s : ByteArray) (hm : s.size ≤ 90000) (w : World) : Calls Tryd.prog 62 #[.string s] w fun e w' => e = .returned (.int .i64 (Pa.value s.data.toList)) ∧ w = w' := by
  by_cases h0 : s.size = 0
  · exact value_nil s h0 w
  · have hs : 0 < s.size := by omega
    by_cases h1 : s[0] = 120
    · obtain ⟨r, -, -, es⟩ := tail_list s hs
      by_cases hz : s.size = 1
      · exact value_xnil s hs hm h1 hz w
      · have hu0 : 0 < (s.extract 1 s.size).size := by omega
        by_cases h2 : (s.extract 1 s.size)[0] = 45
        · exact value_xmin s hs hm h1 w _ rfl hu0 h2
        · exact value_xno s hs hm h1 w _ rfl hu0 h2
    · by_cases h2 : s[0] = 45
      · exact value_min s hs hm h1 h2 w
      · exact value_no s hs hm h1 h2 w
end Go.Proofs.YthiaaagoccpkcaaDoor

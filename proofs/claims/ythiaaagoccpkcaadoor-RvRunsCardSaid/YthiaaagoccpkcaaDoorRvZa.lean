/- List, both; SameList. -/
import Derived.Test.YthiaaagoccpkcaaDoorRvZ
namespace Go.Proofs.YthiaaagoccpkcaaDoor
set_option linter.unusedSimpArgs false
set_option linter.unusedVariables false
open Go.RowKit

/-- One instruction more. -/
theorem appV {w : World} {ops : Array Oper} {rest : List Oper} {o : Oper} {a : Act} {Q : Exit → Act → World → Prop} {B : Nat}
    (hgd : o.guard = none) (s x : Operand) (ho : o.op = .call { callee := .builtin .append, args := #[s, x], argTypes := #[34, 34] })
    {v : Value} {L : List RvI} (hs : a.eval s = v) (hown : OwnV B w v L) (y : RvI) {e' : TypeId} (hx : a.eval x = .slice (some ⟨w.heap.size, 0, none⟩) 1 1) (hlt : L.length < 1099511627776) (hB : B ≤ w.heap.size)
    (h : ∀ A c w', OwnV B w' (.slice A (L.length + 1) c) (L ++ [y]) → Below B w w' → wpList Tryd.prog ops Q rest (a.put o.dst (.slice A (L.length + 1) c)) w') :
    wpList Tryd.prog ops Q (o :: rest) a (w.alloc (.cells #[.int .i64 y.op, .int .i64 y.d, .int .i64 y.a, .int .i64 y.b, .int .i64 y.imm] e')) := by
  obtain ⟨i0, hi, hz0, hz1, hz2⟩ := info_parts infoRV
  refine wpList_append_src hgd s x 34 ho B 23 i0 _ 5 40 Tryd.underlying34 hi hz0 hz1 hz2 rfl (by omega) v L.length (L.flatMap rvCells) hs (own_gr hown ((Gr.refl _).alloc _)) _ 1 (rvCells y) hx (Src.newN w (rvCells y) e') ?_ ?_ ?_ ?_ ?_
  · intro u hu; simp [rvCells] at hu; rcases hu with rfl | rfl | rfl | rfl | rfl <;> rfl
  · simp only [maxLen]; omega
  · omega
  · simp; omega
  · intro v' w' hown' hg _
    have hown'' : OwnV B w' v' (L ++ [y]) := by
      unfold OwnV
      rw [List.length_append, List.flatMap_append]
      simpa using hown'
    obtain ⟨A, c, hv⟩ := hown''.form
    rw [List.length_append] at hv
    subst hv
    refine h A c w' hown'' ?_
    exact (((Below.refl B w).alloc hB _)).grown hg (by simp; omega) (fun k hk => (own_block_lt hown k hk).1)
theorem lsFrom_step (bs : List Int) (k : Nat) (F : Nat) (hF : 0 < F) (hi : 4 * k + 4 ≤ bs.length) : Rv.lsFrom bs F (4 * k) = match Rv.decode (Rv.rd bs (4 * k) 4) with
    | some x => x :: Rv.lsFrom bs (F - 1) (4 * (k + 1))
    | none => [] := by
  cases F with
  | zero => omega
  | succ F =>
    have e : Rv.lsFrom bs (F + 1) (4 * k) = if 4 * k + 4 ≤ bs.length then (match Rv.decode (Rv.rd bs (4 * k) 4) with | some x => x :: Rv.lsFrom bs F (4 * k + 4) | none => []) else [] := rfl
    rw [e, if_pos hi]
    rfl
theorem lsFrom_end (bs : List Int) (k : Nat) (F : Nat) (hi : ¬ 4 * k + 4 ≤ bs.length) : Rv.lsFrom bs F (4 * k) = [] := by
  cases F with
  | zero => rfl
  | succ F => unfold Rv.lsFrom; rw [if_neg hi]
theorem OwnV.base {B B' : Nat} {w : World} {v : Value} {L : List RvI} (h : OwnV B w v L) (hB : B' ≤ B) : OwnV B' w v L := by
  obtain ⟨h1, h2⟩ := h
  refine ⟨h1, ?_⟩
  rcases h2 with h2 | ⟨g, cap, cur, hv, hb, r⟩
  · exact .inl h2
  · exact .inr ⟨g, cap, cur, hv, Nat.le_trans hB hb, r⟩
/-- What List hands back. -/
def ListRet (w : World) (bs : List Int) (e : Ending) (w' : World) : Prop :=
  ∃ A c, e = .returned (.tuple #[.slice A (Rv.listOf bs).length c, .int .i64 ((4 * (Rv.listOf bs).length : Nat) : Int)]) ∧ OwnV w.heap.size w' (.slice A (Rv.listOf bs).length c) (Rv.listOf bs) ∧ Gr w w'

theorem list_ret {w wr : World} {bs : List Int} {pre : List RvI} {k : Nat} {A : Option Addr} {c : Nat} (hp : pre.length = k) (he : Rv.listOf bs = pre) (ho : OwnV w.heap.size wr (.slice A k c) pre) (hg : Gr w wr) :
    ListRet w bs (.returned (.tuple #[.slice A k c, .int .i64 ((4 * k : Nat) : Int)])) wr := by
  subst hp
  rw [← he] at ho ⊢
  exact ⟨A, c, rfl, ho, hg⟩

set_option maxRecDepth 100000 in
set_option maxHeartbeats 8000000 in
theorem pList_any (v : Value) (bs : List Int) (w : World) (hv : BytesAt w v bs) (hn : bs.length ≤ 100000) : Calls Tryd.prog 21 #[v] w (ListRet w bs) := by
  have HND : Hid (∀ w1, Calls Tryd.prog 45 #[] w1 fun e w' => ∃ B, e = .returned (.map (some B)) ∧ Hid (DecAt w' B) ∧ Gr w1 w') := fun w1 => (newDecoder_any w1).mono fun _ _ ⟨q1, q2, q3⟩ => ⟨_, q1, q2, q3⟩
  have HW : Hid (∀ i, i + 4 ≤ bs.length → ∀ w1, Gr w w1 → Calls Tryd.prog 49 #[v, .int .i64 (i : Nat)] w1 fun e w' => e = .returned (.int .u32 (Rv.rd bs i 4)) ∧ Gr w1 w') := fun i hi w1 g => wordAt_any v bs i w1 (hv.gr g) hi
  have HDE : Hid (∀ x, 0 ≤ x → x < 4294967296 → ∀ B w1, DecAt w1 B → Calls Tryd.prog 46 #[.map (some B), .int .u32 x] w1 fun e w' => e = .returned (decV (Rv.decode x)) ∧ Gr w1 w') := fun x h0 h1 B w1 hD => decode_any x h0 h1 B w1 hD
  have HIN : Hid (∀ i, 0 ≤ Rv.rd bs i 4 ∧ Rv.rd bs i 4 < 4294967296) := fun i => Rv.rd4_in hv.1 i
  obtain ⟨A0, c0, rfl, -⟩ := hv.2
  have HLO : Hid (Rv.listOf bs = [] ++ Rv.lsFrom bs (bs.length + 1) (4 * 0)) := by show _ = _; rfl
  have hl : (bs.length : Int) ≤ 9223372036854775807 := by omega
  have HN := Lib.hid hn
  obtain ⟨n, hn'⟩ : ∃ n, bs.length = n := ⟨_, rfl⟩
  have HBL := Lib.hid hn'
  rw [hn'] at hl HW
  clear hv hn
  rw [hn']
  rw [hn'] at HN HLO
  clear hn'
  go_enter Tryd.func21, Tryd.ntmps21
  go_wp2_with (go_at_call 45; refine (HND.out _).mono ?_; rintro e w1 ⟨B, rfl, HD, g1⟩)
  have HG1 := Lib.hid g1
  clear g1
  go_loopw [5, 6] (fun s i wr => ∃ (k : Nat) (pre : List RvI) (A : Option Addr) (c : Nat), 4 * k ≤ n ∧ i = .int .i64 ((4 * k : Nat) : Int) ∧ s = .slice A k c ∧ Hid (pre.length = k ∧ OwnV w1.heap.size wr (.slice A k c) pre ∧ Gr w1 wr ∧ Rv.listOf bs = pre ++ Rv.lsFrom bs (n + 1 - k) (4 * k))) (fun _ i _ => n + 4 - (intOf i).toNat)
  case atStart => exact ⟨0, [], none, 0, by omega, rfl, rfl, Lib.hid ⟨rfl, OwnV.nil _ _, Gr.refl _, HLO.out⟩⟩
  case round =>
    obtain ⟨k, pre, A, c, hk, rfl, rfl, HI⟩ := hrel
    by_cases hlt : 4 * k + 4 ≤ n
    · have hlt' : ((4 * k : Nat) : Int) + 4 ≤ (n : Int) := by omega
      have HW1 := Lib.hid (HW.out (4 * k) hlt)
      have hin := HIN.out (4 * k)
      have HST := Lib.hid (lsFrom_step bs k (n + 1 - k) (by omega) (by rw [HBL.out]; exact hlt))
      have HDW := Lib.hid (HDE.out _ hin.1 hin.2)
      have HKN : Hid (k < 1099511627776) := by have := HN.out; show _ < _; omega
      obtain ⟨N, hN⟩ : ∃ N, Rv.rd bs (4 * k) 4 = N := ⟨_, rfl⟩
      rw [hN] at HW1 HST HDW
      clear hin hN
      obtain ⟨m, hm⟩ : ∃ m : Nat, 4 * k = m := ⟨_, rfl⟩
      have HM := Lib.hid hm
      rw [hm] at hlt hlt' HW1
      cases hd : Rv.decode N with
      | some y =>
        rw [hd] at HDW HST
        obtain ⟨y0, y1, y2, y3, y4⟩ := y
        unfold decV rvVal at HDW
        simp only [Option.getD_some, Option.isSome_some] at HDW
        dsimp only at HST
        rw [hm]
        clear hd hm
        go_wp2_with (first
          | (go_at_call 49; refine (HW1.out _ (HG1.out.trans HI.out.2.2.1)).mono ?_; rintro e w2 ⟨rfl, g2⟩)
          | (go_at_call 46; refine (HDW.out _ _ (HD.out.gr (HI.out.2.2.1.trans g2))).mono ?_; rintro e w3 ⟨rfl, g3⟩; have G3 : Hid (Gr wr w3) := g2.trans g3)
          | (at_builtin; refine appV rfl _ _ rfl rfl (L := pre) ((HI.out.2.1).gr (G3.out.alloc _)) ⟨y0, y1, y2, y3, y4⟩ (by simp [Act.eval]) (by rw [HI.out.1]; exact HKN.out) (HI.out.2.2.1.trans (G3.out.alloc _)).size ?_; rw [HI.out.1]; intro A' c' w4 hown4 hb4; have HO4 := Lib.hid hown4; have GR4 : Hid (Gr w1 w4) := Gr.below (HI.out.2.2.1.trans (G3.out.alloc _)) hb4 (Nat.le_refl _); clear hown4))
        go_roundw
        case rel => exact ⟨k + 1, pre ++ [⟨y0, y1, y2, y3, y4⟩], A', c', by have h := HM.out; omega, by have h := HM.out; show Value.int _ _ = Value.int _ _; congr 1; omega, rfl, Lib.hid ⟨by rw [List.length_append, HI.out.1]; rfl, HO4.out, GR4.out, by rw [HI.out.2.2.2, HST.out, List.append_assoc]; rfl⟩⟩
        case measure => simp [intOf]; omega
      | none =>
        rw [hd] at HDW HST
        unfold decV rvVal at HDW
        simp only [Option.getD_none, Option.isSome_none, rv0] at HDW
        dsimp only at HST
        rw [hm]
        clear hd hm
        go_wp2_with (first
          | (go_at_call 49; refine (HW1.out _ (HG1.out.trans HI.out.2.2.1)).mono ?_; rintro e w2 ⟨rfl, g2⟩)
          | (go_at_call 46; refine (HDW.out _ _ (HD.out.gr (HI.out.2.2.1.trans g2))).mono ?_; rintro e w3 ⟨rfl, g3⟩; have G3 : Hid (Gr wr w3) := g2.trans g3))
        go_ret2
        rw [← HM.out]
        exact list_ret HI.out.1 (by rw [HI.out.2.2.2, HST.out, List.append_nil]) ((HI.out.2.1.gr (G3.out.alloc _)).base HG1.out.size) ((HG1.out.trans HI.out.2.2.1).trans (G3.out.alloc _))
    · have HST := Lib.hid (lsFrom_end bs k (n + 1 - k) (by rw [HBL.out]; exact hlt))
      obtain ⟨m, hm⟩ : ∃ m : Nat, 4 * k = m := ⟨_, rfl⟩
      have HM := Lib.hid hm
      have hle : decide ((m : Int) + 4 ≤ (n : Int)) = false := by rw [decide_eq_false_iff_not]; omega
      have hmn : (m : Int) ≤ 100000 := by have h := HN.out; omega
      rw [hm]
      clear hlt hm
      go_wp2
      go_ret2
      rw [← HM.out]
      exact list_ret HI.out.1 (by rw [HI.out.2.2.2, HST.out, List.append_nil]) (HI.out.2.1.base HG1.out.size) (HG1.out.trans HI.out.2.2.1)
set_option maxRecDepth 100000 in
set_option maxHeartbeats 8000000 in
theorem rList_any (v : Value) (bs : List Int) (w : World) (hv : BytesAt w v bs) (hn : bs.length ≤ 100000) : Calls Tryd.prog 23 #[v] w (ListRet w bs) := by
  have HW : Hid (∀ i, i + 4 ≤ bs.length → ∀ w1, Gr w w1 → Calls Tryd.prog 50 #[v, .int .i64 (i : Nat), .int .i64 4] w1 fun e w' => e = .returned (.int .u32 (Rv.rd bs i 4)) ∧ w1 = w') := fun i hi w1 g => read_any v bs i 4 w1 (hv.gr g) hi (by omega) (by omega)
  have HDE : Hid (∀ x, 0 ≤ x → x < 4294967296 → ∀ w1, Calls Tryd.prog 18 #[.int .u32 x] w1 fun e w' => e = .returned (decV (Rv.decode x)) ∧ Gr w1 w') := fun x h0 h1 w1 => rDecode_any x h0 h1 w1
  have HIN : Hid (∀ i, 0 ≤ Rv.rd bs i 4 ∧ Rv.rd bs i 4 < 4294967296) := fun i => Rv.rd4_in hv.1 i
  obtain ⟨A0, c0, rfl, -⟩ := hv.2
  have HLO : Hid (Rv.listOf bs = [] ++ Rv.lsFrom bs (bs.length + 1) (4 * 0)) := by show _ = _; rfl
  have hl : (bs.length : Int) ≤ 9223372036854775807 := by omega
  have HN := Lib.hid hn
  obtain ⟨n, hn'⟩ : ∃ n, bs.length = n := ⟨_, rfl⟩
  have HBL := Lib.hid hn'
  rw [hn'] at hl HW
  clear hv hn
  rw [hn']
  rw [hn'] at HN HLO
  clear hn'
  go_enter Tryd.func23, Tryd.ntmps23
  go_wp2
  go_loopw [4, 5] (fun s i wr => ∃ (k : Nat) (pre : List RvI) (A : Option Addr) (c : Nat), 4 * k ≤ n ∧ i = .int .i64 ((4 * k : Nat) : Int) ∧ s = .slice A k c ∧ Hid (pre.length = k ∧ OwnV w.heap.size wr (.slice A k c) pre ∧ Gr w wr ∧ Rv.listOf bs = pre ++ Rv.lsFrom bs (n + 1 - k) (4 * k))) (fun _ i _ => n + 4 - (intOf i).toNat)
  case atStart => exact ⟨0, [], none, 0, by omega, rfl, rfl, Lib.hid ⟨rfl, OwnV.nil _ _, Gr.refl _, HLO.out⟩⟩
  case round =>
    obtain ⟨k, pre, A, c, hk, rfl, rfl, HI⟩ := hrel
    by_cases hlt : 4 * k + 4 ≤ n
    · have hlt' : ((4 * k : Nat) : Int) + 4 ≤ (n : Int) := by omega
      have HW1 := Lib.hid (HW.out (4 * k) hlt)
      have hin := HIN.out (4 * k)
      have HST := Lib.hid (lsFrom_step bs k (n + 1 - k) (by omega) (by rw [HBL.out]; exact hlt))
      have HDW := Lib.hid (HDE.out _ hin.1 hin.2)
      have HKN : Hid (k < 1099511627776) := by have := HN.out; show _ < _; omega
      obtain ⟨N, hN⟩ : ∃ N, Rv.rd bs (4 * k) 4 = N := ⟨_, rfl⟩
      rw [hN] at HW1 HST HDW
      clear hin hN
      obtain ⟨m, hm⟩ : ∃ m : Nat, 4 * k = m := ⟨_, rfl⟩
      have HM := Lib.hid hm
      rw [hm] at hlt hlt' HW1
      cases hd : Rv.decode N with
      | some y =>
        rw [hd] at HDW HST
        obtain ⟨y0, y1, y2, y3, y4⟩ := y
        unfold decV rvVal at HDW
        simp only [Option.getD_some, Option.isSome_some] at HDW
        dsimp only at HST
        rw [hm]
        clear hd hm
        go_wp2_with (first
          | (go_at_call 50; refine (HW1.out _ HI.out.2.2.1).mono ?_; rintro e w2 ⟨rfl, rfl⟩)
          | (go_at_call 18; refine (HDW.out _).mono ?_; rintro e w3 ⟨rfl, g3⟩; have G3 := Lib.hid g3)
          | (at_builtin; refine appV rfl _ _ rfl rfl (L := pre) ((HI.out.2.1).gr (G3.out.alloc _)) ⟨y0, y1, y2, y3, y4⟩ (by simp [Act.eval]) (by rw [HI.out.1]; exact HKN.out) (HI.out.2.2.1.trans (G3.out.alloc _)).size ?_; rw [HI.out.1]; intro A' c' w4 hown4 hb4; have HO4 := Lib.hid hown4; have GR4 : Hid (Gr w w4) := Gr.below (HI.out.2.2.1.trans (G3.out.alloc _)) hb4 (Nat.le_refl _); clear hown4))
        go_roundw
        case rel => exact ⟨k + 1, pre ++ [⟨y0, y1, y2, y3, y4⟩], A', c', by have h := HM.out; omega, by have h := HM.out; show Value.int _ _ = Value.int _ _; congr 1; omega, rfl, Lib.hid ⟨by rw [List.length_append, HI.out.1]; rfl, HO4.out, GR4.out, by rw [HI.out.2.2.2, HST.out, List.append_assoc]; rfl⟩⟩
        case measure => simp [intOf]; omega
      | none =>
        rw [hd] at HDW HST
        unfold decV rvVal at HDW
        simp only [Option.getD_none, Option.isSome_none, rv0] at HDW
        dsimp only at HST
        rw [hm]
        clear hd hm
        go_wp2_with (first
          | (go_at_call 50; refine (HW1.out _ HI.out.2.2.1).mono ?_; rintro e w2 ⟨rfl, rfl⟩)
          | (go_at_call 18; refine (HDW.out _).mono ?_; rintro e w3 ⟨rfl, g3⟩; have G3 := Lib.hid g3))
        go_ret2
        rw [← HM.out]
        exact list_ret HI.out.1 (by rw [HI.out.2.2.2, HST.out, List.append_nil]) ((HI.out.2.1.gr (G3.out.alloc _))) ((HI.out.2.2.1).trans (G3.out.alloc _))
    · have HST := Lib.hid (lsFrom_end bs k (n + 1 - k) (by rw [HBL.out]; exact hlt))
      obtain ⟨m, hm⟩ : ∃ m : Nat, 4 * k = m := ⟨_, rfl⟩
      have HM := Lib.hid hm
      have hle : decide ((m : Int) + 4 ≤ (n : Int)) = false := by rw [decide_eq_false_iff_not]; omega
      have hmn : (m : Int) ≤ 100000 := by have h := HN.out; omega
      rw [hm]
      clear hlt hm
      go_wp2
      go_ret2
      rw [← HM.out]
      exact list_ret HI.out.1 (by rw [HI.out.2.2.2, HST.out, List.append_nil]) (HI.out.2.1) (HI.out.2.2.1)
end Go.Proofs.YthiaaagoccpkcaaDoor

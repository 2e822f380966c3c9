import Derived.Test.YtiadpjhlomhjeaaIrC
import Derived.Test.YtiadpjhlomhjeaaOwnB
import Derived.Test.YtiadpjhlomhjeaaRefE
import Derived.Deep.WholeRow
namespace Go.Proofs.Ytiadpjhlomhjeaa
open Go.RowKit

/-- A set of nodes, by value: ten bools. -/
def nv (bs : List Bool) : Value := .agg (bs.map Value.bool).toArray
theorem ten {α : Type} (bs : List α) (h : bs.length = 10) : ∃ a b c d e f g i j k, bs = [a, b, c, d, e, f, g, i, j, k] := by
  match bs, h with
  | [a, b, c, d, e, f, g, i, j, k], _ => exact ⟨a, b, c, d, e, f, g, i, j, k, rfl⟩
namespace Ir
/-- The places of the true ones, counted from k. -/
def listFrom : List Bool → Nat → List Int
  | [], _ => []
  | b :: r, k => if b then (k : Int) :: listFrom r (k + 1) else listFrom r (k + 1)
def beforeBits (g : List (List Int)) (z : Int) (n : Nat) : List Bool := (List.range 10).map fun a => decide (a < n) && Ref.has (g.getD a []) z
end Ir
theorem listFrom_len : ∀ (bs : List Bool) (k : Nat), (Ir.listFrom bs k).length ≤ bs.length
  | [], _ => Nat.le_refl _
  | b :: r, k => by
    rw [Ir.listFrom]; have := listFrom_len r (k + 1)
    split <;> simp <;> omega

theorem idx0 (a0 a1 a2 a3 a4 a5 a6 a7 a8 a9 : Bool) (w : World) : (Instr.index 103 (Value.agg #[Value.bool a0, Value.bool a1, Value.bool a2, Value.bool a3, Value.bool a4, Value.bool a5, Value.bool a6, Value.bool a7, Value.bool a8, Value.bool a9]) (.int .i64 0)).run Try.prog w = .ok (.bool a0) w := by kernel_rfl
theorem idx1 (a0 a1 a2 a3 a4 a5 a6 a7 a8 a9 : Bool) (w : World) : (Instr.index 103 (Value.agg #[Value.bool a0, Value.bool a1, Value.bool a2, Value.bool a3, Value.bool a4, Value.bool a5, Value.bool a6, Value.bool a7, Value.bool a8, Value.bool a9]) (.int .i64 1)).run Try.prog w = .ok (.bool a1) w := by kernel_rfl
theorem idx2 (a0 a1 a2 a3 a4 a5 a6 a7 a8 a9 : Bool) (w : World) : (Instr.index 103 (Value.agg #[Value.bool a0, Value.bool a1, Value.bool a2, Value.bool a3, Value.bool a4, Value.bool a5, Value.bool a6, Value.bool a7, Value.bool a8, Value.bool a9]) (.int .i64 2)).run Try.prog w = .ok (.bool a2) w := by kernel_rfl
theorem idx3 (a0 a1 a2 a3 a4 a5 a6 a7 a8 a9 : Bool) (w : World) : (Instr.index 103 (Value.agg #[Value.bool a0, Value.bool a1, Value.bool a2, Value.bool a3, Value.bool a4, Value.bool a5, Value.bool a6, Value.bool a7, Value.bool a8, Value.bool a9]) (.int .i64 3)).run Try.prog w = .ok (.bool a3) w := by kernel_rfl
theorem idx4 (a0 a1 a2 a3 a4 a5 a6 a7 a8 a9 : Bool) (w : World) : (Instr.index 103 (Value.agg #[Value.bool a0, Value.bool a1, Value.bool a2, Value.bool a3, Value.bool a4, Value.bool a5, Value.bool a6, Value.bool a7, Value.bool a8, Value.bool a9]) (.int .i64 4)).run Try.prog w = .ok (.bool a4) w := by kernel_rfl
theorem idx5 (a0 a1 a2 a3 a4 a5 a6 a7 a8 a9 : Bool) (w : World) : (Instr.index 103 (Value.agg #[Value.bool a0, Value.bool a1, Value.bool a2, Value.bool a3, Value.bool a4, Value.bool a5, Value.bool a6, Value.bool a7, Value.bool a8, Value.bool a9]) (.int .i64 5)).run Try.prog w = .ok (.bool a5) w := by kernel_rfl
theorem idx6 (a0 a1 a2 a3 a4 a5 a6 a7 a8 a9 : Bool) (w : World) : (Instr.index 103 (Value.agg #[Value.bool a0, Value.bool a1, Value.bool a2, Value.bool a3, Value.bool a4, Value.bool a5, Value.bool a6, Value.bool a7, Value.bool a8, Value.bool a9]) (.int .i64 6)).run Try.prog w = .ok (.bool a6) w := by kernel_rfl
theorem idx7 (a0 a1 a2 a3 a4 a5 a6 a7 a8 a9 : Bool) (w : World) : (Instr.index 103 (Value.agg #[Value.bool a0, Value.bool a1, Value.bool a2, Value.bool a3, Value.bool a4, Value.bool a5, Value.bool a6, Value.bool a7, Value.bool a8, Value.bool a9]) (.int .i64 7)).run Try.prog w = .ok (.bool a7) w := by kernel_rfl
theorem idx8 (a0 a1 a2 a3 a4 a5 a6 a7 a8 a9 : Bool) (w : World) : (Instr.index 103 (Value.agg #[Value.bool a0, Value.bool a1, Value.bool a2, Value.bool a3, Value.bool a4, Value.bool a5, Value.bool a6, Value.bool a7, Value.bool a8, Value.bool a9]) (.int .i64 8)).run Try.prog w = .ok (.bool a8) w := by kernel_rfl
theorem idx9 (a0 a1 a2 a3 a4 a5 a6 a7 a8 a9 : Bool) (w : World) : (Instr.index 103 (Value.agg #[Value.bool a0, Value.bool a1, Value.bool a2, Value.bool a3, Value.bool a4, Value.bool a5, Value.bool a6, Value.bool a7, Value.bool a8, Value.bool a9]) (.int .i64 9)).run Try.prog w = .ok (.bool a9) w := by kernel_rfl
theorem index_ten (bs : List Bool) (h : bs.length = 10) (k : Nat) (b : Bool) (hb : bs[k]? = some b) (w : World) : (Instr.index 103 (nv bs) (.int .i64 (k : Int))).run Try.prog w = .ok (.bool b) w := by
  obtain ⟨a0, a1, a2, a3, a4, a5, a6, a7, a8, a9, rfl⟩ := ten bs h
  have hk : k < 10 := by have := (List.getElem?_eq_some_iff.1 hb).1; simpa using this
  rcases (by omega : k = 0 ∨ k = 1 ∨ k = 2 ∨ k = 3 ∨ k = 4 ∨ k = 5 ∨ k = 6 ∨ k = 7 ∨ k = 8 ∨ k = 9) with rfl | rfl | rfl | rfl | rfl | rfl | rfl | rfl | rfl | rfl
  all_goals (simp at hb; subst hb)
  · exact idx0 _ _ _ _ _ _ _ _ _ _ w
  · exact idx1 _ _ _ _ _ _ _ _ _ _ w
  · exact idx2 _ _ _ _ _ _ _ _ _ _ w
  · exact idx3 _ _ _ _ _ _ _ _ _ _ w
  · exact idx4 _ _ _ _ _ _ _ _ _ _ w
  · exact idx5 _ _ _ _ _ _ _ _ _ _ w
  · exact idx6 _ _ _ _ _ _ _ _ _ _ w
  · exact idx7 _ _ _ _ _ _ _ _ _ _ w
  · exact idx8 _ _ _ _ _ _ _ _ _ _ w
  · exact idx9 _ _ _ _ _ _ _ _ _ _ w

set_option maxRecDepth 10000 in
set_option maxHeartbeats 4000000 in
theorem list_any (bs : List Bool) (hb : bs.length = 10) (w : World) :
    Calls Try.prog 90 #[nv bs] w fun e w' => ∃ v, e = .returned v ∧ IntsAt w'.heap.size w' v (Ir.listFrom bs 0) ∧ Gr w w' := by
  obtain ⟨i0, hi, hz0, hz1, hz2⟩ := info_parts info_int
  have HL : Hid (∀ k, k < 10 → ∃ b, bs[k]? = some b) := fun k hk => ⟨bs[k]'(by omega), by simp [show k < bs.length by omega]⟩
  have HB : Hid (bs.length = 10) := hb
  have HO : Hid (Ir.listFrom bs 0 = [] ++ Ir.listFrom (bs.drop 0) 0) := rfl
  obtain ⟨out, hout⟩ : ∃ out, Ir.listFrom bs 0 = out := ⟨_, rfl⟩
  rw [hout] at HO ⊢
  have HOL : Hid (out.length ≤ 10) := by rw [← hout]; show _ ≤ 10; have := listFrom_len bs 0; omega
  clear hout
  obtain ⟨a0, a1, a2, a3, a4, a5, a6, a7, a8, a9, hbs⟩ := ten bs hb
  have HBS := Lib.hid hbs
  rw [show nv bs = .agg #[Value.bool a0, Value.bool a1, Value.bool a2, Value.bool a3, Value.bool a4, Value.bool a5, Value.bool a6, Value.bool a7, Value.bool a8, Value.bool a9] by rw [hbs]; rfl]
  clear hbs
  go_enter Try.func90, Try.ntmps90
  go_wp2
  have HIX : Hid (∀ (k : Nat) (b : Bool), bs[k]? = some b → ∀ w, (Instr.index 103 (Value.agg #[Value.bool a0, Value.bool a1, Value.bool a2, Value.bool a3, Value.bool a4, Value.bool a5, Value.bool a6, Value.bool a7, Value.bool a8, Value.bool a9]) (.int .i64 (k : Int))).run Try.prog w = .ok (.bool b) w) := by
    intro k b h w
    have := index_ten bs hb k b h w
    rw [HBS.out] at this
    exact this
  clear hb
  have hB0 : Gr w (w.alloc (.cells #[Value.bool a0, Value.bool a1, Value.bool a2, Value.bool a3, Value.bool a4, Value.bool a5, Value.bool a6, Value.bool a7, Value.bool a8, Value.bool a9] 103)) := (Gr.refl _).alloc _
  go_loopw [3, 4, 5, 7] (fun s _ _ i wr => ∃ (k : Nat) (done : List Int), k ≤ 10 ∧ i = .int .i64 k ∧ Own1 w.heap.size 3 wr s (done.map (Value.int .i64)) ∧ Gr w wr ∧ Hid (out = done ++ Ir.listFrom (bs.drop k) k)) (fun _ _ _ i _ => 10 - (intOf i).toNat)
  case atStart => exact ⟨0, [], Nat.zero_le _, rfl, Own1.nil _ _ _, hB0, HO⟩
  case round =>
    obtain ⟨k, done, hk, rfl, hown, hgr, hrest⟩ := hrel
    by_cases hlt : k < 10
    · obtain ⟨b, hb⟩ := HL.out k hlt
      have hx := HIX.out k b hb
      have HR : Hid (out = done ++ (if b then (k : Int) :: Ir.listFrom (bs.drop (k + 1)) (k + 1) else Ir.listFrom (bs.drop (k + 1)) (k + 1))) := by
        show _ = _
        rw [hrest.out]
        have e : bs.drop k = b :: bs.drop (k + 1) := by
          obtain ⟨h1, h2⟩ := List.getElem?_eq_some_iff.1 hb
          rw [List.drop_eq_getElem_cons h1, h2]
        rw [e]; rfl
      have hlen : done.length ≤ 10 := by have := HOL.out; have := congrArg List.length hrest.out; simp at this; omega
      clear hb hrest
      have hki : (k : Int) < 10 := by omega
      cases b with
      | true =>
        go_wp2_with (at_builtin; refine app1 Try.underlying22 hi hz0 hz1 hz2 rfl (by omega) rfl _ _ rfl rfl hown rfl rfl (by simp; omega) hgr.size ?_; intro A1 c1 w1 hown1 hb1 _)
        go_roundw
        case rel => exact ⟨k + 1, done ++ [(k : Int)], by omega, by go_num, by simpa using hown1, hgr.below hb1 (Nat.le_refl _), by (show _ = _; rw [HR.out]; simp)⟩
        case measure => simp [intOf]; omega
      | false =>
        go_wp2
        go_roundw
        case rel => exact ⟨k + 1, done, by omega, by go_num, hown, hgr, by (show _ = _; rw [HR.out]; simp)⟩
        case measure => simp [intOf]; omega
    · obtain rfl : k = 10 := by omega
      have HE : Hid (out = done) := by show _ = _; rw [hrest.out, show bs.drop 10 = [] by simp [HB.out]]; simp [Ir.listFrom]
      clear hrest
      go_wp2
      go_ret
      have hl : done.length ≤ 10 := by have := HOL.out; rw [HE.out] at this; exact this
      exact ⟨_, rfl, by rw [HE.out]; have := hown.ints (by omega); exact this, hgr⟩
end Go.Proofs.Ytiadpjhlomhjeaa

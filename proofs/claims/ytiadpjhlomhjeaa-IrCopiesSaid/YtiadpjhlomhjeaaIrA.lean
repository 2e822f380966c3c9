import Derived.Test.YtiadpjhlomhjeaaRefA
import Derived.Shelf.Abstract
namespace Go.Proofs.Ytiadpjhlomhjeaa
open Go.RowKit

namespace Ir
/-- The place of the first element of which p holds, counted from k; -1 if there is none. -/
def findI {α : Type} (p : α → Bool) : List α → Nat → Int
  | [], _ => -1
  | x :: r, k => if p x then k else findI p r (k + 1)
theorem findI_any {α : Type} (p : α → Bool) : ∀ (l : List α) (k : Nat), decide (0 ≤ findI p l k) = l.any p
  | [], k => by simp [findI]
  | x :: r, k => by
    rw [findI]
    cases h : p x
    · simp [h, findI_any p r (k + 1)]
    · simp [h]
def isNumber (n : Int) : Bool := decide (1 ≤ n) && decide (n ≤ 32)
theorem isNumber_eq (n : Int) : isNumber n = Ref.isWidth n := rfl
def isLast (n : Int) : Bool := decide (29 ≤ n) && decide (n ≤ 32)
theorem isLast_eq (n : Int) : isLast n = Ref.isLast n := by unfold isLast Ref.isLast; grind
def outside (n : Nat) (z : Int) : Bool := decide (z < 0) || decide ((n : Int) ≤ z)
end Ir

theorem isNumber_any (n : Int) (w : World) : Calls Try.prog 65 #[.int .i64 n] w fun e w' => e = .returned (.bool (Ref.isWidth n)) ∧ w = w' := by
  go_enter Try.func65, Try.ntmps65
  go_wp2
  all_goals go_ret
  all_goals exact ⟨ret_bool (by grind [Ref.isWidth]), rfl⟩
theorem bisWidth_any (n : Int) (w : World) : Calls Try.prog 98 #[.int .i64 n] w fun e w' => e = .returned (.bool (Ref.isWidth n)) ∧ w = w' := by
  go_enter Try.func98, Try.ntmps98
  go_wp2
  all_goals go_ret
  all_goals exact ⟨ret_bool (by grind [Ref.isWidth]), rfl⟩
theorem iisLast_any (n : Int) (w : World) : Calls Try.prog 71 #[.int .i64 n] w fun e w' => e = .returned (.bool (Ref.isLast n)) ∧ w = w' := by
  go_enter Try.func71, Try.ntmps71
  go_wp2
  all_goals go_ret
  all_goals exact ⟨ret_bool (by grind [Ref.isLast]), rfl⟩
theorem isMemory_any (n : Int) (w : World) : Calls Try.prog 76 #[.int .i64 n] w fun e w' => e = .returned (.bool (Ref.isMem n)) ∧ w = w' := by
  go_enter Try.func76, Try.ntmps76
  go_wp2
  all_goals go_ret
  all_goals exact ⟨ret_bool (by grind [Ref.isMem]), rfl⟩

/-- isHead's two closures. -/
theorem isHead1_any (n : Int) (w : World) : Calls Try.prog 64 #[.int .i64 n] w fun e w' => e = .returned (.bool (!Ref.isWidth n)) ∧ w = w' := by
  have C := Lib.hid (isNumber_any n w)
  go_enter Try.func64, Try.ntmps64
  go_wp2_with (go_at_call 65; refine C.out.mono ?_; rintro e w1 ⟨rfl, rfl⟩)
  go_ret
  exact ⟨rfl, rfl⟩
theorem isHead2_any (n : Int) (w : World) : Calls Try.prog 66 #[.int .i64 n] w fun e w' => e = .returned (.bool (!Ref.isSlot n)) ∧ w = w' := by
  go_enter Try.func66, Try.ntmps66
  go_wp2
  all_goals go_ret
  all_goals exact ⟨ret_bool (by grind [Ref.isSlot]), rfl⟩
theorem fval1_any (A : Option Addr) (n c : Nat) (w : World) : Calls Try.prog 102 #[.slice A n c] w fun e w' => e = .returned (.bool (decide (2 < n))) ∧ w = w' := by
  by_cases h : 2 < n
  · have h' : (2 : Int) < n := by omega
    go_enter Try.func102, Try.ntmps102
    go_wp2
    go_ret
    exact ⟨ret_bool (by simp [h]), rfl⟩
  · have h' : (n : Int) ≤ 2 := by omega
    go_enter Try.func102, Try.ntmps102
    go_wp2
    go_ret
    exact ⟨ret_bool (by simp; omega), rfl⟩

/-- slices.IndexFunc at []int, for whatever predicate (it may lay blocks of its own). -/
theorem IndexFunc_any (g : Nat) (lb : Array Value) (eg : ∀ args w, (callFunc g args).run Try.prog w = .ok (.enter g args) w) (p : Int → Bool) (v : Value) (zs : List Int) (w : World) (hz : IntsAt w.heap.size w v zs)
    (hp : Hid (∀ z ∈ zs, ∀ W, Gr w W → Calls Try.prog g (#[.int .i64 z] ++ lb) W fun e w' => e = .returned (.bool (p z)) ∧ Gr W w')) :
    Calls Try.prog 86 #[v, .func (.func g) #[] lb] w fun e w' => e = .returned (.int .i64 (Ir.findI p zs 0)) ∧ Gr w w' := by
  obtain ⟨A, c, rfl, h1, h2, h3⟩ := hz
  go_enter Try.func86, Try.ntmps86
  go_wp2
  go_loopw [5, 8] (fun _ i wr => ∃ k : Nat, k ≤ zs.length ∧ i = .int .i64 k ∧ Gr w wr ∧ Hid (Ir.findI p zs 0 = Ir.findI p (zs.drop k) k)) (fun _ i _ => zs.length - (intOf i).toNat)
  case atStart => exact ⟨0, Nat.zero_le _, rfl, Gr.refl _, rfl⟩
  case round =>
    obtain ⟨k, hk, rfl, hgr, hrest⟩ := hrel
    obtain ⟨wo, rfl⟩ : ∃ wo : World, wo = wr := ⟨_, rfl⟩
    rcases hr : zs.drop k with _ | ⟨z, r⟩
    · have hkn := drop_nil hr hk
      have HE : Hid (Ir.findI p zs 0 = -1) := by show _ = _; rw [hrest.out, hr]; rfl
      subst hkn
      clear hr hrest
      go_wp2
      go_ret
      exact ⟨ret_int (by rw [HE.out]), hgr⟩
    · obtain ⟨hlt, hx, hr'⟩ := drop_cons hr
      obtain ⟨b, o, rfl, hb, hc⟩ := h3 (by omega)
      have hx' := (hgr.cell _ _ hb).trans (hc k z hx)
      have HR : Hid (Ir.findI p zs 0 = if p z then (k : Int) else Ir.findI p r (k + 1)) := by show _ = _; rw [hrest.out, hr]; rfl
      have HR' : Hid (zs.drop (k + 1) = r) := hr'
      have HCP := Lib.hid (hp.out z (List.mem_of_getElem? hx) wo hgr)
      clear hr hx hr' hrest hc h3
      obtain ⟨q, hq⟩ : ∃ q, p z = q := ⟨_, rfl⟩
      rw [hq] at HR HCP
      clear hq
      cases q with
      | true =>
        go_wp2_with (go_at_fn g; refine HCP.out.mono ?_; rintro e w1 ⟨rfl, g1⟩)
        go_ret
        exact ⟨ret_int (by rw [HR.out]; simp), hgr.trans g1⟩
      | false =>
        go_wp2_with (go_at_fn g; refine HCP.out.mono ?_; rintro e w1 ⟨rfl, g1⟩)
        go_roundw
        case rel => exact ⟨k + 1, by omega, by go_num, hgr.trans g1, by (show _ = _; rw [HR.out, HR'.out]; simp)⟩
        case measure => simp [intOf]; omega

theorem ContainsFunc_any (g : Nat) (lb : Array Value) (eg : ∀ args w, (callFunc g args).run Try.prog w = .ok (.enter g args) w) (p : Int → Bool) (v : Value) (zs : List Int) (w : World) (hz : IntsAt w.heap.size w v zs)
    (hp : Hid (∀ z ∈ zs, ∀ W, Gr w W → Calls Try.prog g (#[.int .i64 z] ++ lb) W fun e w' => e = .returned (.bool (p z)) ∧ Gr W w')) :
    Calls Try.prog 63 #[v, .func (.func g) #[] lb] w fun e w' => e = .returned (.bool (zs.any p)) ∧ Gr w w' := by
  have C := Lib.hid (IndexFunc_any g lb eg p v zs w hz hp)
  have HB : Hid (decide (0 ≤ Ir.findI p zs 0) = zs.any p) := Ir.findI_any p zs 0
  obtain ⟨i, hi⟩ : ∃ i, Ir.findI p zs 0 = i := ⟨_, rfl⟩
  rw [hi] at C HB
  clear hi hp hz eg
  by_cases h : 0 ≤ i
  · go_enter Try.func63, Try.ntmps63
    go_wp2_with (go_at_call 86; refine C.out.mono ?_; rintro e w1 ⟨rfl, g1⟩)
    go_ret
    exact ⟨ret_bool (by rw [← HB.out]; try simp [h]), g1⟩
  · go_enter Try.func63, Try.ntmps63
    go_wp2_with (go_at_call 86; refine C.out.mono ?_; rintro e w1 ⟨rfl, g1⟩)
    go_ret
    exact ⟨ret_bool (by rw [← HB.out]; try simp [h]), g1⟩
end Go.Proofs.Ytiadpjhlomhjeaa

import Derived.Test.YtiadpjhlomhjeaaIrA
namespace Go.Proofs.Ytiadpjhlomhjeaa
open Go.RowKit

namespace Ir
def isHead (f : Fn) : Bool := f.params.all Ref.isWidth && decide (0 ≤ f.ret) && decide (f.ret ≤ 32) && f.slots.all Ref.isSlot
theorem any_not {α : Type} (p : α → Bool) (l : List α) : (l.any fun z => !p z) = !l.all p := by
  induction l with
  | nil => rfl
  | cons a r ih => simp [ih, Bool.not_and]
end Ir

set_option maxHeartbeats 1000000 in
theorem size_any (v : Value) (f : Fn) (w : World) (hf : FnAt w.heap.size w v f) (hs : f.blocks.length ≤ 100000) :
    Calls Try.prog 32 #[v] w fun e w' => e = .returned (.int .i64 (Ref.total f.blocks)) ∧ Gr w w' := by
  obtain ⟨vp, vs, vb, rfl, hp, hs', hb⟩ := hf
  obtain ⟨Ap, cp, rfl, hp1, hp2, -⟩ := hp
  obtain ⟨As, cs, rfl, hs1, hs2, -⟩ := hs'
  obtain ⟨Ab, cb, rfl, hb1, hb2, hb3⟩ := hb
  have hB0 : Gr w (w.alloc (.cells #[.slice Ap f.params.length cp, .int .i64 f.ret, .slice As f.slots.length cs, .slice Ab f.blocks.length cb] 25)) := (Gr.refl _).alloc _
  go_enter Try.func32, Try.ntmps32
  go_wp2
  go_loop [3, 5, 9] (fun s _ b => ∃ k N : Nat, k ≤ f.blocks.length ∧ b = .int .i64 k ∧ s = .int .i64 N ∧ N ≤ 17592186044416 * k ∧ Hid (N = Ref.total (f.blocks.take k))) (fun _ _ b => f.blocks.length - (intOf b).toNat)
  case atStart => exact ⟨0, 0, Nat.zero_le _, rfl, rfl, by omega, by show _ = _; simp [Ref.total]⟩
  case round =>
    obtain ⟨k, N, hk, rfl, rfl, hN, hrest⟩ := hrel
    by_cases hlt : k < f.blocks.length
    · obtain ⟨bb, ob, rfl, hbb, hcells⟩ := hb3 (by omega)
      obtain ⟨l, hl⟩ : ∃ l, f.blocks[k]? = some l := ⟨f.blocks[k], by simp [hlt]⟩
      obtain ⟨u, hu, hul⟩ := hcells k l hl
      obtain ⟨Al, cl, rfl, hl1, hl2, -⟩ := hul
      have HL : Hid (Ref.total (f.blocks.take (k + 1)) = Ref.total (f.blocks.take k) + l.length) := by
        show _ = _
        rw [Ref.total_take_succ _ _ _ hl]
      clear hl hcells hb3
      go_wp2
      go_round
      case rel => exact ⟨k + 1, N + l.length, by omega, by go_num, by go_num, by omega, by show _ = _; rw [HL.out, hrest.out]⟩
      case measure => simp [intOf]; omega
    · obtain rfl : k = f.blocks.length := by omega
      go_wp2
      go_ret
      exact ⟨ret_int (by rw [hrest.out, List.take_length]), hB0⟩

set_option maxRecDepth 10000 in
set_option maxHeartbeats 1000000 in
theorem isHead_any (v : Value) (f : Fn) (w : World) (hf : FnAt w.heap.size w v f) :
    Calls Try.prog 33 #[v] w fun e w' => e = .returned (.bool (Ir.isHead f)) ∧ Gr w w' := by
  obtain ⟨vp, vs, vb, rfl, hp, hs, hb⟩ := hf
  have HC1 : Hid (∀ w1, Gr w w1 → Calls Try.prog 63 #[vp, .func (.func 64) #[] #[]] w1 fun e w' => e = .returned (.bool (!f.params.all Ref.isWidth)) ∧ Gr w1 w') := by
    intro w1 g1
    rw [← Ir.any_not]
    exact ContainsFunc_any _ _ (enters_of Try.func64 (by kernel_rfl) rfl) _ _ _ _ (hp.gr g1) (fun z _ W _ => (isHead1_any z W).mono fun _ _ h => ⟨h.1, h.2 ▸ Gr.refl _⟩)
  have HC2 : Hid (∀ w1, Gr w w1 → Calls Try.prog 63 #[vs, .func (.func 66) #[] #[]] w1 fun e w' => e = .returned (.bool (!f.slots.all Ref.isSlot)) ∧ Gr w1 w') := by
    intro w1 g1
    rw [← Ir.any_not]
    exact ContainsFunc_any _ _ (enters_of Try.func66 (by kernel_rfl) rfl) _ _ _ _ (hs.gr g1) (fun z _ W _ => (isHead2_any z W).mono fun _ _ h => ⟨h.1, h.2 ▸ Gr.refl _⟩)
  obtain ⟨Ap, cp, rfl, hp1, hp2, -⟩ := hp
  obtain ⟨As, cs, rfl, hs1, hs2, -⟩ := hs
  obtain ⟨Ab, cb, rfl, hb1, hb2, -⟩ := hb
  obtain ⟨W, hW⟩ : ∃ W, w.alloc (.cells #[.slice Ap f.params.length cp, .int .i64 f.ret, .slice As f.slots.length cs, .slice Ab f.blocks.length cb] 25) = W := ⟨_, rfl⟩
  have hB0 : Gr w W := by rw [← hW]; exact (Gr.refl w).alloc _
  have hWs : W.heap.size = w.heap.size + 1 := by rw [← hW]; simp
  have b0 : ∀ o, W.cell? ⟨w.heap.size, o, none⟩ = (#[.slice Ap f.params.length cp, .int .i64 f.ret, .slice As f.slots.length cs, .slice Ab f.blocks.length cb] : Array Value)[o]? := by
    intro o; rw [← hW]; exact cell_of_row _ _ _ _ _ _ (heap_alloc_new w _)
  have B0 : Hid (∀ w', Gr W w' → w'.cell? ⟨w.heap.size, 0, none⟩ = some (.slice Ap f.params.length cp) ∧ w'.cell? ⟨w.heap.size, 1, none⟩ = some (.int .i64 f.ret) ∧ w'.cell? ⟨w.heap.size, 2, none⟩ = some (.slice As f.slots.length cs)) :=
    fun w' g => ⟨(g.cell w.heap.size 0 (by omega)).trans (b0 0), (g.cell w.heap.size 1 (by omega)).trans (b0 1), (g.cell w.heap.size 2 (by omega)).trans (b0 2)⟩
  obtain ⟨k0, k1, k2⟩ := B0.out W (Gr.refl _)
  clear b0
  have HH : Hid (Ir.isHead f = (f.params.all Ref.isWidth && decide (0 ≤ f.ret) && decide (f.ret ≤ 32) && f.slots.all Ref.isSlot)) := by show _ = _; rfl
  obtain ⟨pa, hpa⟩ : ∃ pa, f.params.all Ref.isWidth = pa := ⟨_, rfl⟩
  obtain ⟨sa, hsa⟩ : ∃ sa, f.slots.all Ref.isSlot = sa := ⟨_, rfl⟩
  rw [hpa] at HC1 HH
  rw [hsa] at HC2 HH
  clear hpa hsa
  go_enter Try.func33, Try.ntmps33
  cases pa with
  | false =>
    go_wp2_with (go_at_call 63; first | (refine (HC1.out _ hB0).mono ?_; rintro e w1 ⟨rfl, g1⟩))
    go_ret
    exact ⟨ret_bool (by rw [HH.out]; simp), hB0.trans g1⟩
  | true =>
    by_cases hr : f.ret < 0 ∨ 32 < f.ret
    · have HX : Hid (Ir.isHead f = false) := by show _ = _; rw [HH.out]; rcases hr with hr | hr <;> simp <;> omega
      go_wp2_with (go_at_call 63; first | (refine (HC1.out _ hB0).mono ?_; rintro e w1 ⟨rfl, g1⟩; obtain ⟨q0, q1, q2⟩ := B0.out _ g1))
      all_goals first | omega | (go_ret; exact ⟨ret_bool (by rw [HX.out]), hB0.trans g1⟩)
    · have r1 : 0 ≤ f.ret := by omega
      have r2 : f.ret ≤ 32 := by omega
      clear hr
      go_wp2_with (go_at_call 63; first | (refine (HC2.out _ (hB0.trans g1)).mono ?_; rintro e w2 ⟨rfl, g2⟩) | (refine (HC1.out _ hB0).mono ?_; rintro e w1 ⟨rfl, g1⟩; obtain ⟨q0, q1, q2⟩ := B0.out _ g1))
      go_ret
      exact ⟨ret_bool (by rw [HH.out]; simp [r1, r2]), hB0.trans (g1.trans g2)⟩

def Ir.classOf (op : Int) : Int :=
  if op = 0 then 1 else if op = 14 then 3 else if op = 15 then 4 else if op = 16 ∨ op = 17 then 5 else if op = 18 then 6 else if op = 19 ∨ op = 20 then 7 else if op = 21 then 8
  else if op = 22 ∨ op = 23 then 9 else if op = 24 then 10 else if op = 25 then 11 else if op = 26 then 12 else if op = 27 then 13 else if op = 28 then 14 else if op = 29 then 15
  else if op = 30 then 16 else if op = 31 then 17 else if op = 32 then 18 else if 1 ≤ op ∧ op ≤ 13 then 2 else 0
def Ir.flagsOf (op : Int) : Int :=
  if op = 1 ∨ op = 2 ∨ op = 3 ∨ op = 11 then 3 else if op = 4 ∨ op = 6 ∨ op = 12 ∨ op = 13 then 4 else if op = 25 then 8 else 0
set_option maxHeartbeats 2000000 in
set_option maxRecDepth 10000 in
theorem classOf_any (n : Int) (w : World) : Calls Try.prog 75 #[.int .i64 n] w fun e w' => e = .returned (.int .i64 (Ir.classOf n)) ∧ w = w' := by
  go_enter Try.func75, Try.ntmps75
  go_wp2
  all_goals go_ret
  all_goals exact ⟨ret_int (by grind [Ir.classOf]), rfl⟩
set_option maxHeartbeats 2000000 in
theorem flagsOf_any (n : Int) (w : World) : Calls Try.prog 69 #[.int .i64 n] w fun e w' => e = .returned (.int .i64 (Ir.flagsOf n)) ∧ w = w' := by
  go_enter Try.func69, Try.ntmps69
  go_wp2
  all_goals go_ret
  all_goals exact ⟨ret_int (by grind [Ir.flagsOf]), rfl⟩

set_option maxHeartbeats 1000000 in
theorem Index_any (v : Value) (zs : List Int) (n : Int) (w : World) (hz : IntsAt w.heap.size w v zs) :
    Calls Try.prog 85 #[v, .int .i64 n] w fun e w' => e = .returned (.int .i64 (Ir.findI (fun z => decide (z = n)) zs 0)) ∧ w = w' := by
  obtain ⟨A, c, rfl, h1, h2, h3⟩ := hz
  go_enter Try.func85, Try.ntmps85
  go_wp2
  go_loop [5, 8] (fun _ i => ∃ k : Nat, k ≤ zs.length ∧ i = .int .i64 k ∧ Hid (Ir.findI (fun z => decide (z = n)) zs 0 = Ir.findI (fun z => decide (z = n)) (zs.drop k) k)) (fun _ i => zs.length - (intOf i).toNat)
  case atStart => exact ⟨0, Nat.zero_le _, rfl, rfl⟩
  case round =>
    obtain ⟨k, hk, rfl, hrest⟩ := hrel
    rcases hr : zs.drop k with _ | ⟨z, r⟩
    · have hkn := drop_nil hr hk
      have HE : Hid (Ir.findI (fun z => decide (z = n)) zs 0 = -1) := by show _ = _; rw [hrest.out, hr]; rfl
      subst hkn
      clear hr hrest
      go_wp2
      go_ret
      exact ⟨ret_int (by rw [HE.out]), rfl⟩
    · obtain ⟨hlt, hx, hr'⟩ := drop_cons hr
      obtain ⟨b, o, rfl, hb, hc⟩ := h3 (by omega)
      have hx' := hc k z hx
      have HR : Hid (Ir.findI (fun z => decide (z = n)) zs 0 = if z = n then (k : Int) else Ir.findI (fun z => decide (z = n)) r (k + 1)) := by show _ = _; rw [hrest.out, hr]; simp [Ir.findI]
      have HR' : Hid (zs.drop (k + 1) = r) := hr'
      clear hr hx hr' hrest hc h3
      by_cases h : z = n
      · subst h
        go_wp2
        go_ret
        exact ⟨ret_int (by rw [HR.out]; simp), rfl⟩
      · have hb1 : (n == z) = false := by simp; exact fun e => h e.symm
        go_wp2
        go_round
        case rel => exact ⟨k + 1, by omega, by go_num, by (show _ = _; rw [HR.out, HR'.out]; simp [h])⟩
        case measure => simp [intOf]; omega

theorem Contains_any (v : Value) (zs : List Int) (n : Int) (w : World) (hz : IntsAt w.heap.size w v zs) :
    Calls Try.prog 53 #[v, .int .i64 n] w fun e w' => e = .returned (.bool (Ref.has zs n)) ∧ w = w' := by
  have C := Lib.hid (Index_any v zs n w hz)
  have HB : Hid (decide (0 ≤ Ir.findI (fun z => decide (z = n)) zs 0) = Ref.has zs n) := Ir.findI_any _ zs 0
  obtain ⟨i, hi⟩ : ∃ i, Ir.findI (fun z => decide (z = n)) zs 0 = i := ⟨_, rfl⟩
  rw [hi] at C HB
  clear hi hz
  by_cases h : 0 ≤ i
  · go_enter Try.func53, Try.ntmps53
    go_wp2_with (go_at_call 85; refine C.out.mono ?_; rintro e w1 ⟨rfl, rfl⟩)
    go_ret
    exact ⟨ret_bool (by rw [← HB.out]; try simp [h]), rfl⟩
  · go_enter Try.func53, Try.ntmps53
    go_wp2_with (go_at_call 85; refine C.out.mono ?_; rintro e w1 ⟨rfl, rfl⟩)
    go_ret
    exact ⟨ret_bool (by rw [← HB.out]; try simp [h]), rfl⟩
end Go.Proofs.Ytiadpjhlomhjeaa

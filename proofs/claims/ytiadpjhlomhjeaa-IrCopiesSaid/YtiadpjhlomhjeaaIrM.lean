/- slices.Clone, graph. -/
import Derived.Test.YtiadpjhlomhjeaaIrH
import Derived.Lib.SliceRun
namespace Go.Proofs.Ytiadpjhlomhjeaa
open Go.RowKit

theorem Own1.lower {B B' : Nat} {e : TypeId} {w : World} {v : Value} {xs : List Value} (h : Own1 B' e w v xs) (hB : B ≤ B') : Own1 B e w v xs := by
  refine ⟨h.1, ?_⟩
  rcases h.2 with h | ⟨g, cap, cur, e, h, r⟩
  · exact .inl h
  · exact .inr ⟨g, cap, cur, e, Nat.le_trans hB h, r⟩

set_option maxRecDepth 100000 in
set_option maxHeartbeats 4000000 in
/-- slices.Clone at []int: a slice of the call's own. -/
theorem Clone_own (v : Value) (zs : List Int) (B : Nat) (w : World) (hz : IntsAt B w v zs) (hB : B ≤ w.heap.size) :
    Calls Try.prog 61 #[v] w fun e w' => ∃ A c, e = .returned (.slice A zs.length c) ∧ Own1 w.heap.size 3 w' (.slice A zs.length c) (zs.map (Value.int .i64)) ∧ Gr w w' := by
  obtain ⟨i0, hi, hz0, hz1, hz2⟩ := info_parts info_int
  have q22 : ∀ (w : World) (a : Option Addr) (n c : Nat), (binOp .eql 22 (.slice a n c) (.slice none 0 0)).run Try.prog w = .ok (.bool a.isNone) w := fun w a n c => Lib.run_eql_slice_nil w _ _ a n c 0 0 Try.underlying22
  have hz' := hz
  obtain ⟨A, c, rfl, h1, h2, h3⟩ := hz
  cases A with
  | none =>
    have hn : zs = [] := by
      cases zs with
      | nil => rfl
      | cons a r =>
        obtain ⟨b, o, e, -⟩ := h3 (by simp)
        cases e
    subst hn
    clear h3 hz'
    go_enter Try.func61, Try.ntmps61
    go_wp2
    go_ret
    exact ⟨none, 0, rfl, Own1.nil _ _ _, Gr.refl _⟩
  | some a =>
    have HV : Hid (IntsAt B (w.alloc (.cells #[] 3)) (.slice (some a) zs.length c) zs) := by
      obtain ⟨A', c', e, q1, q2, q3⟩ := hz'
      refine ⟨A', c', e, q1, q2, fun hp => ?_⟩
      obtain ⟨b, o, e2, e3, e4⟩ := q3 hp
      exact ⟨b, o, e2, e3, fun j z hj => ((Gr.refl w).alloc _).cell b (o + j) (by omega) |>.trans (e4 j z hj)⟩
    clear h3 hz'
    go_enter Try.func61, Try.ntmps61
    go_wp2_with (at_builtin; refine appI Try.underlying22 hi hz0 hz1 hz2 rfl rfl _ _ rfl rfl (Own1.empty _ _ (Nat.le_refl _)) HV rfl (by simp; omega) (by simp) ?_; intro A1 c1 w1 hown1 hb1 _)
    go_ret
    exact ⟨A1, c1, by simp, by simpa using hown1, Gr.below ((Gr.refl _).alloc _) hb1 (by simp)⟩
set_option maxRecDepth 100000 in
set_option maxHeartbeats 4000000 in
theorem igraph_any (v : Value) (f : Fn) (w : World) (hf : FnAt w.heap.size w v f) (hs : f.blocks.length ≤ 100000) (hne : Hid (∀ l ∈ f.blocks, l ≠ [])) :
    Calls Try.prog 45 #[v] w fun e w' => ∃ u, e = .returned u ∧ TabAt w'.heap.size w' u (Ref.graph f) ∧ Gr w w' := by
  obtain ⟨vp, vs, vb, rfl, hp, hs', hb⟩ := hf
  obtain ⟨Ap, cp, rfl, hp1, hp2, hp3⟩ := hp
  obtain ⟨As, cs, rfl, hs1, hs2, hs3⟩ := hs'
  obtain ⟨Ab, cb, rfl, hb1, hb2, hb3⟩ := hb
  clear hp3 hs3
  obtain ⟨i0, hi, hz0, hz1, hz2⟩ := info_parts info_int
  obtain ⟨i1, hj, hy0, hy1, hy2⟩ := info_parts info_ints
  have hB0 : Gr w (w.alloc (.cells #[.slice Ap f.params.length cp, .int .i64 f.ret, .slice As f.slots.length cs, .slice Ab f.blocks.length cb] 25)) := (Gr.refl _).alloc _
  go_enter Try.func45, Try.ntmps45
  go_wp2
  go_loopw [3, 5, 9] (fun s _ b wr => ∃ (k : Nat) (us : List Value), k ≤ f.blocks.length ∧ b = .int .i64 k ∧ Own1 (w.heap.size + 1) 22 wr s us ∧ Tab1 (w.heap.size + 1) 3 wr us ((f.blocks.take k).map fun l => (l.getLast?.map (·.to)).getD []) ∧
      Gr (w.alloc (.cells #[.slice Ap f.params.length cp, .int .i64 f.ret, .slice As f.slots.length cs, .slice Ab f.blocks.length cb] 25)) wr) (fun _ _ b _ => f.blocks.length - (intOf b).toNat)
  case atStart => exact ⟨0, [], Nat.zero_le _, rfl, Own1.nil _ _ _, Tab1.nil _ _ _, Gr.refl _⟩
  case round =>
    obtain ⟨k, us, hk, rfl, hown, htab, hgr⟩ := hrel
    have hbox : wr.cell? ⟨w.heap.size, 3, none⟩ = some (.slice Ab f.blocks.length cb) := (hgr.cell _ _ (by simp)).trans (by simp)
    by_cases hlt : k < f.blocks.length
    · obtain ⟨bb, ob, rfl, hbb, hcells⟩ := hb3 (by omega)
      obtain ⟨l, hl⟩ : ∃ l, f.blocks[k]? = some l := ⟨f.blocks[k], by simp [hlt]⟩
      obtain ⟨u, hu, hul⟩ := hcells k l hl
      have hl0 : l ≠ [] := hne.out l (List.mem_of_getElem? hl)
      obtain ⟨x, hx⟩ : ∃ x, l.getLast? = some x := ⟨_, List.getLast?_eq_some_getLast hl0⟩
      have hx' : l[l.length - 1]? = some x := by rw [← List.getLast?_eq_getElem?]; exact hx
      have HS := graph_snoc f.blocks k l hl x hx
      have hpos : 0 < l.length := List.length_pos_iff.2 hl0
      have hg0 : Gr w wr := hB0.trans hgr
      have hu' := (hg0.cell _ _ hbb).trans hu
      have hul' := hul.below hg0
      obtain ⟨Al, cl, rfl, hl1, hl2, hl3⟩ := hul'
      obtain ⟨bl, ol, rfl, hbl, hcl⟩ := hl3 hpos
      obtain ⟨va, vt, _, _, _, _, _, ht, _, hvt⟩ := hcl _ x hx'
      obtain ⟨m, hm⟩ : ∃ m, m + 1 = l.length := ⟨l.length - 1, by omega⟩
      rw [show l.length - 1 = m by omega] at ht
      have HS' := Lib.hid HS
      have hsz : w.heap.size < wr.heap.size := by have := hgr.size; simp at this; omega
      have hus : us.length = k := by rw [htab.1]; simp; omega
      have hbl' : bl < wr.heap.size := by omega
      have HM := Lib.hid hm
      have HU := Lib.hid hus
      have wm : (l.length : Int) - 1 = m := by omega
      clear hl hcells hu hul hb3 hx hx' HS hl0 hl3 hcl hm hus
      obtain ⟨At, ct, rfl, ht1, ht2, ht3⟩ := hvt
      have hvt : IntsAt w.heap.size wr (.slice At x.to.length ct) x.to := ⟨At, ct, rfl, ht1, ht2, ht3⟩
      have HCL := Lib.hid (Clone_own (.slice At x.to.length ct) x.to w.heap.size wr hvt (by omega))
      clear ht3 hvt
      go_wp2_with (first
        | (go_at_call 61; refine HCL.out.mono ?_; rintro e w1 ⟨A1, c1, rfl, hown1, hw1⟩; have hown' := hown.gr hw1; have htab' := htab.gr hw1; have hsz1 := hw1.size)
        | (at_builtin; refine app1 (v := u3) Try.underlying30 hj hy0 hy1 hy2 rfl (by omega) rfl (.tmp 13) (.tmp 22) rfl rfl hown' rfl rfl (by rw [HU.out]; omega) (by omega) ?_; intro A2 c2 w2 hown2 hb2 hg2))
      go_goals
      go_roundw
      case rel =>
        have hw2 : Gr (w.alloc (.cells #[.slice Ap f.params.length cp, .int .i64 f.ret, .slice As f.slots.length cs, .slice (some ⟨bb, ob, none⟩) f.blocks.length cb] 25)) w2 := (hgr.trans hw1).below hb2 (by simp)
        have htab2 := ((htab'.snoc (hown1.lower (by have := hsz; omega)) ht2).gr ((Gr.refl _).alloc (.cells #[.slice A1 x.to.length c1] 22))).grown (hown'.gr ((Gr.refl _).alloc (.cells #[.slice A1 x.to.length c1] 22))) (by decide) hg2
        exact ⟨k + 1, _, by omega, by go_num, by simpa using hown2, by rw [HS'.out]; exact htab2, hw2⟩
      case measure => simp [intOf]; omega
    · obtain rfl : k = f.blocks.length := by omega
      go_wp2
      go_ret
      rw [List.take_length] at htab
      exact ⟨_, rfl, htab.tab hown (by simp; omega), hB0.trans hgr⟩
end Go.Proofs.Ytiadpjhlomhjeaa

import Derived.Test.YtiadpjhlomhjeaaGreatRefA
import Derived.Test.YtiadpjhlomhjeaaGreatZb
import Derived.Lib.Hide
namespace Go.Proofs.YtiadpjhlomhjeaaGreat
open Go.RowKit

theorem info_int : (Tryz.prog.info? 3).map (fun i => (i.zero, i.size, i.bytes)) = some (some (.int .i64 0), 1, 8) := by kernel_rfl
theorem info_ints : (Tryz.prog.info? 22).map (fun i => (i.zero, i.size, i.bytes)) = some (some (.slice none 0 0), 1, 24) := by kernel_rfl

theorem before_snoc (v : Int) : ∀ (g : List (List Int)) (b k : Nat) (l : List Int), g[k]? = some l →
    Ref.beforeFrom v (g.take (k + 1)) b = Ref.beforeFrom v (g.take k) b ++ (if Ref.has l v then [((b + k : Nat) : Int)] else []) := by
  intro g
  induction g with
  | nil => intro b k l h; simp at h
  | cons a r ih =>
    intro b k l h
    cases k with
    | zero =>
      simp at h; subst h
      simp [Ref.beforeFrom]
    | succ k =>
      have := ih (b + 1) k l (by simpa using h)
      simp only [List.take_succ_cons, Ref.beforeFrom, this]
      rw [show b + 1 + k = b + (k + 1) by omega]
      split <;> simp
theorem before_len (v : Int) : ∀ (g : List (List Int)) (b : Nat), (Ref.beforeFrom v g b).length ≤ g.length := by
  intro g
  induction g with
  | nil => intro b; simp [Ref.beforeFrom]
  | cons a r ih =>
    intro b
    have := ih (b + 1)
    simp only [Ref.beforeFrom]
    split <;> simp <;> omega

set_option maxHeartbeats 1000000 in
theorem before_any (vg : Value) (g : List (List Int)) (z : Int) (w : World) (hg : TabAt w.heap.size w vg g) (hsm : g.length ≤ 100000) :
    Calls Tryz.prog 74 #[vg, .int .i64 z] w fun e w' => ∃ v, e = .returned v ∧ IntsAt w'.heap.size w' v (Ref.before g z) ∧ Gr w w' := by
  obtain ⟨A, c, rfl, g1, g2, g3⟩ := hg
  obtain ⟨i0, hi, hz0, hz1, hz2⟩ := info_parts info_int
  go_enter Tryz.func74, Tryz.ntmps74
  go_wp2
  go_loopw [5, 6] (fun s b wr => ∃ k : Nat, k ≤ g.length ∧ b = .int .i64 k ∧ Own1 w.heap.size 3 wr s ((Ref.beforeFrom z (g.take k) 0).map (Value.int .i64)) ∧ Gr w wr) (fun _ b _ => g.length - (intOf b).toNat)
  case atStart => exact ⟨0, Nat.zero_le _, rfl, Own1.nil _ _ _, Gr.refl _⟩
  case round =>
    obtain ⟨k, hk, rfl, hown, hgr⟩ := hrel
    by_cases hlt : k < g.length
    · obtain ⟨b, o, rfl, hb, hcells⟩ := g3 (by omega)
      obtain ⟨l, hl⟩ : ∃ l, g[k]? = some l := ⟨g[k], by simp [hlt]⟩
      obtain ⟨u, hu, hul⟩ := hcells k l hl
      have hu' := (hgr.cell _ _ hb).trans hu
      have hul' := hul.below hgr
      have HS : Hid (Ref.beforeFrom z (g.take (k + 1)) 0 = Ref.beforeFrom z (g.take k) 0 ++ (if Ref.has l z then [(k : Int)] else [])) := by
        have := before_snoc z g 0 k l hl
        rwa [Nat.zero_add] at this
      have hlen := before_len z (g.take k) 0
      have hlen' : (g.take k).length ≤ k := List.length_take_le _ _
      have C := has_any u l z wr w.heap.size hul'
      cases hh : Ref.has l z with
      | true =>
        rw [hh] at C HS
        have HC := Lib.hid C
        clear hl hcells hu hul hul' g3 C hh
        go_wp2_with (first
          | (go_at_call 88; refine HC.out.mono ?_; rintro e w' ⟨rfl, rfl⟩)
          | (at_builtin; refine app1 Tryz.underlying22 hi hz0 hz1 hz2 rfl (by omega) rfl _ _ rfl rfl hown rfl rfl (by simp; omega) hgr.size ?_; intro A1 c1 w1 hown1 hb1 _))
        go_roundw
        case rel => exact ⟨k + 1, by omega, by go_num, by rw [HS.out]; simpa using hown1, hgr.below hb1 (Nat.le_refl _)⟩
        case measure => simp [intOf]; omega
      | false =>
        rw [hh] at C HS
        have HC := Lib.hid C
        clear hl hcells hu hul hul' g3 C hh
        go_wp2_with (go_at_call 88; refine HC.out.mono ?_; rintro e w' ⟨rfl, rfl⟩)
        go_roundw
        case rel => exact ⟨k + 1, by omega, by go_num, by rw [HS.out]; simpa using hown, hgr⟩
        case measure => simp [intOf]; omega
    · obtain rfl : k = g.length := by omega
      go_wp2
      go_ret
      rw [List.take_length] at hown
      exact ⟨_, rfl, hown.ints (by have := before_len z g 0; show (Ref.beforeFrom z g 0).length ≤ _; omega), hgr⟩

theorem graph_snoc (bs : List (List Ins)) (k : Nat) (l : List Ins) (h : bs[k]? = some l) (x : Ins) (hx : l.getLast? = some x) :
    ((bs.take (k + 1)).map fun l => (l.getLast?.map (·.to)).getD []) = ((bs.take k).map fun l => (l.getLast?.map (·.to)).getD []) ++ [x.to] := by
  obtain ⟨hk, e⟩ := List.getElem?_eq_some_iff.1 h
  rw [List.take_succ_eq_append_getElem hk, e, List.map_append]
  simp [hx]

set_option maxRecDepth 100000 in
set_option maxHeartbeats 2000000 in
theorem rgraph_any (v : Value) (f : Fn) (w : World) (hf : FnAt w.heap.size w v f) (hs : f.blocks.length ≤ 100000) (hne : Hid (∀ l ∈ f.blocks, l ≠ [])) :
    Calls Tryz.prog 44 #[v] w fun e w' => ∃ u, e = .returned u ∧ TabAt w'.heap.size w' u (Ref.graph f) ∧ Gr w w' := by
  obtain ⟨vp, vs, vb, rfl, hp, hs', hb⟩ := hf
  obtain ⟨Ap, cp, rfl, hp1, hp2, hp3⟩ := hp
  obtain ⟨As, cs, rfl, hs1, hs2, hs3⟩ := hs'
  obtain ⟨Ab, cb, rfl, hb1, hb2, hb3⟩ := hb
  clear hp3 hs3
  obtain ⟨i0, hi, hz0, hz1, hz2⟩ := info_parts info_int
  obtain ⟨i1, hj, hy0, hy1, hy2⟩ := info_parts info_ints
  have hB0 : Gr w (w.alloc (.cells #[.slice Ap f.params.length cp, .int .i64 f.ret, .slice As f.slots.length cs, .slice Ab f.blocks.length cb] 25)) := (Gr.refl _).alloc _
  go_enter Tryz.func44, Tryz.ntmps44
  go_wp2
  go_loopw [3, 4, 5] (fun s b _ wr => ∃ (k : Nat) (us : List Value), k ≤ f.blocks.length ∧ b = .int .i64 k ∧ Own1 (w.heap.size + 1) 22 wr s us ∧ Tab1 (w.heap.size + 1) 3 wr us ((f.blocks.take k).map fun l => (l.getLast?.map (·.to)).getD []) ∧
      Gr (w.alloc (.cells #[.slice Ap f.params.length cp, .int .i64 f.ret, .slice As f.slots.length cs, .slice Ab f.blocks.length cb] 25)) wr) (fun _ b _ _ => f.blocks.length - (intOf b).toNat)
  case atStart => exact ⟨0, [], Nat.zero_le _, rfl, Own1.nil _ _ _, Tab1.nil _ _ _, Gr.refl _⟩
  case round =>
    obtain ⟨k, us, hk, rfl, hown, htab, hgr⟩ := hrel
    have hbox : wr.cell? ⟨w.heap.size, 3, none⟩ = some (.slice Ab f.blocks.length cb) := (hgr.cell _ _ (by simp)).trans (by simp)
    by_cases hlt : k < f.blocks.length
    · obtain ⟨bb, ob, rfl, hbb, hcells⟩ := hb3 (by omega)
      obtain ⟨l, hl⟩ : ∃ l, f.blocks[k]? = some l := ⟨f.blocks[k], by simp [hlt]⟩
      obtain ⟨u, hu, hul⟩ := hcells k l hl
      have hl0 : l ≠ [] := hne.out l (List.mem_of_getElem? hl)
      obtain ⟨x, hx⟩ : ∃ x, l.getLast? = some x := ⟨_, List.getLast?_eq_some_getLast hl0⟩
      have hx' : l[l.length - 1]? = some x := by rw [← List.getLast?_eq_getElem?]; exact hx
      have HS := graph_snoc f.blocks k l hl x hx
      have hpos : 0 < l.length := List.length_pos_iff.2 hl0
      have hg0 : Gr w wr := hB0.trans hgr
      have hu' := (hg0.cell _ _ hbb).trans hu
      have hul' := hul.below hg0
      obtain ⟨Al, cl, rfl, hl1, hl2, hl3⟩ := hul'
      obtain ⟨bl, ol, rfl, hbl, hcl⟩ := hl3 hpos
      obtain ⟨va, vt, _, _, _, _, _, ht, _, hvt⟩ := hcl _ x hx'
      obtain ⟨m, hm⟩ : ∃ m, m + 1 = l.length := ⟨l.length - 1, by omega⟩
      rw [show l.length - 1 = m by omega] at ht
      have HS' := Lib.hid HS
      have hsz : w.heap.size < wr.heap.size := by have := hgr.size; simp at this; omega
      have hus : us.length = k := by rw [htab.1]; simp; omega
      have hbl' : bl < wr.heap.size := by omega
      have HM := Lib.hid hm
      have HU := Lib.hid hus
      have wm : (l.length : Int) - 1 = m := by omega
      clear hl hcells hu hul hb3 hx hx' HS hl0 hl3 hcl hm hus
      obtain ⟨At, ct, rfl, ht1, ht2, ht3⟩ := hvt
      have hvt : IntsAt w.heap.size wr (.slice At x.to.length ct) x.to := ⟨At, ct, rfl, ht1, ht2, ht3⟩
      have HV : Hid (IntsAt w.heap.size (wr.alloc (.cells #[] 3)) (.slice At x.to.length ct) x.to) := hvt.below ((Below.refl _ wr).alloc (by omega) (.cells #[] 3))
      clear ht3 hvt
      go_wp2_with (first
        | (at_builtin; refine appI (v := .slice (some ⟨wr.heap.size, 0, none⟩) 0 0) Tryz.underlying22 hi hz0 hz1 hz2 rfl rfl (.tmp 19) (.tmp 26) rfl rfl (Own1.empty (B := w.heap.size + 1) wr 3 (by omega)) HV rfl (by simp; omega) (by simp; omega) ?_; intro A1 c1 w1 hown1 hb1 hg1; simp only [List.length_nil, Nat.zero_add, List.nil_append] at hown1; have hb1s := hb1.size; have hw1 : Gr wr w1 := (((Gr.refl wr).alloc (.cells #[] 3))).grown hg1 (by intro k hk; simp [Value.ownBlock] at hk; omega); have hown' := hown.gr hw1; have htab' := htab.gr hw1; have hsz1 := hw1.size)
        | (at_builtin; refine app1 (v := u3) Tryz.underlying44 hj hy0 hy1 hy2 rfl (by omega) rfl (.tmp 18) (.tmp 28) rfl rfl hown' rfl rfl (by rw [HU.out]; omega) (by omega) ?_; intro A2 c2 w2 hown2 hb2 hg2)
      )
      go_goals
      go_roundw
      case rel =>
        have hw2 : Gr (w.alloc (.cells #[.slice Ap f.params.length cp, .int .i64 f.ret, .slice As f.slots.length cs, .slice (some ⟨bb, ob, none⟩) f.blocks.length cb] 25)) w2 := (hgr.trans hw1).below hb2 (by simp)
        have htab2 := ((htab'.snoc hown1 ht2).gr ((Gr.refl _).alloc (.cells #[.slice A1 x.to.length c1] 22))).grown (hown'.gr ((Gr.refl _).alloc (.cells #[.slice A1 x.to.length c1] 22))) (by decide) hg2
        exact ⟨k + 1, _, by omega, by go_num, by simpa using hown2, by rw [HS'.out]; exact htab2, hw2⟩
      case measure => simp [intOf]; omega
    · obtain rfl : k = f.blocks.length := by omega
      go_wp2
      go_ret
      rw [List.take_length] at htab
      exact ⟨_, rfl, htab.tab hown (by simp; omega), hB0.trans hgr⟩
end Go.Proofs.YtiadpjhlomhjeaaGreat

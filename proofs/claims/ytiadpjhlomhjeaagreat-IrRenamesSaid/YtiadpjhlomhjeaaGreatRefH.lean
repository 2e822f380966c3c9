import Derived.Test.YtiadpjhlomhjeaaGreatRefG
import Derived.Test.YtiadpjhlomhjeaaGreatRefC
namespace Go.Proofs.YtiadpjhlomhjeaaGreat
open Go.RowKit

set_option maxRecDepth 100000 in
set_option maxHeartbeats 1000000 in
theorem rdominates_any (vg : Value) (g : List (List Int)) (a b : Int) (w : World) (hg : TabAt w.heap.size w vg g) (hn : 1 ≤ g.length) (hsm : g.length ≤ 100000) (hok : Hid (∀ l ∈ g, ∀ t ∈ l, 0 ≤ t ∧ t < (g.length : Int)))
    (hb1 : 0 ≤ b) (hb2 : b < g.length) :
    Calls Tryz.prog 90 #[vg, .int .i64 a, .int .i64 b] w fun e w' => e = .returned (.bool (Ref.dominates g a b)) ∧ Gr w w' := by
  by_cases hab : a = b
  · have nab : (a == b) = true := by simp [hab]
    have HD : Hid (Ref.dominates g a b = true) := by show _ = _; simp [Ref.dominates, hab]
    clear hab
    obtain ⟨A, c, rfl, -, -, -⟩ := hg
    go_enter Tryz.func90, Tryz.ntmps90
    go_wp2
    go_ret
    exact ⟨ret_bool (by rw [HD.out]), Gr.refl _⟩
  · have nab : (a == b) = false := by simp [hab]
    have HD : Hid (Ref.dominates g a b = !(Ref.reached g a).getD b.toNat false) := by show _ = _; simp [Ref.dominates, hab]
    have C := rreached_any vg g a w hg hn hsm hok
    have HC := Lib.hid C
    have hlen : (Ref.reached g a).length = g.length := by
      have h1 : ∀ (l : List Int) (bs : List Bool), (l.foldl (Ref.spreadEdge a) bs).length = bs.length := by
        intro l; induction l with
        | nil => intro bs; rfl
        | cons t r ih => intro bs; rw [List.foldl_cons, ih, spreadEdge_len]
      have h2 : ∀ (l : List Nat) (bs : List Bool), (l.foldl (Ref.spreadBlock a g) bs).length = bs.length := by
        intro l; induction l with
        | nil => intro bs; rfl
        | cons t r ih => intro bs; rw [List.foldl_cons, ih]; unfold Ref.spreadBlock; split <;> simp [h1]
      have h3 : ∀ (n : Nat) (bs : List Bool), (Ref.spread a g n bs).length = bs.length := by
        intro n; induction n with
        | zero => intro bs; rfl
        | succ n ih => intro bs; rw [Ref.spread, ih, Ref.spreadRound, h2]
      unfold Ref.reached; split <;> simp [h3]
    have HL := Lib.hid hlen
    clear hab C hlen
    obtain ⟨n, rfl⟩ := Int.eq_ofNat_of_zero_le hb1
    obtain ⟨A, c, rfl, -, -, -⟩ := hg
    go_enter Tryz.func90, Tryz.ntmps90
    go_wp2_with fail
    refine HC.out.mono ?_
    rintro e w1 ⟨v, rfl, hv, g1⟩
    obtain ⟨A1, c1, rfl, -, -, hv3⟩ := hv
    have hlen := HL.out
    obtain ⟨br, or', rfl, hbr, hcr⟩ := hv3 (by omega)
    obtain ⟨y, hy⟩ : ∃ y, (Ref.reached g a)[n]? = some y := ⟨(Ref.reached g a)[n]'(by omega), by simp [show n < (Ref.reached g a).length by omega]⟩
    have q := hcr n y hy
    have HD' : Hid (Ref.dominates g a n = !y) := by show _ = _; rw [HD.out]; simp [List.getD, hy]
    have zn : (n : Int) < ((Ref.reached g a).length : Int) := by omega
    clear hcr hy hlen hv3
    go_wp2
    go_ret
    exact ⟨ret_bool (by rw [HD'.out]), g1⟩

set_option maxRecDepth 100000 in
set_option maxHeartbeats 1000000 in
theorem there_any (v vg : Value) (f : Fn) (g : List (List Int)) (z block place : Int) (w : World) (hf : FnAt w.heap.size w v f) (hs : f.blocks.length ≤ 100000) (hz1 : -9223372036854775808 ≤ z) (hz2 : z ≤ 9223372036854775807)
    (hg : TabAt w.heap.size w vg g) (hn : 1 ≤ g.length) (hsm : g.length ≤ 100000) (hok : Hid (∀ l ∈ g, ∀ t ∈ l, 0 ≤ t ∧ t < (g.length : Int))) (hb1 : 0 ≤ block) (hb2 : block < g.length) :
    Calls Tryz.prog 76 #[v, vg, .int .i64 z, .int .i64 block, .int .i64 place] w fun e w' => e = .returned (.bool (Ref.there f g z block place)) ∧ Gr w w' := by
  have hf0 := hf
  obtain ⟨vp, vs, vb, rfl, -, -, -⟩ := hf
  have hB0 : Gr w (w.alloc (.cells #[vp, .int .i64 f.ret, vs, vb] 25)) := (Gr.refl _).alloc _
  have C := where_any _ f z _ (hf0.gr hB0) hs hz1 hz2
  have HT : Hid (Ref.there f g z block place = if (Ref.whereIs f z).1 < 0 then true else if (Ref.whereIs f z).1 = block then decide (place < 0) || decide ((Ref.whereIs f z).2 < place) else Ref.dominates g (Ref.whereIs f z).1 block) := rfl
  revert C HT
  generalize Ref.whereIs f z = p
  obtain ⟨b, i⟩ := p
  dsimp only
  intro C HT
  have HC := Lib.hid C
  have HD : Hid (∀ w1, Gr w w1 → Calls Tryz.prog 90 #[vg, .int .i64 b, .int .i64 block] w1 fun e w' => e = .returned (.bool (Ref.dominates g b block)) ∧ Gr w1 w') := fun w1 g1 => rdominates_any vg g b block w1 (hg.gr g1) hn hsm hok hb1 hb2
  clear C hf0 hg
  by_cases h0 : b < 0
  · go_enter Tryz.func76, Tryz.ntmps76
    go_wp2_with (go_at_call 89; refine HC.out.mono ?_; rintro e w1 ⟨rfl, g1⟩)
    go_ret
    exact ⟨ret_bool (by rw [HT.out, if_pos h0]), hB0.trans g1⟩
  · by_cases h1 : b = block
    · have n1 : (b == block) = true := by simp [h1]
      have HT2 : Hid (Ref.there f g z block place = (decide (place < 0) || decide (i < place))) := by show _ = _; rw [HT.out, if_neg h0, if_pos h1]
      clear h1
      go_enter Tryz.func76, Tryz.ntmps76
      go_wp2_with (go_at_call 89; refine HC.out.mono ?_; rintro e w1 ⟨rfl, g1⟩)
      all_goals go_ret
      all_goals exact ⟨ret_bool (by have := HT2.out; grind), hB0.trans g1⟩
    · have n1 : (b == block) = false := by simp [h1]
      have HT2 : Hid (Ref.there f g z block place = Ref.dominates g b block) := by show _ = _; rw [HT.out, if_neg h0, if_neg h1]
      clear h1
      go_enter Tryz.func76, Tryz.ntmps76
      go_wp2_with (first
        | (go_at_call 89; refine HC.out.mono ?_; rintro e w1 ⟨rfl, g1⟩)
        | (go_at_call 90; refine (HD.out _ (hB0.trans g1)).mono ?_; rintro e w2 ⟨rfl, g2⟩))
      go_ret
      exact ⟨ret_bool (by rw [HT2.out]), (hB0.trans g1).trans g2⟩
end Go.Proofs.YtiadpjhlomhjeaaGreat

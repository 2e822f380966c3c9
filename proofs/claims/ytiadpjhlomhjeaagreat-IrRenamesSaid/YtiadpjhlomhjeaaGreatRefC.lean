import Derived.Test.YtiadpjhlomhjeaaGreatRefA
namespace Go.Proofs.YtiadpjhlomhjeaaGreat
open Go.RowKit

set_option maxHeartbeats 1000000 in
theorem Number_any (v : Value) (f : Fn) (n : Nat) (w : World) (hf : FnAt w.heap.size w v f) (hn : n ≤ f.blocks.length) (hs : f.blocks.length ≤ 100000) :
    Calls Tryz.prog 46 #[v, .int .i64 n] w fun e w' => e = .returned (.int .i64 (Ref.number f n)) ∧ Gr w w' := by
  obtain ⟨vp, vs, vb, rfl, hp, hs', hb⟩ := hf
  obtain ⟨Ap, cp, rfl, hp1, hp2, hp3⟩ := hp
  obtain ⟨As, cs, rfl, hs1, hs2, hs3⟩ := hs'
  obtain ⟨Ab, cb, rfl, hb1, hb2, hb3⟩ := hb
  clear hp3 hs3
  have hB0 : Gr w (w.alloc (.cells #[.slice Ap f.params.length cp, .int .i64 f.ret, .slice As f.slots.length cs, .slice Ab f.blocks.length cb] 25)) := (Gr.refl _).alloc _
  go_enter Tryz.func46, Tryz.ntmps46
  go_wp2
  go_loop [5, 6] (fun s b => ∃ k N : Nat, k ≤ n ∧ b = .int .i64 k ∧ s = .int .i64 N ∧ N ≤ 17592186044416 * (k + 1) ∧ Hid (N = Ref.number f k)) (fun _ b => n - (intOf b).toNat)
  case atStart => exact ⟨0, _, Nat.zero_le _, rfl, rfl, by omega, by show _ = _; simp [Ref.number, Ref.total]⟩
  case round =>
    obtain ⟨k, N, hk, rfl, rfl, hN, hrest⟩ := hrel
    by_cases hlt : k < n
    · obtain ⟨bb, ob, rfl, hbb, hcells⟩ := hb3 (by omega)
      obtain ⟨l, hl⟩ : ∃ l, f.blocks[k]? = some l := ⟨f.blocks[k], by simp [show k < f.blocks.length by omega]⟩
      obtain ⟨u, hu, hul⟩ := hcells k l hl
      obtain ⟨Al, cl, rfl, hl1, hl2, hl3⟩ := hul
      have HL : Hid (Ref.number f (k + 1) = Ref.number f k + l.length) := by
        show _ = _
        unfold Ref.number; rw [Ref.total_take_succ _ _ _ hl]; omega
      clear hl hcells hb3 hl3
      go_wp2
      go_round
      case rel => exact ⟨k + 1, N + l.length, by omega, by go_num, by go_num, by omega, by show _ = _; rw [HL.out, hrest.out]⟩
      case measure => simp [intOf]; omega
    · obtain rfl : k = n := by omega
      go_wp2
      go_ret
      exact ⟨ret_int (by rw [hrest.out]), hB0⟩

set_option maxHeartbeats 400000 in
theorem count_any (v : Value) (f : Fn) (w : World) (hf : FnAt w.heap.size w v f) (hs : f.blocks.length ≤ 100000) :
    Calls Tryz.prog 45 #[v] w fun e w' => e = .returned (.int .i64 (Ref.count f)) ∧ Gr w w' := by
  have hf0 := hf
  obtain ⟨vp, vs, vb, rfl, hp, hs', hb⟩ := hf
  obtain ⟨Ap, cp, rfl, hp1, hp2, hp3⟩ := hp
  obtain ⟨As, cs, rfl, hs1, hs2, hs3⟩ := hs'
  obtain ⟨Ab, cb, rfl, hb1, hb2, hb3⟩ := hb
  clear hp3 hs3 hb3
  have hB0 : Gr w (w.alloc (.cells #[.slice Ap f.params.length cp, .int .i64 f.ret, .slice As f.slots.length cs, .slice Ab f.blocks.length cb] 25)) := (Gr.refl _).alloc _
  have C := Number_any _ f f.blocks.length _ (hf0.gr hB0) (Nat.le_refl _) hs
  have H := Lib.hid C
  clear C hf0
  go_enter Tryz.func45, Tryz.ntmps45
  go_wp2_with fail
  refine H.out.mono ?_
  rintro e w1 ⟨rfl, g1⟩
  go_wp2_with fail
  go_ret
  exact ⟨rfl, hB0.trans g1⟩

set_option maxHeartbeats 1000000 in
theorem where_any (v : Value) (f : Fn) (z : Int) (w : World) (hf : FnAt w.heap.size w v f) (hs : f.blocks.length ≤ 100000) (hz1 : -9223372036854775808 ≤ z) (hz2 : z ≤ 9223372036854775807) :
    Calls Tryz.prog 89 #[v, .int .i64 z] w fun e w' => e = .returned (.tuple #[.int .i64 (Ref.whereIs f z).1, .int .i64 (Ref.whereIs f z).2]) ∧ Gr w w' := by
  obtain ⟨vp, vs, vb, rfl, hp, hs', hb⟩ := hf
  obtain ⟨Ap, cp, rfl, hp1, hp2, hp3⟩ := hp
  obtain ⟨As, cs, rfl, hs1, hs2, hs3⟩ := hs'
  obtain ⟨Ab, cb, rfl, hb1, hb2, hb3⟩ := hb
  clear hp3 hs3
  have hB0 : Gr w (w.alloc (.cells #[.slice Ap f.params.length cp, .int .i64 f.ret, .slice As f.slots.length cs, .slice Ab f.blocks.length cb] 25)) := (Gr.refl _).alloc _
  go_enter Tryz.func89, Tryz.ntmps89
  go_wp2
  go_loop [6, 7] (fun s b => ∃ k N : Nat, k ≤ f.blocks.length ∧ b = .int .i64 k ∧ s = .int .i64 N ∧ N ≤ 17592186044416 * (k + 1) ∧ Hid (Ref.whereIs f z = Ref.whereFrom z (f.blocks.drop k) k N)) (fun _ b => f.blocks.length - (intOf b).toNat)
  case atStart => exact ⟨0, _, Nat.zero_le _, rfl, rfl, by omega, by show _ = _; simp [Ref.whereIs]⟩
  case round =>
    obtain ⟨k, N, hk, rfl, rfl, hN, hrest⟩ := hrel
    rcases hr : f.blocks.drop k with _ | ⟨l, r⟩
    · have hkn := drop_nil hr hk
      subst hkn
      have HR : Hid (Ref.whereIs f z = (-1, -1)) := by show _ = _; rw [hrest.out, hr]; rfl
      clear hr hrest
      go_wp2
      go_ret2
      exact ⟨ret_val (by rw [HR.out]; rfl), hB0⟩
    · obtain ⟨hlt, hl, hr'⟩ := drop_cons hr
      obtain ⟨bb, ob, rfl, hbb, hcells⟩ := hb3 (by omega)
      obtain ⟨u, hu, hul⟩ := hcells k l hl
      obtain ⟨Al, cl, rfl, hl1, hl2, hl3⟩ := hul
      have HR : Hid (Ref.whereIs f z = if (N : Int) ≤ z ∧ z < N + l.length then ((k : Int), z - N) else Ref.whereFrom z r (k + 1) (N + l.length)) := by
        show _ = _; rw [hrest.out, hr]; rfl
      have HR' : Hid (f.blocks.drop (k + 1) = r) := hr'
      clear hr hl hr' hrest hcells hb3 hl3
      by_cases h1 : (N : Int) ≤ z
      · by_cases h2 : z < N + l.length
        · go_wp2
          go_ret2
          exact ⟨ret_val (by rw [HR.out, if_pos ⟨h1, h2⟩]; rfl), hB0⟩
        · go_wp2
          go_round
          case rel => exact ⟨k + 1, N + l.length, by omega, by go_num, by go_num, by omega, by show _ = _; rw [HR.out, if_neg (by omega), HR'.out]⟩
          case measure => simp [intOf]; omega
      · go_wp2
        go_round
        case rel => exact ⟨k + 1, N + l.length, by omega, by go_num, by go_num, by omega, by show _ = _; rw [HR.out, if_neg (by omega), HR'.out]⟩
        case measure => simp [intOf]; omega

set_option maxRecDepth 100000 in
set_option maxHeartbeats 1000000 in
theorem kind_any (v : Value) (f : Fn) (z : Int) (w : World) (hf : FnAt w.heap.size w v f) (hs : f.blocks.length ≤ 100000) (hz1 : -9223372036854775808 ≤ z) (hz2 : z ≤ 9223372036854775807) :
    Calls Tryz.prog 75 #[v, .int .i64 z] w fun e w' => e = .returned (.int .i64 (Ref.kind f z)) ∧ Gr w w' := by
  have hf0 := hf
  obtain ⟨vp, vs, vb, rfl, hp, hs', hb⟩ := hf
  obtain ⟨Ap, cp, rfl, hp1, hp2, hp3⟩ := hp
  obtain ⟨As, cs, rfl, hs1, hs2, hs3⟩ := hs'
  obtain ⟨Ab, cb, rfl, hb1, hb2, hb3⟩ := hb
  clear hs3
  have hB0 : Gr w (w.alloc (.cells #[.slice Ap f.params.length cp, .int .i64 f.ret, .slice As f.slots.length cs, .slice Ab f.blocks.length cb] 25)) := (Gr.refl _).alloc _
  by_cases hz : z < 0
  · clear hp3 hb3 hf0
    go_enter Tryz.func75, Tryz.ntmps75
    go_wp2
    go_ret
    exact ⟨ret_int (by unfold Ref.kind; rw [if_pos (by omega)]), hB0⟩
  · have C := count_any _ f _ (hf0.gr hB0) hs
    have HC := Lib.hid C
    clear C
    by_cases hc : (Ref.count f : Int) ≤ z
    · clear hp3 hb3 hf0
      go_enter Tryz.func75, Tryz.ntmps75
      go_wp2_with (go_at_call 45; refine HC.out.mono ?_; rintro e w1 ⟨rfl, g1⟩)
      go_ret
      exact ⟨ret_int (by unfold Ref.kind; rw [if_pos (by omega)]), hB0.trans g1⟩
    · by_cases hp : z < f.params.length
      · obtain ⟨bp, op, rfl, hbp, hcp⟩ := hp3 (by omega)
        obtain ⟨n, rfl⟩ := Int.eq_ofNat_of_zero_le (show 0 ≤ z by omega)
        obtain ⟨y, hy⟩ : ∃ y, f.params[n]? = some y := ⟨f.params[n]'(by omega), by simp [show n < f.params.length by omega]⟩
        have hcell := hcp n y hy
        have hk : Ref.kind f n = y := by unfold Ref.kind; rw [if_neg (by omega), if_pos (by omega)]; simp [hy]
        have HK := Lib.hid hk
        have z0 : (0 : Int) ≤ n := by omega
        have z1 : n < f.params.length := by omega
        clear hk hy hcp hp3 hb3 hf0
        go_enter Tryz.func75, Tryz.ntmps75
        go_wp2_with (go_at_call 45; refine HC.out.mono ?_; rintro e w1 ⟨rfl, g1⟩; have hc0 := g1.cell w.heap.size 0 (by simp); have hc3 := g1.cell w.heap.size 3 (by simp); have hc4 := (g1.cell bp (op + n) (by simp; omega)).trans ((hB0.cell bp (op + n) hbp).trans hcell); simp at hc0 hc3)
        go_ret
        exact ⟨ret_int (by rw [HK.out]), hB0.trans g1⟩
      · obtain ⟨j, i, l, x, hw, hl, hx, -⟩ := Ref.whereIs_some f z (by omega) (by omega)
        obtain ⟨hjl, -⟩ := List.getElem?_eq_some_iff.1 hl
        obtain ⟨hil, -⟩ := List.getElem?_eq_some_iff.1 hx
        obtain ⟨bb, ob, rfl, hbb, hcells⟩ := hb3 (by omega)
        obtain ⟨u, hu, hul⟩ := hcells j l hl
        obtain ⟨Al, cl, rfl, hl1, hl2, hl3⟩ := hul
        obtain ⟨bl, ol, rfl, hbl, hcl⟩ := hl3 (by omega)
        obtain ⟨va, vt, -, hwd, -, -, -, -, -, -⟩ := hcl i x hx
        have HK : Hid (Ref.kind f z = x.width) := by
          show _ = _
          unfold Ref.kind
          rw [if_neg (by omega), if_neg (by omega), hw]
          simp [Ref.insAt?, hl, hx]
        have HC2 : Hid (∀ w1, Gr w w1 → Calls Tryz.prog 89 #[.agg #[.slice Ap f.params.length cp, .int .i64 f.ret, .slice As f.slots.length cs, .slice (some ⟨bb, ob, none⟩) f.blocks.length cb], .int .i64 z] w1 fun e w' => e = .returned (.tuple #[.int .i64 j, .int .i64 i]) ∧ Gr w1 w') := fun w1 g1 => by
          have := where_any _ f z w1 (hf0.gr g1) hs hz1 hz2
          rw [hw] at this
          exact this
        clear hw hl hx hp3 hb3 hf0 hcells hl3 hcl
        go_enter Tryz.func75, Tryz.ntmps75
        go_wp2_with (first
          | (go_at_call 45; refine HC.out.mono ?_; rintro e w1 ⟨rfl, g1⟩; have hc0 := g1.cell w.heap.size 0 (by simp); have hc1 := g1.cell w.heap.size 1 (by simp); have hc2 := g1.cell w.heap.size 2 (by simp); have hc3 := g1.cell w.heap.size 3 (by simp); simp at hc0 hc1 hc2 hc3)
          | (go_at_call 89; refine (HC2.out _ (hB0.trans g1)).mono ?_; rintro e w2 ⟨rfl, g2⟩; have g12 := g1.trans g2; have hd3 := g12.cell w.heap.size 3 (by simp); simp at hd3; have hu2 := ((hB0.trans g12).cell bb (ob + j) hbb).trans hu; have hwd2 := ((hB0.trans g12).cell bl (ol + i * 6 + 1) hbl).trans hwd))
        go_ret
        exact ⟨ret_int (by rw [HK.out]), (hB0.trans g1).trans g2⟩
end Go.Proofs.YtiadpjhlomhjeaaGreat

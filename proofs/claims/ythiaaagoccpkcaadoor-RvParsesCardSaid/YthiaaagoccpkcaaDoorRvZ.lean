/- wordAt, read: numbers in bytes. -/
import Derived.Test.YthiaaagoccpkcaaDoorRvY
import Derived.IntWalk
namespace Go.Proofs.YthiaaagoccpkcaaDoor
set_option linter.unusedSimpArgs false
set_option linter.unusedVariables false
open Go.RowKit

theorem getD_of {bs : List Int} {i : Nat} (h : i < bs.length) : bs[i]? = some (bs.getD i 0) := by
  rw [List.getD_eq_getElem?_getD, List.getElem?_eq_getElem h]; rfl
theorem or4 (b0 b1 b2 b3 : Int) (h0 : 0 ≤ b0 ∧ b0 < 256) (h1 : 0 ≤ b1 ∧ b1 < 256) (h2 : 0 ≤ b2 ∧ b2 < 256) (h3 : 0 ≤ b3 ∧ b3 < 256) :
    bits .or .u32 (bits .or .u32 (bits .or .u32 b0 (b1 * 256)) (b2 * 65536)) (b3 * 16777216) = b0 + b1 * 256 + b2 * 65536 + b3 * 16777216 := by
  rw [orL 8 256 b0 (b1 * 256) (by decide) (by omega) (by omega) (by omega) (by omega) (by omega),
    orL 16 65536 _ (b2 * 65536) (by decide) (by omega) (by omega) (by omega) (by omega) (by omega),
    orL 24 16777216 _ (b3 * 16777216) (by decide) (by omega) (by omega) (by omega) (by omega) (by omega)]
set_option maxRecDepth 100000 in
set_option maxHeartbeats 8000000 in
theorem wordAt_any (v : Value) (bs : List Int) (i : Nat) (w : World) (hv : BytesAt w v bs) (hi : i + 4 ≤ bs.length) :
    Calls Tryd.prog 49 #[v, .int .i64 i] w fun e w' => e = .returned (.int .u32 (Rv.rd bs i 4)) ∧ Gr w w' := by
  obtain ⟨hb, hs⟩ := hv
  rcases SlAt.cases hs with ⟨h0, -⟩ | ⟨h0, b, off, c, rfl, hc, hcm, hb', hR⟩
  · omega
  · have r0 := hR i _ (getD_of (by omega))
    have r1 := hR (i + 1) _ (getD_of (by omega))
    have r2 := hR (i + 2) _ (getD_of (by omega))
    have r3 := hR (i + 3) _ (getD_of (by omega))
    have HE := Lib.hid (Rv.rd4 bs i)
    have g0 := Rv.getD_in hb i
    have g1 := Rv.getD_in hb (i + 1)
    have g2 := Rv.getD_in hb (i + 2)
    have g3 := Rv.getD_in hb (i + 3)
    obtain ⟨y0, hy0⟩ : ∃ y, bs.getD (i + 0) 0 = y := ⟨_, rfl⟩
    obtain ⟨y1, hy1⟩ : ∃ y, bs.getD (i + 1) 0 = y := ⟨_, rfl⟩
    obtain ⟨y2, hy2⟩ : ∃ y, bs.getD (i + 2) 0 = y := ⟨_, rfl⟩
    obtain ⟨y3, hy3⟩ : ∃ y, bs.getD (i + 3) 0 = y := ⟨_, rfl⟩
    rw [Nat.add_zero] at hy0
    rw [hy0] at r0 g0 HE
    rw [hy1] at r1 g1 HE
    rw [hy2] at r2 g2 HE
    rw [hy3] at r3 g3 HE
    have HO := Lib.hid (or4 y0 y1 y2 y3 g0 g1 g2 g3)
    obtain ⟨n, hn⟩ : ∃ n, bs.length = n := ⟨_, rfl⟩
    rw [hn] at hi hc h0 ⊢
    unfold maxLen at hcm
    have m1 : y1 * 256 % 4294967296 = y1 * 256 := by omega
    have m2 : y2 * 65536 % 4294967296 = y2 * 65536 := by omega
    have m3 : y3 * 16777216 % 4294967296 = y3 * 16777216 := by omega
    have b0 : (i : Int) < (n : Int) := by omega
    have b1 : (i : Int) + 1 < (n : Int) := by omega
    have b2 : (i : Int) + 2 < (n : Int) := by omega
    have b3 : (i : Int) + 3 < (n : Int) := by omega
    have z0 : (0 : Int) ≤ (i : Int) := by omega
    have z1 : (0 : Int) ≤ (i : Int) + 1 := by omega
    have z2 : (0 : Int) ≤ (i : Int) + 2 := by omega
    have z3 : (0 : Int) ≤ (i : Int) + 3 := by omega
    have t1 : ((i : Int) + 1).toNat = i + 1 := by omega
    have t2 : ((i : Int) + 2).toNat = i + 2 := by omega
    have t3 : ((i : Int) + 3).toNat = i + 3 := by omega
    have s1 : IntKind.i64.wrap ((i : Int) + 1) = (i : Int) + 1 := IntWalk.i64_in _ (by omega)
    have s2 : IntKind.i64.wrap ((i : Int) + 2) = (i : Int) + 2 := IntWalk.i64_in _ (by omega)
    have s3 : IntKind.i64.wrap ((i : Int) + 3) = (i : Int) + 3 := IntWalk.i64_in _ (by omega)
    clear hs hb hR hy0 hy1 hy2 hy3 hn
    go_enter Tryd.func49, Tryd.ntmps49
    go_wp2
    go_quiet (fail)
    go_wp2
    go_ret
    exact ⟨ret_int (by rw [HE.out, ← HO.out]), (Gr.refl w).drewN _⟩

set_option maxRecDepth 100000 in
set_option maxHeartbeats 8000000 in
theorem read_any (v : Value) (bs : List Int) (i m : Nat) (w : World) (hv : BytesAt w v bs) (hi : i + m ≤ bs.length) (hm0 : 1 ≤ m) (hm : m ≤ 4) :
    Calls Tryd.prog 50 #[v, .int .i64 i, .int .i64 m] w fun e w' => e = .returned (.int .u32 (Rv.rd bs i m)) ∧ w = w' := by
  obtain ⟨hb, hs⟩ := hv
  rcases SlAt.cases hs with ⟨h0, -⟩ | ⟨h0, b, off, c, rfl, hc, hcm, hb', hR⟩
  · omega
  · have HR := Lib.hid hR
    have HB := Lib.hid hb
    have hl : (bs.length : Int) ≤ 9223372036854775807 := by unfold maxLen at hcm; omega
    obtain ⟨n, hn⟩ : ∃ n, bs.length = n := ⟨_, rfl⟩
    have HN := Lib.hid hn
    rw [hn] at hi hc h0 hl ⊢
    unfold maxLen at hcm
    have z0 : (0 : Int) ≤ (i : Int) := by omega
    clear hs hb hR hn
    go_enter Tryd.func50, Tryd.ntmps50
    go_wp2
    go_loop [7, 8] (fun s j => ∃ k : Nat, k ≤ m ∧ j = .int .i64 ((k : Int) - 1) ∧ s = .int .u32 (Rv.rd bs (i + k) (m - k))) (fun _ j => ((intOf j) + 1).toNat)
    case atStart => exact ⟨m, Nat.le_refl _, rfl, by rw [Nat.sub_self]; rfl⟩
    case round =>
      obtain ⟨k, hk, rfl, rfl⟩ := hrel
      cases k with
      | zero =>
        go_wp2
        go_ret
        exact ⟨rfl, rfl⟩
      | succ k =>
        have r0 := HR.out (i + k) _ (getD_of (by rw [HN.out]; omega))
        have g0 := Rv.getD_in HB.out (i + k)
        have HE : Hid (Rv.rd bs (i + k) (m - k) = bs.getD (i + k) 0 + 256 * Rv.rd bs (i + (k + 1)) (m - (k + 1))) := by
          show _ = _
          rw [show m - k = (m - (k + 1)) + 1 by omega]; rfl
        obtain ⟨q0, q1⟩ := Rv.rd_in HB.out (m - (k + 1)) (i + (k + 1))
        have q2 : Rv.rd bs (i + (k + 1)) (m - (k + 1)) < 16777216 := by
          rcases (by omega : m - (k + 1) = 0 ∨ m - (k + 1) = 1 ∨ m - (k + 1) = 2 ∨ m - (k + 1) = 3) with e | e | e | e <;> rw [e] at q1 ⊢ <;> simp only [Int.reducePow] at q1 <;> omega
        obtain ⟨N, hN⟩ : ∃ N, Rv.rd bs (i + (k + 1)) (m - (k + 1)) = N := ⟨_, rfl⟩
        obtain ⟨y, hy⟩ : ∃ y, bs.getD (i + k) 0 = y := ⟨_, rfl⟩
        rw [hN] at q0 q2 HE
        rw [hy] at r0 g0 HE
        rw [hN]
        have HO : Hid (bits .or .u32 (N * 256) y = y + N * 256) := by
          show _ = _
          exact orR 8 256 y (N * 256) (by decide) (by omega) (by omega) (by omega) (by omega) (by omega)
        have m1 : N * 256 % 4294967296 = N * 256 := by omega
        have b0 : (i : Int) + ((((k : Nat) + 1 : Nat) : Int) - 1) = ((i + k : Nat) : Int) := by omega
        have b1 : ((((k : Nat) + 1 : Nat) : Int) - 1) = (k : Int) := by omega
        clear q1 hN hy
        rw [b1]
        have b2 : (i : Int) + (k : Int) < (n : Int) := by omega
        clear b0 b1
        go_wp2
        go_round
        case rel => exact ⟨k, by omega, by go_num, by rw [HE.out, HO.out]; congr 1; omega⟩
        case measure => simp [intOf]
end Go.Proofs.YthiaaagoccpkcaaDoor

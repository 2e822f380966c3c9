/- The decoder's table: a key, and what stands at it. -/
import Derived.Test.YthiaaagoccpkcaaDoorRvK
import Derived.Maps.OwnSet
import Derived.DeepKeys4
namespace Go.Proofs.YthiaaagoccpkcaaDoor
open Go.RowKit Go.Maps

theorem laidOut : laidOutB Tryd.prog = true := by kernel_rfl
theorem typesSize : (Tryd.prog).types.size = 202 + 2 := by kernel_rfl
theorem fieldsRow : 108 < (Tryd.prog).types.size := by rw [typesSize]; omega
theorem fieldsWide : (match (Tryd.prog).underlying 108 with | some (.array _ _) | some (.struct _) => true | _ => false) = true := by kernel_rfl
theorem fieldsLaw : Keyed Tryd.prog 108 := Keyed.of_law (deep_law_laid laidOut (m := 2) (by omega) fieldsRow (by kernel_rfl) (by kernel_rfl))
theorem zeroInt (w : World) : (zeroValue 3).run Tryd.prog w = .ok (.int .i64 0) w := by kernel_rfl

/-- What a key reads as. -/
def kl (k : Int × Int × Int) : Lit := .string (keyBytes [.int .u32 k.1, .int .u32 k.2.1, .int .u32 k.2.2])
def keyV (k : Int × Int × Int) : Value := .agg #[.int .u32 k.1, .int .u32 k.2.1, .int .u32 k.2.2]
def keyOk (k : Int × Int × Int) : Prop := (0 ≤ k.1 ∧ k.1 < 4294967296) ∧ (0 ≤ k.2.1 ∧ k.2.1 < 4294967296) ∧ (0 ≤ k.2.2 ∧ k.2.2 < 4294967296)
theorem wf_u32 {n : Int} (h : 0 ≤ n ∧ n < 4294967296) : (Lit.int .u32 n).wf = true := by
  simp [Lit.wf, IntKind.min, IntKind.max, IntKind.signed, IntKind.bits]; omega
theorem fieldsKey : (Tryd.prog).keyType 108 = true := by kernel_rfl
theorem fieldsCells : (Tryd.prog).cellsOf 108 = 3 := by kernel_rfl
theorem u32Cells : (Tryd.prog).cellsOf 24 = 1 := by kernel_rfl
set_option maxRecDepth 100000 in
theorem keyOf_keyV (k : Int × Int × Int) (h : keyOk k) : keyOf Tryd.prog 108 (keyV k) = some (kl k) := by
  obtain ⟨c, t, s⟩ := k
  obtain ⟨h1, h2, h3⟩ := h
  have f : (keyV (c, t, s)).formed Tryd.prog 108 = true := by simp [Value.formed, keyV, Tryd.underlying108, fieldsCells]
  have w1 := wf_u32 h1
  have w2 := wf_u32 h2
  have w3 := wf_u32 h3
  unfold keyOf
  rw [Tryd.underlying108]
  dsimp only
  rw [fieldsKey, f, typesSize]
  simp only [Bool.and_self, if_true]
  unfold Program.keyLits
  rw [Tryd.underlying108]
  have l : ∀ n : Int, (Lit.int .u32 n).wf = true → (Tryd.prog).keyLits 204 24 [.int .u32 n] = some [.int .u32 n] := fun n hn => by
    show (Tryd.prog).keyLits (203 + 1) 24 [.int .u32 n] = _
    unfold Program.keyLits
    rw [Tryd.underlying24]
    simp only [hn, and_self, if_true]
  have l1 := l c w1
  have l2 := l t w2
  have l3 := l s w3
  have e : (keyV (c, t, s)).cells.toList = [.int .u32 c, .int .u32 t, .int .u32 s] := rfl
  rw [e]
  dsimp only
  rw [fieldsCells, if_pos ⟨rfl, by kernel_rfl⟩]
  simp only [List.mapM_cons, List.mapM_nil, u32Cells, List.drop_zero, List.drop_succ_cons, List.take_succ_cons, List.take_zero, l1, l2, l3]
  rfl
theorem kl_key (k : Int × Int × Int) : WideAt.IsKeyLit (kl k) := trivial
theorem kl_ne {a b : Int × Int × Int} (ha : keyOk a) (hb : keyOk b) (h : a ≠ b) : kl a ≠ kl b := fun e => h (by
  have h1 := keyOf_keyV a ha
  rw [e] at h1
  have h2 := fieldsLaw.inj h1 (keyOf_keyV b hb)
  obtain ⟨a1, a2, a3⟩ := a
  obtain ⟨b1, b2, b3⟩ := b
  simp [keyV] at h2
  obtain ⟨rfl, rfl, rfl⟩ := h2
  rfl)

/-- The table behind so many rounds. -/
def tabD : Nat → DataW Unit
  | 0 => .map []
  | n + 1 => (tabD n).put (kl (Rv.keyN n)) (.lit (.int .i64 n))
theorem tabD_map : ∀ n, IsMap (tabD n)
  | 0 => isMap_empty
  | n + 1 => (tabD_map n).put _ _
theorem keyN_ok (n : Nat) (h : n ≤ 40) : keyOk (Rv.keyN n) := by
  obtain ⟨h1, h2, h3⟩ := Rv.tabs n h
  unfold keyOk Rv.keyN
  dsimp only
  refine ⟨by omega, ?_, ?_⟩
  · split <;> omega
  · split <;> omega
/-- What a look-up finds. -/
theorem tabD_look (k : Int × Int × Int) (hk : keyOk k) : ∀ n, n ≤ 39 → Maps.has (tabD n) (kl k) = (Rv.lastOp n k).isSome ∧ (tabD n).atKey (kl k) (.lit (.int .i64 0)) = .lit (.int .i64 ((Rv.lastOp n k).getD 0 : Nat))
  | 0, _ => ⟨rfl, rfl⟩
  | n + 1, h => by
    obtain ⟨h1, h2⟩ := tabD_look k hk n (by omega)
    unfold tabD Rv.lastOp
    by_cases e : k = Rv.keyN n
    · rw [if_pos e, e]
      exact ⟨by rw [has_put_same (tabD_map n) (kl_key _)]; rfl, by rw [atKey_put_same (tabD_map n) (kl_key _)]; rfl⟩
    · rw [if_neg e]
      have hne : kl k ≠ kl (Rv.keyN n) := kl_ne hk (keyN_ok n (by omega)) e
      exact ⟨by rw [has_put_other hne]; exact h1, by rw [atKey_put_other hne]; exact h2⟩
/-- Block B is the decoder's table. -/
def DecAt (w : World) (B : Nat) : Prop := w.ownsMap Tryd.prog 108 (plainElem (H := Unit) Tryd.prog 3) B 39 (tabD 39)
theorem DecAt.gr {w w' : World} {B : Nat} (h : DecAt w B) (g : Gr w w') : DecAt w' B := by
  have hlt := World.ownsMap.lt h
  obtain ⟨es, clock, hb, r⟩ := h
  exact ⟨es, clock, (g.heap B hlt).trans hb, r⟩
end Go.Proofs.YthiaaagoccpkcaaDoor

/- The append laws at a step of a region that draws its order; small laws for such regions. -/
import Derived.Test.YtiadpjhlomhjeaaOwn
import Derived.Lib.Hide
import Derived.Deep.RegionHeld3
namespace Go.Proofs.Ytiadpjhlomhjeaa
open Go.RowKit

theorem wp_app1 {P : Program} {w : World} {o : Oper} {a : Act} {K : Act → World → Prop} {Q : Exit → Act → World → Prop} {B : Nat} {t e : TypeId} {i : TypeInfo} {z : Value} {bytes : Nat}
    (ht : P.underlying t = some (.slice e)) (hi : P.info? e = some i) (hz : i.zero = some z) (hsize : i.size = 1) (hby : i.bytes = bytes) (hzs : z.cells.size = 1) (hbb : bytes ≤ 128)
    (s x : Operand) (ho : o.op = .call { callee := .builtin .append, args := #[s, x], argTypes := #[t, t] })
    {v : Value} {xs : List Value} (hs : a.eval s = v) (hown : Own1 B e w v xs) {y : Value} {e' : TypeId} (hy : y.oneCell' = true) (hx : a.eval x = .slice (some ⟨w.heap.size, 0, none⟩) 1 1) (hlt : xs.length < 1099511627776) (hB : B ≤ w.heap.size)
    (h : ∀ A c w', Own1 B e w' (.slice A (xs.length + 1) c) (xs ++ [y]) → Below B w w' → (w.alloc (.cells #[y] e')).grownBy w' v.ownBlock → K (a.put o.dst (.slice A (xs.length + 1) c)) w') :
    o.wp P a (w.alloc (.cells #[y] e')) K Q := by
  refine wp_append_src s x t ho B e i z 1 bytes ht hi hz hsize hby hzs (by omega) v xs.length xs hs (own_gr hown ((Gr.refl _).alloc _)) _ 1 [y] hx (Src.new1 _ _ _) ?_ ?_ ?_ ?_ ?_
  · intro u hu; simp at hu; subst hu; exact hy
  · simp only [maxLen]; omega
  · have : (xs.length + 1) * bytes ≤ (xs.length + 1) * 128 := Nat.mul_le_mul_left _ hbb
    omega
  · simp; omega
  · intro v' w' hown' hg _
    have hown'' : Own1 B e w' v' (xs ++ [y]) := by unfold Own1; rw [List.length_append]; exact hown'
    obtain ⟨A, c, hv⟩ := hown''.form
    rw [List.length_append] at hv
    subst hv
    refine h A c w' hown'' ?_ hg
    refine (((Below.refl B w).alloc hB _)).grown hg (by simp; omega) (fun k hk => (own_block_lt hown k hk).1)

/-- At a step of a region that draws its order. -/
theorem step_app1 {P : Program} {w : World} {ops : Array Oper} {o : Oper} {a : Act} {K : Act → World → Prop} {Q : Exit → Act → World → Prop} {F : Prop} {B : Nat} {t e : TypeId} {i : TypeInfo} {z : Value} {bytes : Nat}
    (ht : P.underlying t = some (.slice e)) (hi : P.info? e = some i) (hz : i.zero = some z) (hsize : i.size = 1) (hby : i.bytes = bytes) (hzs : z.cells.size = 1) (hbb : bytes ≤ 128)
    (hgd : o.guard = none) (s x : Operand) (ho : o.op = .call { callee := .builtin .append, args := #[s, x], argTypes := #[t, t] })
    {v : Value} {xs : List Value} (hs : a.eval s = v) (hown : Own1 B e w v xs) {y : Value} {e' : TypeId} (hy : y.oneCell' = true) (hx : a.eval x = .slice (some ⟨w.heap.size, 0, none⟩) 1 1) (hlt : xs.length < 1099511627776) (hB : B ≤ w.heap.size)
    (h : ∀ A c w', Own1 B e w' (.slice A (xs.length + 1) c) (xs ++ [y]) → Below B w w' → (w.alloc (.cells #[y] e')).grownBy w' v.ownBlock → K (a.put o.dst (.slice A (xs.length + 1) c)) w') :
    if Region.wanted o (yielded ops a.tmps) = true then Oper.wp P o a (w.alloc (.cells #[y] e')) K Q else F := by
  have hw : Region.wanted o (yielded ops a.tmps) = true := by simp [Region.wanted, hgd]
  rw [if_pos hw]
  exact wp_app1 ht hi hz hsize hby hzs hbb s x ho hs hown hy hx hlt hB h
end Go.Proofs.Ytiadpjhlomhjeaa

/- What values and memory hold: functions of middle code as data, and where they lie. No program in sight. -/
import Derived.WalkKit
import Derived.WalkSpells
import Derived.WalkLawsBesides
namespace Go.Proofs.Ytiadpjhlomhjeaa
open Go.RowKit

/-- An instruction as data. -/
structure Ins where
  op : Int
  width : Int
  flags : Int
  args : List Int
  imm : Int
  to : List Int
  deriving Inhabited, DecidableEq

/-- A function as data. -/
structure Fn where
  params : List Int
  ret : Int
  slots : List Int
  blocks : List (List Ins)
  deriving Inhabited, DecidableEq

/-- v is a slice of n elements; where there is one it begins at block b < B, offset off, of which R speaks. -/
def SlAt (B : Nat) (v : Value) (n : Nat) (R : Nat → Nat → Prop) : Prop :=
  ∃ A cap, v = .slice A n cap ∧ n ≤ cap ∧ n ≤ 17592186044416 ∧ (0 < n → ∃ b off, A = some ⟨b, off, none⟩ ∧ b < B ∧ R b off)

/-- v reads as the numbers zs. -/
def IntsAt (B : Nat) (w : World) (v : Value) (zs : List Int) : Prop :=
  SlAt B v zs.length fun b off => ∀ j z, zs[j]? = some z → w.cell? ⟨b, off + j, none⟩ = some (.int .i64 z)

/-- The six cells of an instruction. -/
def InsAt (B : Nat) (w : World) (b off : Nat) (x : Ins) : Prop :=
  ∃ va vt, w.cell? ⟨b, off, none⟩ = some (.int .i64 x.op) ∧ w.cell? ⟨b, off + 1, none⟩ = some (.int .i64 x.width) ∧ w.cell? ⟨b, off + 2, none⟩ = some (.int .i64 x.flags) ∧
    w.cell? ⟨b, off + 3, none⟩ = some va ∧ w.cell? ⟨b, off + 4, none⟩ = some (.int .u32 x.imm) ∧ w.cell? ⟨b, off + 5, none⟩ = some vt ∧ IntsAt B w va x.args ∧ IntsAt B w vt x.to

/-- v reads as a block of instructions. -/
def BlkAt (B : Nat) (w : World) (v : Value) (l : List Ins) : Prop :=
  SlAt B v l.length fun b off => ∀ j x, l[j]? = some x → InsAt B w b (off + j * 6) x

/-- v reads as blocks. -/
def BlksAt (B : Nat) (w : World) (v : Value) (bs : List (List Ins)) : Prop :=
  SlAt B v bs.length fun b off => ∀ j l, bs[j]? = some l → ∃ u, w.cell? ⟨b, off + j, none⟩ = some u ∧ BlkAt B w u l

/-- v reads as a function. -/
def FnAt (B : Nat) (w : World) (v : Value) (f : Fn) : Prop :=
  ∃ vp vs vb, v = .agg #[vp, .int .i64 f.ret, vs, vb] ∧ IntsAt B w vp f.params ∧ IntsAt B w vs f.slots ∧ BlksAt B w vb f.blocks

section
variable {B : Nat} {w w' : World}

theorem SlAt.imp {v : Value} {n : Nat} {R R' : Nat → Nat → Prop} (h : SlAt B v n R) (hr : ∀ b off, b < B → R b off → R' b off) : SlAt B v n R' := by
  obtain ⟨A, cap, rfl, h1, h2, h3⟩ := h
  refine ⟨A, cap, rfl, h1, h2, fun hn => ?_⟩
  obtain ⟨b, off, e, hb, hR⟩ := h3 hn
  exact ⟨b, off, e, hb, hr b off hb hR⟩

theorem IntsAt.below {v : Value} {zs : List Int} (h : IntsAt B w v zs) (hb : Below B w w') : IntsAt B w' v zs :=
  SlAt.imp h fun b off hlt hR j z hz => (hb.cell (p := ⟨b, off + j, none⟩) hlt).trans (hR j z hz)

theorem InsAt.below {b off : Nat} {x : Ins} (h : InsAt B w b off x) (hlt : b < B) (hb : Below B w w') : InsAt B w' b off x := by
  obtain ⟨va, vt, h0, h1, h2, h3, h4, h5, ha, ht⟩ := h
  exact ⟨va, vt, (hb.cell (p := ⟨b, off, none⟩) hlt).trans h0, (hb.cell (p := ⟨b, off + 1, none⟩) hlt).trans h1, (hb.cell (p := ⟨b, off + 2, none⟩) hlt).trans h2,
    (hb.cell (p := ⟨b, off + 3, none⟩) hlt).trans h3, (hb.cell (p := ⟨b, off + 4, none⟩) hlt).trans h4, (hb.cell (p := ⟨b, off + 5, none⟩) hlt).trans h5, ha.below hb, ht.below hb⟩

theorem BlkAt.below {v : Value} {l : List Ins} (h : BlkAt B w v l) (hb : Below B w w') : BlkAt B w' v l :=
  SlAt.imp h fun _ _ hlt hR j x hx => (hR j x hx).below hlt hb

theorem BlksAt.below {v : Value} {bs : List (List Ins)} (h : BlksAt B w v bs) (hb : Below B w w') : BlksAt B w' v bs :=
  SlAt.imp h fun b off hlt hR j l hl => by
    obtain ⟨u, hu, hbl⟩ := hR j l hl
    exact ⟨u, (hb.cell (p := ⟨b, off + j, none⟩) hlt).trans hu, hbl.below hb⟩

theorem FnAt.below {v : Value} {f : Fn} (h : FnAt B w v f) (hb : Below B w w') : FnAt B w' v f := by
  obtain ⟨vp, vs, vb, rfl, h1, h2, h3⟩ := h
  exact ⟨vp, vs, vb, rfl, h1.below hb, h2.below hb, h3.below hb⟩

theorem SlAt.mono {B' : Nat} {v : Value} {n : Nat} {R : Nat → Nat → Prop} (h : SlAt B v n R) (hB : B ≤ B') : SlAt B' v n R := by
  obtain ⟨A, cap, rfl, h1, h2, h3⟩ := h
  refine ⟨A, cap, rfl, h1, h2, fun hn => ?_⟩
  obtain ⟨b, off, e, hb, hR⟩ := h3 hn
  exact ⟨b, off, e, by omega, hR⟩
theorem IntsAt.mono {B' : Nat} {v : Value} {zs : List Int} (h : IntsAt B w v zs) (hB : B ≤ B') : IntsAt B' w v zs := SlAt.mono h hB
theorem InsAt.mono {B' b off : Nat} {x : Ins} (h : InsAt B w b off x) (hB : B ≤ B') : InsAt B' w b off x := by
  obtain ⟨va, vt, h0, h1, h2, h3, h4, h5, ha, ht⟩ := h
  exact ⟨va, vt, h0, h1, h2, h3, h4, h5, ha.mono hB, ht.mono hB⟩
theorem BlkAt.mono {B' : Nat} {v : Value} {l : List Ins} (h : BlkAt B w v l) (hB : B ≤ B') : BlkAt B' w v l :=
  SlAt.mono (SlAt.imp h fun _ _ _ hR j x hx => (hR j x hx).mono hB) hB
theorem BlksAt.mono {B' : Nat} {v : Value} {bs : List (List Ins)} (h : BlksAt B w v bs) (hB : B ≤ B') : BlksAt B' w v bs :=
  SlAt.mono (SlAt.imp h fun _ _ _ hR j l hl => by
    obtain ⟨u, hu, hbl⟩ := hR j l hl
    exact ⟨u, hu, hbl.mono hB⟩) hB
theorem FnAt.mono {B' : Nat} {v : Value} {f : Fn} (h : FnAt B w v f) (hB : B ≤ B') : FnAt B' w v f := by
  obtain ⟨vp, vs, vb, rfl, h1, h2, h3⟩ := h
  exact ⟨vp, vs, vb, rfl, h1.mono hB, h2.mono hB, h3.mono hB⟩
end

/-- The list from a place on: what a loop has yet to do. -/
theorem drop_cons {α : Type} {l : List α} {k : Nat} {x : α} {r : List α} (h : l.drop k = x :: r) : k < l.length ∧ l[k]? = some x ∧ l.drop (k + 1) = r := by
  have hk : k < l.length := by
    rcases Nat.lt_or_ge k l.length with h1 | h1
    · exact h1
    · rw [List.drop_eq_nil_of_le h1] at h; cases h
  rw [List.drop_eq_getElem_cons hk] at h
  injection h with h1 h2
  exact ⟨hk, by rw [List.getElem?_eq_getElem hk, h1], h2⟩
theorem drop_nil {α : Type} {l : List α} {k : Nat} (h : l.drop k = []) (hk : k ≤ l.length) : k = l.length := by
  have := List.drop_eq_nil_iff.1 h
  omega
end Go.Proofs.Ytiadpjhlomhjeaa

/- all: the iterator over the instructions of a function; its contract. -/
import Derived.RangeFuncNested
import Derived.RangeFuncBound
import Derived.RangeFuncCalls
import Derived.RangeFuncLeaves
import Derived.Shelf.Abstract
import Derived.Shelf.RegionOpen
import Derived.WalkKit
import Derived.OwnWalkIn
import Derived.TacticsInMore
import Derived.LoopNIn
import Derived.LoopIn
import Derived.Test.YtiadpjhlomhjeaaRefA
namespace Go.Proofs.Ytiadpjhlomhjeaa
open Go.RowKit Go.Shelf

attribute [local go_sem] Oper.semAt_some

/-- An instruction with its number, its block, and its place. -/
structure It where
  ins : Ins
  num : Nat
  blk : Nat
  pos : Nat
namespace Ir
def itemsB (l : List Ins) (n b : Nat) : List It := l.mapIdx fun i x => ⟨x, n + i, b, i⟩
def itemsFrom : List (List Ins) → Nat → Nat → List It
  | [], _, _ => []
  | l :: r, n, b => itemsB l n b ++ itemsFrom r (n + l.length) (b + 1)
/-- All instructions, in the order in which 'all' hands them out. -/
def items (f : Fn) : List It := itemsFrom f.blocks f.params.length 0
end Ir
/-- What the iterator hands out: an instruction and the two slices of its value. -/
structure ItV where
  it : It
  aa : Option Addr
  ca : Nat
  ta : Option Addr
  ct : Nat
def ItV.va (y : ItV) : Value := .slice y.aa y.it.ins.args.length y.ca
def ItV.vt (y : ItV) : Value := .slice y.ta y.it.ins.to.length y.ct
def ItV.enc (y : ItV) : Value := .agg #[.int .i64 y.it.ins.op, .int .i64 y.it.ins.width, .int .i64 y.it.ins.flags, .slice y.aa y.it.ins.args.length y.ca, .int .u32 y.it.ins.imm, .slice y.ta y.it.ins.to.length y.ct, .int .i64 y.it.num, .int .i64 y.it.blk, .int .i64 y.it.pos]
/-- .. the slices reading, below n₀, as the instruction's. -/
def Good (n₀ : Nat) (w0 : World) (f : Fn) (y : ItV) : Prop := IntsAt n₀ w0 y.va y.it.ins.args ∧ IntsAt n₀ w0 y.vt y.it.ins.to ∧ y.it ∈ Ir.items f
abbrev GI (n₀ : Nat) (w0 : World) (f : Fn) : Type := { y : ItV // Good n₀ w0 f y }
def prj {n₀ : Nat} {w0 : World} {f : Fn} (pre : List (GI n₀ w0 f)) : List It := pre.map (·.1.it)

theorem itemsB_get (l : List Ins) (n b i : Nat) (x : Ins) (h : l[i]? = some x) : (Ir.itemsB l n b)[i]? = some ⟨x, n + i, b, i⟩ := by simp [Ir.itemsB, h]
theorem itemsB_len (l : List Ins) (n b : Nat) : (Ir.itemsB l n b).length = l.length := by simp [Ir.itemsB]
theorem itemsFrom_split (k : Nat) : ∀ (bs : List (List Ins)) (n b : Nat) (l : List Ins), bs[k]? = some l →
    Ir.itemsFrom bs n b = Ir.itemsFrom (bs.take k) n b ++ (Ir.itemsB l (n + ((bs.take k).map List.length).sum) (b + k) ++ Ir.itemsFrom (bs.drop (k + 1)) (n + ((bs.take (k + 1)).map List.length).sum) (b + (k + 1))) := by
  induction k with
  | zero =>
    intro bs n b l h
    cases bs with
    | nil => simp at h
    | cons a r => simp at h; subst h; simp [Ir.itemsFrom]
  | succ k ih =>
    intro bs n b l h
    cases bs with
    | nil => simp at h
    | cons a r =>
      have := ih r (n + a.length) (b + 1) l (by simpa using h)
      rw [Ir.itemsFrom, this]
      simp only [List.take_succ_cons, Ir.itemsFrom, List.map_cons, List.sum_cons, List.drop_succ_cons, List.append_assoc]
      rw [show n + a.length + ((r.take k).map List.length).sum = n + (a.length + ((r.take k).map List.length).sum) by omega, show b + 1 + k = b + (k + 1) by omega,
        show n + a.length + ((r.take (k + 1)).map List.length).sum = n + (a.length + ((r.take (k + 1)).map List.length).sum) by omega, show b + 1 + (k + 1) = b + (k + 1 + 1) by omega]
/-- The items before place j of block k. -/
def upTo (f : Fn) (k j : Nat) : List It := Ir.itemsFrom (f.blocks.take k) f.params.length 0 ++ (Ir.itemsB (f.blocks.getD k []) (f.params.length + ((f.blocks.take k).map List.length).sum) k).take j
theorem upTo_succ (f : Fn) (k j : Nat) (l : List Ins) (x : Ins) (hl : f.blocks[k]? = some l) (hx : l[j]? = some x) : upTo f k (j + 1) = upTo f k j ++ [⟨x, f.params.length + ((f.blocks.take k).map List.length).sum + j, k, j⟩] := by
  unfold upTo
  rw [List.append_assoc]
  congr 1
  have h := itemsB_get (f.blocks.getD k []) (f.params.length + ((f.blocks.take k).map List.length).sum) k j x (by simp [List.getD, hl, hx])
  obtain ⟨h1, h2⟩ := List.getElem?_eq_some_iff.1 h
  rw [List.take_succ_eq_append_getElem h1, h2]
theorem upTo_next (f : Fn) (k : Nat) (l : List Ins) (hl : f.blocks[k]? = some l) : upTo f k l.length = upTo f (k + 1) 0 := by
  unfold upTo
  have hg : f.blocks.getD k [] = l := by simp [List.getD, hl]
  obtain ⟨h1, h2⟩ := List.getElem?_eq_some_iff.1 hl
  have hk : (f.blocks.take (k + 1))[k]? = some l := by rw [List.getElem?_take]; simp [hl]
  have := itemsFrom_split k (f.blocks.take (k + 1)) f.params.length 0 l hk
  rw [this, hg]
  simp [List.take_take, Ir.itemsFrom]
  exact List.take_of_length_le (by rw [itemsB_len]; omega)
theorem upTo_end (f : Fn) : upTo f f.blocks.length 0 = Ir.items f := by
  unfold upTo Ir.items; simp
theorem upTo_prefix (f : Fn) (k j : Nat) (l : List Ins) (hl : f.blocks[k]? = some l) : upTo f k j <+: Ir.items f := by
  unfold upTo Ir.items
  have hg : f.blocks.getD k [] = l := by simp [List.getD, hl]
  rw [itemsFrom_split k f.blocks f.params.length 0 l hl, hg, Nat.zero_add]
  exact (List.prefix_append_right_inj _).2 ((List.take_prefix _ _).trans (List.prefix_append _ _))
theorem item_mem (f : Fn) (k j : Nat) (l : List Ins) (x : Ins) (hl : f.blocks[k]? = some l) (hx : l[j]? = some x) : (⟨x, f.params.length + ((f.blocks.take k).map List.length).sum + j, k, j⟩ : It) ∈ Ir.items f := by
  refine (upTo_prefix f k (j + 1) l hl).subset ?_
  rw [upTo_succ f k j l x hl hx]
  simp

theorem AbidesFrom.alloc {β : Type} {J : β → World → Prop} {B : Nat} (h : AbidesFrom B J) {s : β} {W : World} (hs : J s W) (o : Obj) : J s (W.alloc o) := h s W _ none hs (World.grownBy_alloc W o none) (fun r e => by cases e)
theorem prj_len {n₀ : Nat} {w0 : World} {f : Fn} {pre : List (GI n₀ w0 f)} {l : List It} (h : prj pre = l) : pre.length = l.length := by rw [← h]; simp [prj]
theorem prj_snoc {n₀ : Nat} {w0 : World} {f : Fn} (pre : List (GI n₀ w0 f)) (y : GI n₀ w0 f) : prj (pre ++ [y]) = prj pre ++ [y.1.it] := by simp [prj]

set_option maxRecDepth 100000 in
set_option maxHeartbeats 4000000 in
/-- 'all's closure, for every loop body that keeps what lay below n₀. -/
theorem all1_in (n : Nat) (hn : 1 ≤ n) (l Bf n₀ B : Nat) (f : Fn) (vp vs vb : Value) (w0 : World) (hf : FnAt n₀ w0 (.agg #[vp, .int .i64 f.ret, vs, vb]) f) (hs : f.blocks.length ≤ 100000) (J Jx : List (GI n₀ w0 f) → World → Prop) (hJ : AbidesFrom B J)
    (hY : ∀ pre x W, J pre W → pre.length < (Ir.items f).length + 1 → YieldAt Fence.wide (n - 1) Try.prog l #[x.1.enc] W fun e W' =>
      (e = .returned (.bool true) ∧ J (pre ++ [x]) W' ∧ Below n₀ W W') ∨ (e = .returned (.bool false) ∧ Jx (pre ++ [x]) W'))
    (W : World) (d0 : W.cell? ⟨Bf, 0, none⟩ = some vp) (d3 : W.cell? ⟨Bf, 3, none⟩ = some vb) (hW : Below n₀ w0 W) (hn0 : n₀ ≤ w0.heap.size) (h0 : J [] W) :
    CallsIn Fence.wide n Try.prog 67 #[.func (.yield l) #[] #[], .pointer (some ⟨Bf, 0, none⟩)] W fun e W' => (∃ v, e = .returned v) ∧
      ((∃ ys, prj ys = Ir.items f ∧ J ys W') ∨ (∃ pre, prj pre <+: Ir.items f ∧ Jx pre W')) := by
  obtain ⟨vp', vs', vb', e, hp, -, hb⟩ := hf
  have e0 : vp = vp' := by simp at e; exact e.1
  have e3 : vb = vb' := by simp at e; exact e.2.2
  subst e0; subst e3
  clear e
  obtain ⟨Ap, cp, rfl, hp1, hp2, -⟩ := hp
  obtain ⟨Ab, cb, rfl, hb1, hb2, hb3⟩ := hb
  have HU0 : Hid (prj ([] : List (GI n₀ w0 f)) = upTo f 0 0) := by show _ = _; simp [prj, upTo, Ir.itemsFrom]
  have HJ := Lib.hid hJ
  have HY := Lib.hid hY
  clear hJ hY
  refine callsIn_of_wp Try.func67 rfl trivial ?_ rfl
  simp only [Try.ntmps67, List.size_toArray, List.length_cons, List.length_nil, Nat.reduceAdd, Nat.reduceSub, Array.replicate_succ, Array.replicate_zero, List.push_toArray, List.append_toArray, List.nil_append, List.cons_append]
  gi_wp2
  gi_loopw [3, 4, 5, 6, 7, 14, 21] (fun v _ _ _ _ i _ wr => ∃ (k N : Nat) (pre : List (GI n₀ w0 f)), k ≤ f.blocks.length ∧ i = .int .i64 k ∧ v = .int .i64 N ∧ N ≤ 17592186044416 * (k + 1) ∧ Hid (N = f.params.length + ((f.blocks.take k).map List.length).sum) ∧ Hid (prj pre = upTo f k 0) ∧ Hid (J pre wr) ∧ Below n₀ w0 wr)
    (fun _ _ _ _ _ i _ _ => f.blocks.length - (intOf i).toNat)
  case atStart => exact ⟨0, f.params.length, [], Nat.zero_le _, rfl, rfl, by omega, by show _ = _; simp, HU0, h0, hW⟩
  case round =>
    obtain ⟨k, N, pre, hk, rfl, rfl, hN, HNs, HP, HJk, hBk⟩ := hrel
    obtain ⟨wo, rfl⟩ : ∃ wo : World, wo = wr := ⟨_, rfl⟩
    by_cases hlt : k < f.blocks.length
    · obtain ⟨bb, ob, rfl, hbb, hcells⟩ := hb3 (by omega)
      obtain ⟨q, hq⟩ : ∃ q, f.blocks[k]? = some q := ⟨f.blocks[k], by simp [hlt]⟩
      obtain ⟨u, hu, hul⟩ := hcells k q hq
      have hu' := (hBk.cell (p := ⟨bb, ob + k, none⟩) hbb).trans hu
      obtain ⟨Al, cl, rfl, p1, p2, p3⟩ := hul
      have P3 := Lib.hid p3
      have HQ := Lib.hid hq
      have HN1 : Hid (((f.blocks.take (k + 1)).map List.length).sum = ((f.blocks.take k).map List.length).sum + q.length) := by
        show _ = _
        obtain ⟨e1, e2⟩ := List.getElem?_eq_some_iff.1 hq
        rw [List.take_succ_eq_append_getElem e1, e2, List.map_append, List.sum_append]; simp
      clear hcells hb3 hq hu p3
      gi_wp2
      gi_loopw [3, 6, 7, 21] (fun v _ _ i wr => ∃ (j m : Nat) (pre : List (GI n₀ w0 f)), j ≤ q.length ∧ i = .int .i64 j ∧ v = .int .i64 m ∧ m ≤ N + j ∧ Hid (m = N + j) ∧ Hid (prj pre = upTo f k j) ∧ Hid (J pre wr) ∧ Below n₀ w0 wr)
        (fun _ _ _ i _ => q.length - (intOf i).toNat)
      case atStart => exact ⟨0, N, pre, Nat.zero_le _, rfl, rfl, Nat.le_refl _, rfl, HP, HJk, hBk⟩
      case round =>
        obtain ⟨j, m, pre1, hj, rfl, rfl, hmle, hm, HPj, HJj, hBj⟩ := hrel
        obtain ⟨wp, rfl⟩ : ∃ wp : World, wp = wr := ⟨_, rfl⟩
        by_cases hlt2 : j < q.length
        · obtain ⟨x, hx⟩ : ∃ x, q[j]? = some x := ⟨q[j], by simp [hlt2]⟩
          obtain ⟨bl, ol, rfl, hbl, hcl⟩ := P3.out (by omega)
          obtain ⟨va, vt, i0, i1, i2, i3, i4, i5, hva, hvt⟩ := hcl j x hx
          have hva0 := hva
          have hvt0 := hvt
          obtain ⟨aa, ca, rfl, -, -, -⟩ := hva
          obtain ⟨ta, ct, rfl, -, -, -⟩ := hvt
          have j0 := (hBj.cell (p := ⟨bl, ol + j * 6, none⟩) hbl).trans i0
          have j1 := (hBj.cell (p := ⟨bl, ol + j * 6 + 1, none⟩) hbl).trans i1
          have j2 := (hBj.cell (p := ⟨bl, ol + j * 6 + 2, none⟩) hbl).trans i2
          have j3 := (hBj.cell (p := ⟨bl, ol + j * 6 + 3, none⟩) hbl).trans i3
          have j4 := (hBj.cell (p := ⟨bl, ol + j * 6 + 4, none⟩) hbl).trans i4
          have j5 := (hBj.cell (p := ⟨bl, ol + j * 6 + 5, none⟩) hbl).trans i5
          have hmn : m = f.params.length + ((f.blocks.take k).map List.length).sum + j := by rw [hm.out, HNs.out]
          have hmem : (⟨x, m, k, j⟩ : It) ∈ Ir.items f := by rw [hmn]; exact item_mem f k j q x HQ.out hx
          have HS : Hid (upTo f k (j + 1) = upTo f k j ++ [⟨x, m, k, j⟩]) := by show _ = _; rw [hmn]; exact upTo_succ f k j q x HQ.out hx
          have hlen : pre1.length < (Ir.items f).length + 1 := by
            have h1 := prj_len HPj.out
            have h2 := (upTo_prefix f k j q HQ.out).length_le
            omega
          have hJ1 : J pre1 (wp.alloc (.cells #[.int .i64 x.op, .int .i64 x.width, .int .i64 x.flags, .slice aa x.args.length ca, .int .u32 x.imm, .slice ta x.to.length ct] 51)) := AbidesFrom.alloc HJ.out HJj.out _
          obtain ⟨fn, tmps, assign, body, hy, hR⟩ := HY.out pre1 ⟨⟨⟨x, m, k, j⟩, aa, ca, ta, ct⟩, hva0, hvt0, hmem⟩ _ hJ1 hlen
          have HMEM : Hid (∀ y : GI n₀ w0 f, y.1.it = ⟨x, m, k, j⟩ → prj (pre1 ++ [y]) = upTo f k (j + 1)) := by
            intro y hy
            rw [prj_snoc, hy, HS.out, HPj.out]
          have HPRE : Hid (upTo f k (j + 1) <+: Ir.items f) := upTo_prefix f k (j + 1) q HQ.out
          have hBa : Below n₀ w0 (wp.alloc (.cells #[.int .i64 x.op, .int .i64 x.width, .int .i64 x.flags, .slice aa x.args.length ca, .int .u32 x.imm, .slice ta x.to.length ct] 51)) := hBj.alloc (by have := hBj.size; omega) _
          clear hx hcl i0 i1 i2 i3 i4 i5 hlen hJ1 hmn
          dsimp only [ItV.enc] at hy
          gi_wp2
          refine hR.mono ?_
          rintro e W3 (⟨rfl, hJ3, hk3⟩ | ⟨rfl, hJx3⟩)
          · have hB3 := hBa.trans hk3
            clear j0 j1 j2 j3 j4 j5
            gi_wp2
            go_roundw
            case rel => exact ⟨j + 1, m + 1, _, by omega, by go_num, by go_num, by omega, by (show _ = _; rw [hm.out]; omega), HMEM.out _ rfl, hJ3, hB3⟩
            case measure => simp [intOf]; omega
          · gi_wp2
            refine bodyPost_ret (results_none rfl _ _ _) rfl ?_
            exact ⟨⟨_, rfl⟩, .inr ⟨_, by rw [HMEM.out _ rfl]; exact HPRE.out, hJx3⟩⟩
        · obtain rfl : j = q.length := by omega
          have HP1 : Hid (prj pre1 = upTo f (k + 1) 0) := by show _ = _; rw [HPj.out]; exact upTo_next f k q HQ.out
          gi_wp2
          go_roundw
          case rel => exact ⟨k + 1, m, pre1, by omega, by go_num, rfl, by omega, by (show _ = _; rw [hm.out, HNs.out, HN1.out]; omega), HP1, HJj, hBj⟩
          case measure => simp [intOf]; omega
    · obtain rfl : k = f.blocks.length := by omega
      have HP1 : Hid (prj pre = Ir.items f) := by show _ = _; rw [HP.out]; exact upTo_end f
      gi_wp2
      go_end0
      exact ⟨⟨_, rfl⟩, .inl ⟨pre, HP1.out, HJk.out⟩⟩
end Go.Proofs.Ytiadpjhlomhjeaa

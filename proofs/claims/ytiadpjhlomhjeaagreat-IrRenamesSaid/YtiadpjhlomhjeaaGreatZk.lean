/- The items, the graph and the kinds of the program. -/
import Derived.RangeFuncNested
import Derived.RangeFuncBound
import Derived.RangeFuncCalls
import Derived.RangeFuncLeaves
import Derived.Shelf.Abstract
import Derived.Shelf.RegionOpen
import Derived.WalkKit
import Derived.OwnWalkIn
import Derived.TacticsInMore
import Derived.LoopNIn
import Derived.LoopIn
import Derived.Test.YtiadpjhlomhjeaaGreatRefA
import Derived.Test.YtiadpjhlomhjeaaGreatZi
import Derived.Lib.SliceRun
import Derived.Maps.AppendAt

namespace Go.Proofs.YtiadpjhlomhjeaaGreat
open Go.RowKit Go.Shelf

attribute [local go_sem] Oper.semAt_some

/-- An instruction with its number, its block, and its place. -/
structure It where
  ins : Ins
  num : Nat
  blk : Nat
  pos : Nat
namespace Ir
def itemsB (l : List Ins) (n b : Nat) : List It := l.mapIdx fun i x => ⟨x, n + i, b, i⟩
def itemsFrom : List (List Ins) → Nat → Nat → List It
  | [], _, _ => []
  | l :: r, n, b => itemsB l n b ++ itemsFrom r (n + l.length) (b + 1)
/-- All instructions, in the order in which 'all' hands them out. -/
def items (f : Fn) : List It := itemsFrom f.blocks f.params.length 0
end Ir
/-- What the iterator hands out: an instruction and the two slices of its value. -/
structure ItV where
  it : It
  aa : Option Addr
  ca : Nat
  ta : Option Addr
  ct : Nat
def ItV.va (y : ItV) : Value := .slice y.aa y.it.ins.args.length y.ca
def ItV.vt (y : ItV) : Value := .slice y.ta y.it.ins.to.length y.ct
def ItV.enc (y : ItV) : Value := .agg #[.int .i64 y.it.ins.op, .int .i64 y.it.ins.width, .int .i64 y.it.ins.flags, .slice y.aa y.it.ins.args.length y.ca, .int .u32 y.it.ins.imm, .slice y.ta y.it.ins.to.length y.ct, .int .i64 y.it.num, .int .i64 y.it.blk, .int .i64 y.it.pos]
/-- .. the slices reading, below n₀, as the instruction's. -/
def Good (n₀ : Nat) (w0 : World) (f : Fn) (y : ItV) : Prop := IntsAt n₀ w0 y.va y.it.ins.args ∧ IntsAt n₀ w0 y.vt y.it.ins.to ∧ y.it ∈ Ir.items f
abbrev GI (n₀ : Nat) (w0 : World) (f : Fn) : Type := { y : ItV // Good n₀ w0 f y }
def prj {n₀ : Nat} {w0 : World} {f : Fn} (pre : List (GI n₀ w0 f)) : List It := pre.map (·.1.it)

theorem itemsB_get (l : List Ins) (n b i : Nat) (x : Ins) (h : l[i]? = some x) : (Ir.itemsB l n b)[i]? = some ⟨x, n + i, b, i⟩ := by simp [Ir.itemsB, h]
theorem itemsB_len (l : List Ins) (n b : Nat) : (Ir.itemsB l n b).length = l.length := by simp [Ir.itemsB]
theorem itemsFrom_split (k : Nat) : ∀ (bs : List (List Ins)) (n b : Nat) (l : List Ins), bs[k]? = some l →
    Ir.itemsFrom bs n b = Ir.itemsFrom (bs.take k) n b ++ (Ir.itemsB l (n + ((bs.take k).map List.length).sum) (b + k) ++ Ir.itemsFrom (bs.drop (k + 1)) (n + ((bs.take (k + 1)).map List.length).sum) (b + (k + 1))) := by
  induction k with
  | zero =>
    intro bs n b l h
    cases bs with
    | nil => simp at h
    | cons a r => simp at h; subst h; simp [Ir.itemsFrom]
  | succ k ih =>
    intro bs n b l h
    cases bs with
    | nil => simp at h
    | cons a r =>
      have := ih r (n + a.length) (b + 1) l (by simpa using h)
      rw [Ir.itemsFrom, this]
      simp only [List.take_succ_cons, Ir.itemsFrom, List.map_cons, List.sum_cons, List.drop_succ_cons, List.append_assoc]
      rw [show n + a.length + ((r.take k).map List.length).sum = n + (a.length + ((r.take k).map List.length).sum) by omega, show b + 1 + k = b + (k + 1) by omega,
        show n + a.length + ((r.take (k + 1)).map List.length).sum = n + (a.length + ((r.take (k + 1)).map List.length).sum) by omega, show b + 1 + (k + 1) = b + (k + 1 + 1) by omega]
/-- The items before place j of block k. -/
def upTo (f : Fn) (k j : Nat) : List It := Ir.itemsFrom (f.blocks.take k) f.params.length 0 ++ (Ir.itemsB (f.blocks.getD k []) (f.params.length + ((f.blocks.take k).map List.length).sum) k).take j
theorem upTo_succ (f : Fn) (k j : Nat) (l : List Ins) (x : Ins) (hl : f.blocks[k]? = some l) (hx : l[j]? = some x) : upTo f k (j + 1) = upTo f k j ++ [⟨x, f.params.length + ((f.blocks.take k).map List.length).sum + j, k, j⟩] := by
  unfold upTo
  rw [List.append_assoc]
  congr 1
  have h := itemsB_get (f.blocks.getD k []) (f.params.length + ((f.blocks.take k).map List.length).sum) k j x (by simp [List.getD, hl, hx])
  obtain ⟨h1, h2⟩ := List.getElem?_eq_some_iff.1 h
  rw [List.take_succ_eq_append_getElem h1, h2]
theorem upTo_next (f : Fn) (k : Nat) (l : List Ins) (hl : f.blocks[k]? = some l) : upTo f k l.length = upTo f (k + 1) 0 := by
  unfold upTo
  have hg : f.blocks.getD k [] = l := by simp [List.getD, hl]
  obtain ⟨h1, h2⟩ := List.getElem?_eq_some_iff.1 hl
  have hk : (f.blocks.take (k + 1))[k]? = some l := by rw [List.getElem?_take]; simp [hl]
  have := itemsFrom_split k (f.blocks.take (k + 1)) f.params.length 0 l hk
  rw [this, hg]
  simp [List.take_take, Ir.itemsFrom]
  exact List.take_of_length_le (by rw [itemsB_len]; omega)
theorem upTo_end (f : Fn) : upTo f f.blocks.length 0 = Ir.items f := by
  unfold upTo Ir.items; simp
theorem upTo_prefix (f : Fn) (k j : Nat) (l : List Ins) (hl : f.blocks[k]? = some l) : upTo f k j <+: Ir.items f := by
  unfold upTo Ir.items
  have hg : f.blocks.getD k [] = l := by simp [List.getD, hl]
  rw [itemsFrom_split k f.blocks f.params.length 0 l hl, hg, Nat.zero_add]
  exact (List.prefix_append_right_inj _).2 ((List.take_prefix _ _).trans (List.prefix_append _ _))
theorem item_mem (f : Fn) (k j : Nat) (l : List Ins) (x : Ins) (hl : f.blocks[k]? = some l) (hx : l[j]? = some x) : (⟨x, f.params.length + ((f.blocks.take k).map List.length).sum + j, k, j⟩ : It) ∈ Ir.items f := by
  refine (upTo_prefix f k (j + 1) l hl).subset ?_
  rw [upTo_succ f k j l x hl hx]
  simp

theorem AbidesFrom.alloc {β : Type} {J : β → World → Prop} {B : Nat} (h : AbidesFrom B J) {s : β} {W : World} (hs : J s W) (o : Obj) : J s (W.alloc o) := h s W _ none hs (World.grownBy_alloc W o none) (fun r e => by cases e)
theorem prj_len {n₀ : Nat} {w0 : World} {f : Fn} {pre : List (GI n₀ w0 f)} {l : List It} (h : prj pre = l) : pre.length = l.length := by rw [← h]; simp [prj]
theorem prj_snoc {n₀ : Nat} {w0 : World} {f : Fn} (pre : List (GI n₀ w0 f)) (y : GI n₀ w0 f) : prj (pre ++ [y]) = prj pre ++ [y.1.it] := by simp [prj]

set_option maxRecDepth 100000 in
set_option maxHeartbeats 4000000 in
/-- 'all's closure, for every loop body that keeps what lay below n₀. -/
theorem all1_in (n : Nat) (hn : 1 ≤ n) (l Bf n₀ B : Nat) (f : Fn) (vp vs vb : Value) (w0 : World) (hf : FnAt n₀ w0 (.agg #[vp, .int .i64 f.ret, vs, vb]) f) (hs : f.blocks.length ≤ 100000) (J Jx : List (GI n₀ w0 f) → World → Prop) (hJ : AbidesFrom B J)
    (hY : ∀ pre x W, J pre W → pre.length < (Ir.items f).length + 1 → YieldAt Fence.wide (n - 1) Tryz.prog l #[x.1.enc] W fun e W' =>
      (e = .returned (.bool true) ∧ J (pre ++ [x]) W' ∧ Below n₀ W W') ∨ (e = .returned (.bool false) ∧ Jx (pre ++ [x]) W'))
    (W : World) (d0 : W.cell? ⟨Bf, 0, none⟩ = some vp) (d3 : W.cell? ⟨Bf, 3, none⟩ = some vb) (hW : Below n₀ w0 W) (hn0 : n₀ ≤ w0.heap.size) (h0 : J [] W) :
    CallsIn Fence.wide n Tryz.prog 52 #[.func (.yield l) #[] #[], .pointer (some ⟨Bf, 0, none⟩)] W fun e W' => (∃ v, e = .returned v) ∧
      ((∃ ys, prj ys = Ir.items f ∧ J ys W') ∨ (∃ pre, prj pre <+: Ir.items f ∧ Jx pre W')) := by
  obtain ⟨vp', vs', vb', e, hp, -, hb⟩ := hf
  have e0 : vp = vp' := by simp at e; exact e.1
  have e3 : vb = vb' := by simp at e; exact e.2.2
  subst e0; subst e3
  clear e
  obtain ⟨Ap, cp, rfl, hp1, hp2, -⟩ := hp
  obtain ⟨Ab, cb, rfl, hb1, hb2, hb3⟩ := hb
  have HU0 : Hid (prj ([] : List (GI n₀ w0 f)) = upTo f 0 0) := by show _ = _; simp [prj, upTo, Ir.itemsFrom]
  have HJ := Lib.hid hJ
  have HY := Lib.hid hY
  clear hJ hY
  refine callsIn_of_wp Tryz.func52 rfl trivial ?_ rfl
  simp only [Tryz.ntmps52, List.size_toArray, List.length_cons, List.length_nil, Nat.reduceAdd, Nat.reduceSub, Array.replicate_succ, Array.replicate_zero, List.push_toArray, List.append_toArray, List.nil_append, List.cons_append]
  gi_wp2
  gi_loopw [3, 4, 5, 6, 7, 14, 21] (fun v _ _ _ _ i _ wr => ∃ (k N : Nat) (pre : List (GI n₀ w0 f)), k ≤ f.blocks.length ∧ i = .int .i64 k ∧ v = .int .i64 N ∧ N ≤ 17592186044416 * (k + 1) ∧ Hid (N = f.params.length + ((f.blocks.take k).map List.length).sum) ∧ Hid (prj pre = upTo f k 0) ∧ Hid (J pre wr) ∧ Below n₀ w0 wr)
    (fun _ _ _ _ _ i _ _ => f.blocks.length - (intOf i).toNat)
  case atStart => exact ⟨0, f.params.length, [], Nat.zero_le _, rfl, rfl, by omega, by show _ = _; simp, HU0, h0, hW⟩
  case round =>
    obtain ⟨k, N, pre, hk, rfl, rfl, hN, HNs, HP, HJk, hBk⟩ := hrel
    obtain ⟨wo, rfl⟩ : ∃ wo : World, wo = wr := ⟨_, rfl⟩
    by_cases hlt : k < f.blocks.length
    · obtain ⟨bb, ob, rfl, hbb, hcells⟩ := hb3 (by omega)
      obtain ⟨q, hq⟩ : ∃ q, f.blocks[k]? = some q := ⟨f.blocks[k], by simp [hlt]⟩
      obtain ⟨u, hu, hul⟩ := hcells k q hq
      have hu' := (hBk.cell (p := ⟨bb, ob + k, none⟩) hbb).trans hu
      obtain ⟨Al, cl, rfl, p1, p2, p3⟩ := hul
      have P3 := Lib.hid p3
      have HQ := Lib.hid hq
      have HN1 : Hid (((f.blocks.take (k + 1)).map List.length).sum = ((f.blocks.take k).map List.length).sum + q.length) := by
        show _ = _
        obtain ⟨e1, e2⟩ := List.getElem?_eq_some_iff.1 hq
        rw [List.take_succ_eq_append_getElem e1, e2, List.map_append, List.sum_append]; simp
      clear hcells hb3 hq hu p3
      gi_wp2
      gi_loopw [3, 6, 7, 21] (fun v _ _ i wr => ∃ (j m : Nat) (pre : List (GI n₀ w0 f)), j ≤ q.length ∧ i = .int .i64 j ∧ v = .int .i64 m ∧ m ≤ N + j ∧ Hid (m = N + j) ∧ Hid (prj pre = upTo f k j) ∧ Hid (J pre wr) ∧ Below n₀ w0 wr)
        (fun _ _ _ i _ => q.length - (intOf i).toNat)
      case atStart => exact ⟨0, N, pre, Nat.zero_le _, rfl, rfl, Nat.le_refl _, rfl, HP, HJk, hBk⟩
      case round =>
        obtain ⟨j, m, pre1, hj, rfl, rfl, hmle, hm, HPj, HJj, hBj⟩ := hrel
        obtain ⟨wp, rfl⟩ : ∃ wp : World, wp = wr := ⟨_, rfl⟩
        by_cases hlt2 : j < q.length
        · obtain ⟨x, hx⟩ : ∃ x, q[j]? = some x := ⟨q[j], by simp [hlt2]⟩
          obtain ⟨bl, ol, rfl, hbl, hcl⟩ := P3.out (by omega)
          obtain ⟨va, vt, i0, i1, i2, i3, i4, i5, hva, hvt⟩ := hcl j x hx
          have hva0 := hva
          have hvt0 := hvt
          obtain ⟨aa, ca, rfl, -, -, -⟩ := hva
          obtain ⟨ta, ct, rfl, -, -, -⟩ := hvt
          have j0 := (hBj.cell (p := ⟨bl, ol + j * 6, none⟩) hbl).trans i0
          have j1 := (hBj.cell (p := ⟨bl, ol + j * 6 + 1, none⟩) hbl).trans i1
          have j2 := (hBj.cell (p := ⟨bl, ol + j * 6 + 2, none⟩) hbl).trans i2
          have j3 := (hBj.cell (p := ⟨bl, ol + j * 6 + 3, none⟩) hbl).trans i3
          have j4 := (hBj.cell (p := ⟨bl, ol + j * 6 + 4, none⟩) hbl).trans i4
          have j5 := (hBj.cell (p := ⟨bl, ol + j * 6 + 5, none⟩) hbl).trans i5
          have hmn : m = f.params.length + ((f.blocks.take k).map List.length).sum + j := by rw [hm.out, HNs.out]
          have hmem : (⟨x, m, k, j⟩ : It) ∈ Ir.items f := by rw [hmn]; exact item_mem f k j q x HQ.out hx
          have HS : Hid (upTo f k (j + 1) = upTo f k j ++ [⟨x, m, k, j⟩]) := by show _ = _; rw [hmn]; exact upTo_succ f k j q x HQ.out hx
          have hlen : pre1.length < (Ir.items f).length + 1 := by
            have h1 := prj_len HPj.out
            have h2 := (upTo_prefix f k j q HQ.out).length_le
            omega
          have hJ1 : J pre1 (wp.alloc (.cells #[.int .i64 x.op, .int .i64 x.width, .int .i64 x.flags, .slice aa x.args.length ca, .int .u32 x.imm, .slice ta x.to.length ct] 38)) := AbidesFrom.alloc HJ.out HJj.out _
          obtain ⟨fn, tmps, assign, body, hy, hR⟩ := HY.out pre1 ⟨⟨⟨x, m, k, j⟩, aa, ca, ta, ct⟩, hva0, hvt0, hmem⟩ _ hJ1 hlen
          have HMEM : Hid (∀ y : GI n₀ w0 f, y.1.it = ⟨x, m, k, j⟩ → prj (pre1 ++ [y]) = upTo f k (j + 1)) := by
            intro y hy
            rw [prj_snoc, hy, HS.out, HPj.out]
          have HPRE : Hid (upTo f k (j + 1) <+: Ir.items f) := upTo_prefix f k (j + 1) q HQ.out
          have hBa : Below n₀ w0 (wp.alloc (.cells #[.int .i64 x.op, .int .i64 x.width, .int .i64 x.flags, .slice aa x.args.length ca, .int .u32 x.imm, .slice ta x.to.length ct] 38)) := hBj.alloc (by have := hBj.size; omega) _
          clear hx hcl i0 i1 i2 i3 i4 i5 hlen hJ1 hmn
          dsimp only [ItV.enc] at hy
          gi_wp2
          refine hR.mono ?_
          rintro e W3 (⟨rfl, hJ3, hk3⟩ | ⟨rfl, hJx3⟩)
          · have hB3 := hBa.trans hk3
            clear j0 j1 j2 j3 j4 j5
            gi_wp2
            go_roundw
            case rel => exact ⟨j + 1, m + 1, _, by omega, by go_num, by go_num, by omega, by (show _ = _; rw [hm.out]; omega), HMEM.out _ rfl, hJ3, hB3⟩
            case measure => simp [intOf]; omega
          · gi_wp2
            refine bodyPost_ret (results_none rfl _ _ _) rfl ?_
            exact ⟨⟨_, rfl⟩, .inr ⟨_, by rw [HMEM.out _ rfl]; exact HPRE.out, hJx3⟩⟩
        · obtain rfl : j = q.length := by omega
          have HP1 : Hid (prj pre1 = upTo f (k + 1) 0) := by show _ = _; rw [HPj.out]; exact upTo_next f k q HQ.out
          gi_wp2
          go_roundw
          case rel => exact ⟨k + 1, m, pre1, by omega, by go_num, rfl, by omega, by (show _ = _; rw [hm.out, HNs.out, HN1.out]; omega), HP1, HJj, hBj⟩
          case measure => simp [intOf]; omega
    · obtain rfl : k = f.blocks.length := by omega
      have HP1 : Hid (prj pre = Ir.items f) := by show _ = _; rw [HP.out]; exact upTo_end f
      gi_wp2
      go_end0
      exact ⟨⟨_, rfl⟩, .inl ⟨pre, HP1.out, HJk.out⟩⟩
end Go.Proofs.YtiadpjhlomhjeaaGreat

namespace Go.Proofs.YtiadpjhlomhjeaaGreat
open Go.RowKit Go.Shelf

/-- 'all(f)': the function value; f lies in a box. -/
theorem all_in (f : Fn) (Ap As Ab : Option Addr) (np ns nb cp cs cb : Nat) (w : World) :
    Calls Tryz.prog 25 #[.agg #[.slice Ap np cp, .int .i64 f.ret, .slice As ns cs, .slice Ab nb cb]] w fun e w' =>
      e = .returned (.func (.func 52) #[] #[.pointer (some ⟨w.heap.size, 0, none⟩)]) ∧ w' = w.alloc (.cells #[.slice Ap np cp, .int .i64 f.ret, .slice As ns cs, .slice Ab nb cb] 25) := by
  go_enter Tryz.func25, Tryz.ntmps25
  go_wp2
  go_ret
  exact ⟨rfl, rfl⟩

theorem all_stops (n : Nat) (hn : 1 ≤ n) (Bf n₀ : Nat) (f : Fn) (vp vs vb : Value) (w0 W0 : World) (hf : FnAt n₀ w0 (.agg #[vp, .int .i64 f.ret, vs, vb]) f) (hn0 : n₀ ≤ w0.heap.size) (hb : Below n₀ w0 W0) (hs : f.blocks.length ≤ 100000) (hBf : Bf < W0.heap.size)
    (c0 : W0.cell? ⟨Bf, 0, none⟩ = some vp) (c3 : W0.cell? ⟨Bf, 3, none⟩ = some vb) :
    SeqStopsK Fence.wide n Tryz.prog 52 #[.pointer (some ⟨Bf, 0, none⟩)] (fun x : GI n₀ w0 f => #[x.1.enc]) (Below n₀) (fun ys => prj ys = Ir.items f) (fun pre => prj pre <+: Ir.items f) ((Ir.items f).length + 1) W0 :=
  fun l J Jx W hW hJ _ hY h0 => all1_in n hn l Bf n₀ W.heap.size f vp vs vb w0 hf hs J Jx hJ hY W ((hW.cell (p := ⟨Bf, 0, none⟩) hBf).trans c0) ((hW.cell (p := ⟨Bf, 3, none⟩) hBf).trans c3) (hb.trans (hW.mono (Nat.le_trans hn0 hb.size))) hn0 h0
end Go.Proofs.YtiadpjhlomhjeaaGreat

namespace Go.Proofs.YtiadpjhlomhjeaaGreat
open Go.RowKit

theorem Own1.lower {B B' : Nat} {e : TypeId} {w : World} {v : Value} {xs : List Value} (h : Own1 B' e w v xs) (hB : B ≤ B') : Own1 B e w v xs := by
  refine ⟨h.1, ?_⟩
  rcases h.2 with h | ⟨g, cap, cur, e, h, r⟩
  · exact .inl h
  · exact .inr ⟨g, cap, cur, e, Nat.le_trans hB h, r⟩

set_option maxRecDepth 100000 in
set_option maxHeartbeats 4000000 in
/-- slices.Clone at []int: a slice of the call's own. -/
theorem Clone_own (v : Value) (zs : List Int) (B : Nat) (w : World) (hz : IntsAt B w v zs) (hB : B ≤ w.heap.size) :
    Calls Tryz.prog 36 #[v] w fun e w' => ∃ A c, e = .returned (.slice A zs.length c) ∧ Own1 w.heap.size 3 w' (.slice A zs.length c) (zs.map (Value.int .i64)) ∧ Gr w w' := by
  obtain ⟨i0, hi, hz0, hz1, hz2⟩ := info_parts info_int
  have q22 : ∀ (w : World) (a : Option Addr) (n c : Nat), (binOp .eql 22 (.slice a n c) (.slice none 0 0)).run Tryz.prog w = .ok (.bool a.isNone) w := fun w a n c => Lib.run_eql_slice_nil w _ _ a n c 0 0 Tryz.underlying22
  have hz' := hz
  obtain ⟨A, c, rfl, h1, h2, h3⟩ := hz
  cases A with
  | none =>
    have hn : zs = [] := by
      cases zs with
      | nil => rfl
      | cons a r =>
        obtain ⟨b, o, e, -⟩ := h3 (by simp)
        cases e
    subst hn
    clear h3 hz'
    go_enter Tryz.func36, Tryz.ntmps36
    go_wp2
    go_ret
    exact ⟨none, 0, rfl, Own1.nil _ _ _, Gr.refl _⟩
  | some a =>
    have HV : Hid (IntsAt B (w.alloc (.cells #[] 3)) (.slice (some a) zs.length c) zs) := by
      obtain ⟨A', c', e, q1, q2, q3⟩ := hz'
      refine ⟨A', c', e, q1, q2, fun hp => ?_⟩
      obtain ⟨b, o, e2, e3, e4⟩ := q3 hp
      exact ⟨b, o, e2, e3, fun j z hj => ((Gr.refl w).alloc _).cell b (o + j) (by omega) |>.trans (e4 j z hj)⟩
    clear h3 hz'
    go_enter Tryz.func36, Tryz.ntmps36
    go_wp2_with (at_builtin; refine appI Tryz.underlying22 hi hz0 hz1 hz2 rfl rfl _ _ rfl rfl (Own1.empty _ _ (Nat.le_refl _)) HV rfl (by simp; omega) (by simp) ?_; intro A1 c1 w1 hown1 hb1 _)
    go_ret
    exact ⟨A1, c1, by simp, by simpa using hown1, Gr.below ((Gr.refl _).alloc _) hb1 (by simp)⟩
set_option maxRecDepth 100000 in
set_option maxHeartbeats 4000000 in
theorem igraph_any (v : Value) (f : Fn) (w : World) (hf : FnAt w.heap.size w v f) (hs : f.blocks.length ≤ 100000) (hne : Hid (∀ l ∈ f.blocks, l ≠ [])) :
    Calls Tryz.prog 16 #[v] w fun e w' => ∃ u, e = .returned u ∧ TabAt w'.heap.size w' u (Ref.graph f) ∧ Gr w w' := by
  obtain ⟨vp, vs, vb, rfl, hp, hs', hb⟩ := hf
  obtain ⟨Ap, cp, rfl, hp1, hp2, hp3⟩ := hp
  obtain ⟨As, cs, rfl, hs1, hs2, hs3⟩ := hs'
  obtain ⟨Ab, cb, rfl, hb1, hb2, hb3⟩ := hb
  clear hp3 hs3
  obtain ⟨i0, hi, hz0, hz1, hz2⟩ := info_parts info_int
  obtain ⟨i1, hj, hy0, hy1, hy2⟩ := info_parts info_ints
  have hB0 : Gr w (w.alloc (.cells #[.slice Ap f.params.length cp, .int .i64 f.ret, .slice As f.slots.length cs, .slice Ab f.blocks.length cb] 25)) := (Gr.refl _).alloc _
  go_enter Tryz.func16, Tryz.ntmps16
  go_wp2
  go_loopw [3, 5, 9] (fun s _ b wr => ∃ (k : Nat) (us : List Value), k ≤ f.blocks.length ∧ b = .int .i64 k ∧ Own1 (w.heap.size + 1) 22 wr s us ∧ Tab1 (w.heap.size + 1) 3 wr us ((f.blocks.take k).map fun l => (l.getLast?.map (·.to)).getD []) ∧
      Gr (w.alloc (.cells #[.slice Ap f.params.length cp, .int .i64 f.ret, .slice As f.slots.length cs, .slice Ab f.blocks.length cb] 25)) wr) (fun _ _ b _ => f.blocks.length - (intOf b).toNat)
  case atStart => exact ⟨0, [], Nat.zero_le _, rfl, Own1.nil _ _ _, Tab1.nil _ _ _, Gr.refl _⟩
  case round =>
    obtain ⟨k, us, hk, rfl, hown, htab, hgr⟩ := hrel
    have hbox : wr.cell? ⟨w.heap.size, 3, none⟩ = some (.slice Ab f.blocks.length cb) := (hgr.cell _ _ (by simp)).trans (by simp)
    by_cases hlt : k < f.blocks.length
    · obtain ⟨bb, ob, rfl, hbb, hcells⟩ := hb3 (by omega)
      obtain ⟨l, hl⟩ : ∃ l, f.blocks[k]? = some l := ⟨f.blocks[k], by simp [hlt]⟩
      obtain ⟨u, hu, hul⟩ := hcells k l hl
      have hl0 : l ≠ [] := hne.out l (List.mem_of_getElem? hl)
      obtain ⟨x, hx⟩ : ∃ x, l.getLast? = some x := ⟨_, List.getLast?_eq_some_getLast hl0⟩
      have hx' : l[l.length - 1]? = some x := by rw [← List.getLast?_eq_getElem?]; exact hx
      have HS := graph_snoc f.blocks k l hl x hx
      have hpos : 0 < l.length := List.length_pos_iff.2 hl0
      have hg0 : Gr w wr := hB0.trans hgr
      have hu' := (hg0.cell _ _ hbb).trans hu
      have hul' := hul.below hg0
      obtain ⟨Al, cl, rfl, hl1, hl2, hl3⟩ := hul'
      obtain ⟨bl, ol, rfl, hbl, hcl⟩ := hl3 hpos
      obtain ⟨va, vt, _, _, _, _, _, ht, _, hvt⟩ := hcl _ x hx'
      obtain ⟨m, hm⟩ : ∃ m, m + 1 = l.length := ⟨l.length - 1, by omega⟩
      rw [show l.length - 1 = m by omega] at ht
      have HS' := Lib.hid HS
      have hsz : w.heap.size < wr.heap.size := by have := hgr.size; simp at this; omega
      have hus : us.length = k := by rw [htab.1]; simp; omega
      have hbl' : bl < wr.heap.size := by omega
      have HM := Lib.hid hm
      have HU := Lib.hid hus
      have wm : (l.length : Int) - 1 = m := by omega
      clear hl hcells hu hul hb3 hx hx' HS hl0 hl3 hcl hm hus
      obtain ⟨At, ct, rfl, ht1, ht2, ht3⟩ := hvt
      have hvt : IntsAt w.heap.size wr (.slice At x.to.length ct) x.to := ⟨At, ct, rfl, ht1, ht2, ht3⟩
      have HCL := Lib.hid (Clone_own (.slice At x.to.length ct) x.to w.heap.size wr hvt (by omega))
      clear ht3 hvt
      go_wp2_with (first
        | (go_at_call 36; refine HCL.out.mono ?_; rintro e w1 ⟨A1, c1, rfl, hown1, hw1⟩; have hown' := hown.gr hw1; have htab' := htab.gr hw1; have hsz1 := hw1.size)
        | (at_builtin; refine app1 (v := u3) Tryz.underlying44 hj hy0 hy1 hy2 rfl (by omega) rfl (.tmp 13) (.tmp 22) rfl rfl hown' rfl rfl (by rw [HU.out]; omega) (by omega) ?_; intro A2 c2 w2 hown2 hb2 hg2))
      go_goals
      go_roundw
      case rel =>
        have hw2 : Gr (w.alloc (.cells #[.slice Ap f.params.length cp, .int .i64 f.ret, .slice As f.slots.length cs, .slice (some ⟨bb, ob, none⟩) f.blocks.length cb] 25)) w2 := (hgr.trans hw1).below hb2 (by simp)
        have htab2 := ((htab'.snoc (hown1.lower (by have := hsz; omega)) ht2).gr ((Gr.refl _).alloc (.cells #[.slice A1 x.to.length c1] 22))).grown (hown'.gr ((Gr.refl _).alloc (.cells #[.slice A1 x.to.length c1] 22))) (by decide) hg2
        exact ⟨k + 1, _, by omega, by go_num, by simpa using hown2, by rw [HS'.out]; exact htab2, hw2⟩
      case measure => simp [intOf]; omega
    · obtain rfl : k = f.blocks.length := by omega
      go_wp2
      go_ret
      rw [List.take_length] at htab
      exact ⟨_, rfl, htab.tab hown (by simp; omega), hB0.trans hgr⟩
end Go.Proofs.YtiadpjhlomhjeaaGreat

namespace Go.Proofs.YtiadpjhlomhjeaaGreat
open Go.RowKit

set_option maxRecDepth 100000 in
set_option maxHeartbeats 4000000 in
theorem igraph_own (v : Value) (f : Fn) (w : World) (hf : FnAt w.heap.size w v f) (hs : f.blocks.length ≤ 100000) (hne : Hid (∀ l ∈ f.blocks, l ≠ [])) :
    Calls Tryz.prog 16 #[v] w fun e w' => ∃ u us, e = .returned u ∧ Own1 (w.heap.size + 1) 22 w' u us ∧ Tab1 (w.heap.size + 1) 3 w' us (Ref.graph f) ∧ Gr w w' := by
  obtain ⟨vp, vs, vb, rfl, hp, hs', hb⟩ := hf
  obtain ⟨Ap, cp, rfl, hp1, hp2, hp3⟩ := hp
  obtain ⟨As, cs, rfl, hs1, hs2, hs3⟩ := hs'
  obtain ⟨Ab, cb, rfl, hb1, hb2, hb3⟩ := hb
  clear hp3 hs3
  obtain ⟨i0, hi, hz0, hz1, hz2⟩ := info_parts info_int
  obtain ⟨i1, hj, hy0, hy1, hy2⟩ := info_parts info_ints
  have hB0 : Gr w (w.alloc (.cells #[.slice Ap f.params.length cp, .int .i64 f.ret, .slice As f.slots.length cs, .slice Ab f.blocks.length cb] 25)) := (Gr.refl _).alloc _
  go_enter Tryz.func16, Tryz.ntmps16
  go_wp2
  go_loopw [3, 5, 9] (fun s _ b wr => ∃ (k : Nat) (us : List Value), k ≤ f.blocks.length ∧ b = .int .i64 k ∧ Own1 (w.heap.size + 1) 22 wr s us ∧ Tab1 (w.heap.size + 1) 3 wr us ((f.blocks.take k).map fun l => (l.getLast?.map (·.to)).getD []) ∧
      Gr (w.alloc (.cells #[.slice Ap f.params.length cp, .int .i64 f.ret, .slice As f.slots.length cs, .slice Ab f.blocks.length cb] 25)) wr) (fun _ _ b _ => f.blocks.length - (intOf b).toNat)
  case atStart => exact ⟨0, [], Nat.zero_le _, rfl, Own1.nil _ _ _, Tab1.nil _ _ _, Gr.refl _⟩
  case round =>
    obtain ⟨k, us, hk, rfl, hown, htab, hgr⟩ := hrel
    have hbox : wr.cell? ⟨w.heap.size, 3, none⟩ = some (.slice Ab f.blocks.length cb) := (hgr.cell _ _ (by simp)).trans (by simp)
    by_cases hlt : k < f.blocks.length
    · obtain ⟨bb, ob, rfl, hbb, hcells⟩ := hb3 (by omega)
      obtain ⟨l, hl⟩ : ∃ l, f.blocks[k]? = some l := ⟨f.blocks[k], by simp [hlt]⟩
      obtain ⟨u, hu, hul⟩ := hcells k l hl
      have hl0 : l ≠ [] := hne.out l (List.mem_of_getElem? hl)
      obtain ⟨x, hx⟩ : ∃ x, l.getLast? = some x := ⟨_, List.getLast?_eq_some_getLast hl0⟩
      have hx' : l[l.length - 1]? = some x := by rw [← List.getLast?_eq_getElem?]; exact hx
      have HS := graph_snoc f.blocks k l hl x hx
      have hpos : 0 < l.length := List.length_pos_iff.2 hl0
      have hg0 : Gr w wr := hB0.trans hgr
      have hu' := (hg0.cell _ _ hbb).trans hu
      have hul' := hul.below hg0
      obtain ⟨Al, cl, rfl, hl1, hl2, hl3⟩ := hul'
      obtain ⟨bl, ol, rfl, hbl, hcl⟩ := hl3 hpos
      obtain ⟨va, vt, _, _, _, _, _, ht, _, hvt⟩ := hcl _ x hx'
      obtain ⟨m, hm⟩ : ∃ m, m + 1 = l.length := ⟨l.length - 1, by omega⟩
      rw [show l.length - 1 = m by omega] at ht
      have HS' := Lib.hid HS
      have hsz : w.heap.size < wr.heap.size := by have := hgr.size; simp at this; omega
      have hus : us.length = k := by rw [htab.1]; simp; omega
      have hbl' : bl < wr.heap.size := by omega
      have HM := Lib.hid hm
      have HU := Lib.hid hus
      have wm : (l.length : Int) - 1 = m := by omega
      clear hl hcells hu hul hb3 hx hx' HS hl0 hl3 hcl hm hus
      obtain ⟨At, ct, rfl, ht1, ht2, ht3⟩ := hvt
      have hvt : IntsAt w.heap.size wr (.slice At x.to.length ct) x.to := ⟨At, ct, rfl, ht1, ht2, ht3⟩
      have HCL := Lib.hid (Clone_own (.slice At x.to.length ct) x.to w.heap.size wr hvt (by omega))
      clear ht3 hvt
      go_wp2_with (first
        | (go_at_call 36; refine HCL.out.mono ?_; rintro e w1 ⟨A1, c1, rfl, hown1, hw1⟩; have hown' := hown.gr hw1; have htab' := htab.gr hw1; have hsz1 := hw1.size)
        | (at_builtin; refine app1 (v := u3) Tryz.underlying44 hj hy0 hy1 hy2 rfl (by omega) rfl (.tmp 13) (.tmp 22) rfl rfl hown' rfl rfl (by rw [HU.out]; omega) (by omega) ?_; intro A2 c2 w2 hown2 hb2 hg2))
      go_goals
      go_roundw
      case rel =>
        have hw2 : Gr (w.alloc (.cells #[.slice Ap f.params.length cp, .int .i64 f.ret, .slice As f.slots.length cs, .slice (some ⟨bb, ob, none⟩) f.blocks.length cb] 25)) w2 := (hgr.trans hw1).below hb2 (by simp)
        have htab2 := ((htab'.snoc (hown1.lower (by have := hsz; omega)) ht2).gr ((Gr.refl _).alloc (.cells #[.slice A1 x.to.length c1] 22))).grown (hown'.gr ((Gr.refl _).alloc (.cells #[.slice A1 x.to.length c1] 22))) (by decide) hg2
        exact ⟨k + 1, _, by omega, by go_num, by simpa using hown2, by rw [HS'.out]; exact htab2, hw2⟩
      case measure => simp [intOf]; omega
    · obtain rfl : k = f.blocks.length := by omega
      go_wp2
      go_ret
      rw [List.take_length] at htab
      exact ⟨_, us, rfl, hown, htab, hB0.trans hgr⟩
end Go.Proofs.YtiadpjhlomhjeaaGreat

namespace Go.Proofs.YtiadpjhlomhjeaaGreat
open Go.RowKit Go.Shelf

attribute [local go_sem] Oper.semAt_some

/-- The kinds of all values. -/
def Ir.kinds (f : Fn) : List Int := f.params ++ (Ir.items f).map (·.ins.width)

def ItV.row (y : ItV) : Array Value := #[.int .i64 y.it.ins.op, .int .i64 y.it.ins.width, .int .i64 y.it.ins.flags, .slice y.aa y.it.ins.args.length y.ca, .int .u32 y.it.ins.imm, .slice y.ta y.it.ins.to.length y.ct, .int .i64 y.it.num, .int .i64 y.it.blk, .int .i64 y.it.pos]
theorem row_own {B : Nat} (c : Array Value) (t : TypeId) (G : Nat → Prop) : OwnFrom B (fun (_ : Unit) W => ∃ Bx, G Bx ∧ W.heap[Bx]? = some (.cells c t (0, 0))) := by
  rintro s X Y row ⟨Bx, hG, h⟩ hg hr
  refine ⟨Bx, hG, (hg.block Bx (Array.getElem?_eq_some_iff.1 h).1 (fun e => ?_)).trans h⟩
  obtain ⟨-, o, ho, hc⟩ := hr Bx e.symm
  rw [h] at ho; cases ho; cases hc

set_option maxRecDepth 100000 in
set_option maxHeartbeats 8000000 in
theorem kinds_any (v : Value) (f : Fn) (w : World) (hf : FnAt w.heap.size w v f) (hs : f.blocks.length ≤ 100000) (hit : (Ir.items f).length ≤ 1000000) (hpl : f.params.length ≤ 100000) :
    Calls Tryz.prog 28 #[v] w fun e w' => ∃ u, e = .returned u ∧ IntsAt w'.heap.size w' u (Ir.kinds f) ∧ Gr w w' := by
  obtain ⟨i0, hi, hz0, hz1, hz2⟩ := info_parts info_int
  have hf0 := hf
  obtain ⟨vp, vs, vb, rfl, hp, hsl, hb⟩ := hf
  have hp0 := hp
  obtain ⟨Ap, cp, rfl, hp1, hp2, -⟩ := hp
  obtain ⟨As, cs, rfl, -, -, -⟩ := hsl
  obtain ⟨Ab, cb, rfl, -, -, -⟩ := hb
  refine (callsIn_wide (n := 5)).1 ?_
  refine callsIn_of_wp_marks Tryz.func28 rfl trivial ?_ rfl
  simp only [Tryz.ntmps28, List.size_toArray, List.length_cons, List.length_nil, Nat.reduceAdd, Nat.reduceSub, Array.replicate_succ, Array.replicate_zero, List.push_toArray, List.append_toArray, List.nil_append, List.cons_append]
  obtain ⟨W, hW⟩ : ∃ W, w.alloc (.cells #[.slice Ap f.params.length cp, .int .i64 f.ret, .slice As f.slots.length cs, .slice Ab f.blocks.length cb] 25) = W := ⟨_, rfl⟩
  have hB0 : Gr w W := by rw [← hW]; exact (Gr.refl w).alloc _
  have hWs : W.heap.size = w.heap.size + 1 := by rw [← hW]; simp
  have b0 : ∀ o, W.cell? ⟨w.heap.size, o, none⟩ = (#[.slice Ap f.params.length cp, .int .i64 f.ret, .slice As f.slots.length cs, .slice Ab f.blocks.length cb] : Array Value)[o]? := by
    intro o; rw [← hW]; exact cell_of_row _ _ _ _ _ _ (heap_alloc_new w _)
  have B0 : Hid (∀ w', Gr W w' → w'.cell? ⟨w.heap.size, 0, none⟩ = some (.slice Ap f.params.length cp) ∧ w'.cell? ⟨w.heap.size, 1, none⟩ = some (.int .i64 f.ret) ∧ w'.cell? ⟨w.heap.size, 2, none⟩ = some (.slice As f.slots.length cs) ∧ w'.cell? ⟨w.heap.size, 3, none⟩ = some (.slice Ab f.blocks.length cb)) :=
    fun w' g => ⟨(g.cell w.heap.size 0 (by omega)).trans (b0 0), (g.cell w.heap.size 1 (by omega)).trans (b0 1), (g.cell w.heap.size 2 (by omega)).trans (b0 2), (g.cell w.heap.size 3 (by omega)).trans (b0 3)⟩
  have HCL := Lib.hid (Clone_own (.slice Ap f.params.length cp) f.params w.heap.size W (hp0.below hB0) (by omega))
  have HCA : Hid (∀ w1, Calls Tryz.prog 25 #[.agg #[.slice Ap f.params.length cp, .int .i64 f.ret, .slice As f.slots.length cs, .slice Ab f.blocks.length cb]] w1 fun e w' =>
      e = .returned (.func (.func 52) #[] #[.pointer (some ⟨w1.heap.size, 0, none⟩)]) ∧ w' = w1.alloc (.cells #[.slice Ap f.params.length cp, .int .i64 f.ret, .slice As f.slots.length cs, .slice Ab f.blocks.length cb] 25)) :=
    fun w1 => all_in f Ap As Ab _ _ _ cp cs cb w1
  obtain ⟨k0, k1, k2, k3⟩ := B0.out W (Gr.refl _)
  clear b0
  gi_wp2_with (first
    | (refine ⟨trivial, ?_⟩; gi_at_call 36; refine (callsIn_wide.2 HCL.out).mono ?_; rintro e w1 ⟨A1, c1, rfl, hown1, hw1⟩; obtain ⟨q0, q1, q2, q3⟩ := B0.out _ (hw1.alloc (.cells #[.slice A1 f.params.length c1] 22)))
    | (refine ⟨trivial, ?_⟩; gi_at_call 25; refine (callsIn_wide.2 (HCA.out _)).mono ?_; rintro e w2 ⟨rfl, rfl⟩))
  obtain ⟨W0, hW0⟩ : ∃ W0, ((w1.alloc (.cells #[.slice A1 f.params.length c1] 22)).alloc (.cells #[.slice Ap f.params.length cp, .int .i64 f.ret, .slice As f.slots.length cs, .slice Ab f.blocks.length cb] 25)) = W0 := ⟨_, rfl⟩
  have hg1 : Gr w w1 := hB0.trans hw1
  have hsz : W0.heap.size = w1.heap.size + 2 := by rw [← hW0]; simp
  have hg0 : Gr w W0 := by rw [← hW0]; exact (hg1.alloc _).alloc _
  have hbox : Boxed W0 w1.heap.size 22 (.slice A1 f.params.length c1) := by rw [← hW0]; exact (Boxed.new w1 _ _).alloc _
  have hownW : Own1 w.heap.size 3 W0 (.slice A1 f.params.length c1) (f.params.map (Value.int .i64)) := by
    rw [← hW0]; exact ((hown1.lower (by omega)).gr (((Gr.refl w1).alloc _).alloc _))
  have hbx : ∀ o, W0.cell? ⟨w1.heap.size + 1, o, none⟩ = (#[.slice Ap f.params.length cp, .int .i64 f.ret, .slice As f.slots.length cs, .slice Ab f.blocks.length cb] : Array Value)[o]? := by
    intro o
    rw [← hW0]
    have := heap_alloc2_new w1 (.cells #[.slice A1 f.params.length c1] 22) (.cells #[.slice Ap f.params.length cp, .int .i64 f.ret, .slice As f.slots.length cs, .slice Ab f.blocks.length cb] 25)
    exact cell_of_row _ _ _ _ _ _ this
  rw [hW0]
  clear q0 q1 q2 q3 k0 k1 k2 k3
  have HS := all_stops (5 - 1) (by omega) (w1.heap.size + 1) w.heap.size f _ _ _ w W0 hf0 (Nat.le_refl _) hg0 hs (by omega) (hbx 0) (hbx 3)
  have h1w := hg1.size
  refine wpIn_rangeFunc_ownH rfl (by omega) (gf := 52) (lb := #[.pointer (some ⟨w1.heap.size + 1, 0, none⟩)]) rfl trivial (enters_of Tryz.func52 (by kernel_rfl) rfl) HS belowK_t (belowK_b (by omega)) (Below.refl _ _) (fun _ => rfl)
    (fun pre Wr => (∃ v, Boxed Wr w1.heap.size 22 v ∧ Wr.ownsRow w.heap.size 3 1 v ((f.params ++ (prj pre).map (·.ins.width)).map (Value.int .i64)).length ((f.params ++ (prj pre).map (·.ins.width)).map (Value.int .i64)) ∧ True) ∧ (Below w.heap.size w Wr ∧ W0.heap.size ≤ Wr.heap.size))
    (fun _ _ _ => False)
    (OwnFrom.and (Own.from (holdsRow_own w.heap.size w1.heap.size 22 3 1 (fun pre => ((f.params ++ (prj pre).map (·.ins.width)).map (Value.int .i64)).length) (fun pre => ((f.params ++ (prj pre).map (·.ins.width)).map (Value.int .i64))) (fun _ _ => True)) _) (OwnFrom.and (ownFrom_below (Nat.le_refl _) (by omega)) (fun _ _ _ _ h hg _ => Nat.le_trans h hg.size)))
    (fun _ _ _ _ _ hs _ _ => hs)
    ⟨⟨_, hbox, by have := hownW; unfold Own1 at this; simpa [prj] using this, trivial⟩, hg0, Nat.le_refl _⟩
    (fun x a' Wr => ∃ Bx, W0.heap.size ≤ Bx ∧ Wr.heap[Bx]? = some (.cells x.1.row 57 (0, 0)) ∧ a' = { tmps := #[.agg #[.slice Ap f.params.length cp, .int .i64 f.ret, .slice As f.slots.length cs, .slice Ab f.blocks.length cb], .pointer (some ⟨w.heap.size, 0, none⟩), .slice none 0 0, .pointer (some ⟨w1.heap.size, 0, none⟩), .pointer (some ⟨Bx, 0, none⟩), .pointer (some ⟨w.heap.size, 0, none⟩), .slice Ap f.params.length cp, .slice A1 f.params.length c1, .agg #[.slice Ap f.params.length cp, .int .i64 f.ret, .slice As f.slots.length cs, .slice Ab f.blocks.length cb], .func (.func 52) #[] #[.pointer (some ⟨w1.heap.size + 1, 0, none⟩)], x.1.enc, undef, undef, undef, undef, undef, undef, undef], defers := [] })
    ?hAx ?assign ?body ?done ?stop
  case hAx =>
    intro x a' s X Y row h hg hr
    obtain ⟨Bx, h1, h2, h3⟩ := h
    refine ⟨Bx, h1, (hg.block Bx (Array.getElem?_eq_some_iff.1 h2).1 (fun e => ?_)).trans h2, h3⟩
    obtain ⟨-, o, ho, hc⟩ := hr Bx e.symm
    rw [h2] at ho; cases ho; cases hc
  case assign =>
    rintro l pre ⟨⟨⟨xi, num, blk, pos⟩, aa, ca, ta, ct⟩, hgood⟩ Wr K ⟨⟨v, hv, hr, -⟩, hB, hsW⟩ hK
    simp only [ItV.enc]
    gi_wp2
    exact hK _ _ ((KeepsOthers.alloc _ _).from _) ((Below.refl _ Wr).alloc hB.size _) ⟨⟨v, hv.alloc _, (show Own1 _ _ _ _ _ from hr).gr ((Gr.refl Wr).alloc _), trivial⟩, hB.alloc hB.size _, by simp; omega⟩ ⟨Wr.heap.size, hsW, heap_alloc_new Wr _, rfl⟩
  case body =>
    rintro l pre ⟨⟨⟨xi, num, blk, pos⟩, aa, ca, ta, ct⟩, hgood⟩ a' Wr hl ⟨r, hr0⟩ ⟨⟨v, hv, hr, -⟩, hB, hsW⟩ ⟨Bx, hBx, hrow, rfl⟩ hlt
    have hvc := hv.cell
    have hvf := hv.frozen
    have hw := cell_of_row Wr Bx 1 _ _ _ hrow
    simp only [ItV.row] at hw
    have hplen : pre.length = (prj pre).length := by simp [prj]
    obtain ⟨L, hL⟩ : ∃ L, (f.params ++ (prj pre).map (·.ins.width)).map (Value.int .i64) = L := ⟨_, rfl⟩
    have hLl : L.length ≤ 2000000 := by rw [← hL]; simp; omega
    have HL : Hid ((f.params ++ (prj (pre ++ [⟨⟨⟨xi, num, blk, pos⟩, aa, ca, ta, ct⟩, hgood⟩])).map (·.ins.width)).map (Value.int .i64) = L ++ [.int .i64 xi.width]) := by
      show _ = _
      rw [prj_snoc, ← hL]; simp
    rw [hL] at hr
    clear hL hplen
    gi_wp2_with (gi_at_builtin; go_loud (refine wpListIn_append_own _ rfl _ _ 22 rfl w.heap.size 3 i0 (.int .i64 0) 1 8 Tryz.underlying22 hi hz0 hz1 hz2 rfl (by decide) _ _ _ rfl (hr.alloc _) ⟨Wr.heap.size, 0, none⟩ 1 1 [.int .i64 xi.width] rfl rfl (cell_one_new _ _ _) (by simp [Value.oneCell']) (by simp only [maxLen]; omega) (by omega) (by have := hB.size; simp; omega) ?_); intro v' w2 hown' hgrow _; obtain ⟨g', cap', rfl⟩ := ownsRow_succ hown'; obtain ⟨hv1, hv2, hr2, hk2, hb2⟩ := hv.appended (by decide) hr hB.size h1w hown' hgrow; have hc1 := hv1.cell; have hf1 := hv1.frozen)
    have hfin : (w2.setCell ⟨w1.heap.size, 0, none⟩ (.slice (some ⟨g', 0, none⟩) (L.length + 1) cap')).ownsRow w.heap.size 3 1 (.slice (some ⟨g', 0, none⟩) (L.length + 1) cap') (L ++ [Value.int .i64 xi.width]).length (L ++ [Value.int .i64 xi.width]) := by
      rw [show (L ++ [Value.int .i64 xi.width]).length = L.length + 1 by simp]; exact hr2
    rw [← HL.out] at hfin
    refine ⟨hk2.from _, hb2, ⟨_, hv2, ?_⟩, hB.trans hb2, by have := hb2.size; omega⟩
    simpa using hfin
  case done =>
    rintro D ys Wr hD hys ⟨⟨v, hv, hr, -⟩, hB, hsW⟩ hKD
    have hvc := hv.cell
    gi_wp2
    refine ⟨by simp, .inl ⟨_, _, rfl, run_takeDeferred hKD, ?_⟩⟩
    have hg9 : Gr w (Wr.putObj D (.deferred none)) := hB.trans (belowK_b (w := w) (Nat.le_refl _) Wr D _ _ (by omega) hKD rfl rfl)
    refine ⟨_, results_tmp rfl _ _ _, v, rfl, ?_, hg9⟩
    have hr9 := ownsRow_putObj hr (.deferred none) hKD rfl
    have he : f.params ++ (prj ys).map (·.ins.width) = Ir.kinds f := by rw [hys]; rfl
    rw [he] at hr9
    exact Own1.ints (B := w.heap.size) (by unfold Own1; simpa using hr9) (by unfold Ir.kinds; simp; omega)
  case stop =>
    rintro D c pre Wr _ _ h _
    exact h.elim
end Go.Proofs.YtiadpjhlomhjeaaGreat

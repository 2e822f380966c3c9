/- Parse of the program. -/
import Derived.Test.YthiaaagoccpkcaaDoorPaF
import Derived.Deep.CutRange
import Derived.Deep.DeepCutAuto
import Derived.Deep.RegionWith
namespace Go.Proofs.YthiaaagoccpkcaaDoor
set_option linter.unusedSimpArgs false
set_option linter.unusedVariables false
open Go.RowKit

namespace Pa
def cand3 (op : Nat) (d a b : Int) (ws : List (List UInt8)) : Option RvI := (tk (Rv.hasI (Rv.shapeN op)) ws).map fun x => ⟨op, d, a, b, x.1⟩
def cand2 (op : Nat) (d a : Int) (ws : List (List UInt8)) : Option RvI := (tk (Rv.hasB (Rv.shapeN op)) ws).bind fun x => cand3 op d a x.1 x.2
def cand1 (op : Nat) (d : Int) (ws : List (List UInt8)) : Option RvI := (tk (Rv.hasA (Rv.shapeN op)) ws).bind fun x => cand2 op d x.1 x.2
def cand0 (op : Nat) (ws : List (List UInt8)) : Option RvI := (tk (Rv.hasD (Rv.shapeN op)) ws).bind fun x => cand1 op x.1 x.2
theorem cand_cons (nm : List UInt8) (ws : List (List UInt8)) : cand (nm :: ws) = if Lib.idxOfS namesB ⟨nm.toArray⟩ < 0 then none else cand0 (Lib.idxOfS namesB ⟨nm.toArray⟩).toNat ws := rfl
/-- What is left of the reading, behind k fields. -/
def left (op : Nat) (r : Option RvI) (k : Nat) (d a b n : Int) (ws : List (List UInt8)) : Prop :=
  match k with
  | 0 => d = 0 ∧ a = 0 ∧ b = 0 ∧ n = 0 ∧ r = cand0 op ws
  | 1 => a = 0 ∧ b = 0 ∧ n = 0 ∧ r = cand1 op d ws
  | 2 => b = 0 ∧ n = 0 ∧ r = cand2 op d a ws
  | 3 => n = 0 ∧ r = cand3 op d a b ws
  | _ => r = some ⟨op, d, a, b, n⟩
end Pa
/-- s[1:]: where the rest begins. -/
def tl (A : Option Addr) (c : Nat) : Option Addr := if c = 1 then A else A.map (·.add (1 * 1))
theorem run_tail (w : World) (A : Option Addr) (L c : Nat) : (Instr.slice 91 (.slice A (L + 1) c) (some (.int .i64 1)) none none).run Tryd.prog w = .ok (.slice (tl A c) L (c - 1)) w := by
  have hu : (Tryd.prog).underlying 91 = some (.slice ((Tryd.prog).elem 91)) := by kernel_rfl
  have hz : ∀ w : World, (sizeOf ((Tryd.prog).elem 91)).run Tryd.prog w = .ok 1 w := fun w => by kernel_rfl
  rw [run_slice_l w 91 A (L + 1) c hu .i64 1 (by decide) (by omega), hz]
  simp only [Result.andThen, sliced, tl]
  congr 2
theorem words_tail {w : World} {A : Option Addr} {c : Nat} {l : List UInt8} {ws : List (List UInt8)} (h : WordsAt w (.slice A (l :: ws).length c) (l :: ws)) : WordsAt w (.slice (tl A c) ws.length (c - 1)) ws := by
  obtain ⟨A', c', e, h1, h2, h3⟩ := h
  injection e with e1 e2 e3
  subst e1; subst e3
  simp only [List.length_cons] at h1 h3
  refine ⟨_, _, rfl, by omega, by omega, fun h0 => ?_⟩
  obtain ⟨b, off, rfl, hb, hc⟩ := h3 (by omega)
  refine ⟨b, off + 1, ?_, hb, fun j x hj => ?_⟩
  · unfold tl
    rw [if_neg (by omega)]
    rfl
  · have := hc (j + 1) x (by simpa using hj)
    rw [show off + 1 + j = off + (j + 1) by omega]
    exact this
theorem words_head {w : World} {A : Option Addr} {c : Nat} {l : List UInt8} {ws : List (List UInt8)} (h : WordsAt w (.slice A (l :: ws).length c) (l :: ws)) : ∃ b off, A = some ⟨b, off, none⟩ ∧ b < w.heap.size ∧ w.cell? ⟨b, off, none⟩ = some (.string ⟨l.toArray⟩) := by
  obtain ⟨A', c', e, h1, h2, h3⟩ := h
  injection e with e1 e2 e3
  subst e1; subst e3
  obtain ⟨b, off, rfl, hb, hc⟩ := h3 (by simp)
  exact ⟨b, off, rfl, hb, hc 0 l rfl⟩
/-- What Parse returns. -/
def parseV (r : Option RvI) : Value := .tuple #[rvVal (r.getD rv0), .int .i64 (if r.isSome then 0 else 2)]
theorem word_le : ∀ (l : List UInt8), ∀ t ∈ Pa.splitW l, t.length ≤ l.length
  | [], t, h => by simp [Pa.splitW] at h; subst h; simp
  | c :: r, t, h => by
    unfold Pa.splitW at h
    have ih := word_le r
    split at h
    · rcases List.mem_cons.1 h with rfl | h
      · simp
      · have := ih t h; simp; omega
    · split at h
      · next hd tl e =>
        rcases List.mem_cons.1 h with rfl | h
        · have := ih hd (by rw [e]; simp); simp; omega
        · have := ih t (by rw [e]; simp [h]); simp; omega
      · simp at h; subst h; simp
theorem fields_names_any (s : ByteArray) (hs : s.data.toList = opBytes) (w : World) (ht : Tabs w) : Calls Tryd.prog 57 #[.string s] w fun e w' => ∃ B, e = .returned (.slice (some ⟨B, 0, none⟩) 41 41) ∧ Hid (∀ j, j < 41 → w'.cell? ⟨B, j, none⟩ = some (.string (opName j))) ∧ Gr w w' :=
  (fields_op s hs w ht).mono fun _ _ ⟨h1, h2⟩ => ⟨_, h1, by rw [h2]; exact Lib.hid fun j hj => (cell_of_row _ _ j _ _ _ (heap_alloc_new w _)).trans (namesRow_at j (by omega)), by rw [h2]; exact (Gr.refl w).alloc _⟩
theorem idx_range (x : ByteArray) (h : ¬ Lib.idxOfS Pa.namesB x < 0) : ∃ n : Nat, Lib.idxOfS Pa.namesB x = n ∧ n ≤ 40 := by
  have hm : x ∈ Pa.namesB := (Lib.idxOfS_nonneg_iff _ _).1 (by omega)
  have key : ∀ y ∈ Pa.namesB, Lib.idxOfS Pa.namesB y ≤ 40 := by decide +kernel
  have := key x hm
  exact ⟨(Lib.idxOfS Pa.namesB x).toNat, by omega, by omega⟩
theorem zero_facts {w : World} {B : Nat} {T : TypeId} {x0 x1 x2 x3 x4 : Value} (hr : w.heap[B]? = some (.cells #[x0, x1, x2, x3, x4] T (0, 0))) :
    (w.cell? ⟨B, 0, none⟩ = some x0 ∧ w.cell? ⟨B, 1, none⟩ = some x1 ∧ w.cell? ⟨B, 2, none⟩ = some x2 ∧ w.cell? ⟨B, 3, none⟩ = some x3 ∧ w.cell? ⟨B, 4, none⟩ = some x4) ∧
    w.frozen? ⟨B, 0, none⟩ = false ∧ w.frozen? ⟨B, 1, none⟩ = false ∧ w.frozen? ⟨B, 2, none⟩ = false ∧ w.frozen? ⟨B, 3, none⟩ = false ∧ w.frozen? ⟨B, 4, none⟩ = false :=
  ⟨⟨cell_of_row _ _ 0 _ _ _ hr, cell_of_row _ _ 1 _ _ _ hr, cell_of_row _ _ 2 _ _ _ hr, cell_of_row _ _ 3 _ _ _ hr, cell_of_row _ _ 4 _ _ _ hr⟩, frozen_of_row _ _ 0 _ _ hr, frozen_of_row _ _ 1 _ _ hr, frozen_of_row _ _ 2 _ _ hr, frozen_of_row _ _ 3 _ _ hr, frozen_of_row _ _ 4 _ _ hr⟩
/-- While Parse reads the fields. -/
structure PL (w0 wr : World) (BX BF BP : Nat) (p1 p2 p3 p4 : Bool) (n0 : Nat) (r : Option RvI) (k : Nat) (d a b m : Int) (A : Option Addr) (c : Nat) (ws : List (List UInt8)) : Prop where
  gr : Gr w0 wr
  x : wr.heap[BX]? = some (.cells #[.int .i64 n0, .int .i64 d, .int .i64 a, .int .i64 b, .int .i64 m] 23 (0, 0))
  f : wr.heap[BF]? = some (.cells #[.bool p1, .bool p2, .bool p3, .bool p4] 64 (0, 0))
  pt : wr.heap[BP]? = some (.cells #[.pointer (some ⟨BX, 1, none⟩), .pointer (some ⟨BX, 2, none⟩), .pointer (some ⟨BX, 3, none⟩), .pointer (some ⟨BX, 4, none⟩)] 95 (0, 0))
  wd : WordsAt w0 (.slice A ws.length c) ws
  short : ∀ t ∈ ws, t.length ≤ 90000
  left : Pa.left n0 r k d a b m ws
  lx : w0.heap.size ≤ BX
  xf : BX < BF
  fp : BF < BP
section
variable {w0 wr w' : World} {BX BF BP n0 k c : Nat} {p1 p2 p3 p4 : Bool} {r : Option RvI} {d a b m : Int} {A : Option Addr} {ws : List (List UInt8)}
theorem PL.grow (h : PL w0 wr BX BF BP p1 p2 p3 p4 n0 r k d a b m A c ws) (g : Gr wr w') : PL w0 w' BX BF BP p1 p2 p3 p4 n0 r k d a b m A c ws :=
  ⟨h.gr.trans g, (g.heap _ (Array.getElem?_eq_some_iff.1 h.x).1).trans h.x, (g.heap _ (Array.getElem?_eq_some_iff.1 h.f).1).trans h.f, (g.heap _ (Array.getElem?_eq_some_iff.1 h.pt).1).trans h.pt, h.wd, h.short, h.left, h.lx, h.xf, h.fp⟩
theorem PL.next (h : PL w0 wr BX BF BP p1 p2 p3 p4 n0 r k d a b m A c ws) {k' c' : Nat} {A' : Option Addr} {ws' : List (List UInt8)} (hw : WordsAt w0 (.slice A' ws'.length c') ws') (hs : ∀ t ∈ ws', t.length ≤ 90000) (hl : Pa.left n0 r k' d a b m ws') :
    PL w0 wr BX BF BP p1 p2 p3 p4 n0 r k' d a b m A' c' ws' := ⟨h.gr, h.x, h.f, h.pt, hw, hs, hl, h.lx, h.xf, h.fp⟩
theorem PL.put (h : PL w0 wr BX BF BP p1 p2 p3 p4 n0 r k d a b m A c ws) (i : Nat) (v : Int) {k' c' : Nat} {d' a' b' m' : Int} {A' : Option Addr} {ws' : List (List UInt8)}
    (hx : (#[Value.int .i64 n0, .int .i64 d, .int .i64 a, .int .i64 b, .int .i64 m] : Array Value).setIfInBounds i (.int .i64 v) = #[.int .i64 n0, .int .i64 d', .int .i64 a', .int .i64 b', .int .i64 m'])
    (hw : WordsAt w0 (.slice A' ws'.length c') ws') (hs : ∀ t ∈ ws', t.length ≤ 90000) (hl : Pa.left n0 r k' d' a' b' m' ws') :
    PL w0 (wr.setCell ⟨BX, i, none⟩ (.int .i64 v)) BX BF BP p1 p2 p3 p4 n0 r k' d' a' b' m' A' c' ws' := by
  have h1 := h.xf
  have h2 := h.fp
  refine ⟨h.gr.setCell (p := ⟨BX, i, none⟩) h.lx _, ?_, (Below.heap_setCell wr ⟨BX, i, none⟩ _ BF (fun e => by have e' : BF = BX := e; omega)).trans h.f, (Below.heap_setCell wr ⟨BX, i, none⟩ _ BP (fun e => by have e' : BP = BX := e; omega)).trans h.pt, hw, hs, hl, h.lx, h.xf, h.fp⟩
  rw [heap_setCell_same wr BX i _ _ _ h.x, hx]
end
theorem trim_le (l : List UInt8) : (Lib.trimPrefix l [120]).length ≤ l.length := by
  unfold Lib.trimPrefix
  split
  · simp
  · exact Nat.le_refl _
set_option maxRecDepth 1000000 in
set_option maxHeartbeats 8000000 in
theorem pParse_any (s : ByteArray) (hs : s.size ≤ 90000) (w : World) (ht : TabP w) : Calls Tryd.prog 29 #[.string s] w fun e w' => e = .returned (parseV (Pa.parse s)) ∧ Gr w w' := by
  obtain ⟨W, hW⟩ : ∃ W, w.alloc (.cells #[.int .i64 0, .int .i64 0, .int .i64 0, .int .i64 0, .int .i64 0] 23) = W := ⟨_, rfl⟩
  have HG : Hid (Gr w W) := by rw [← hW]; exact (Gr.refl w).alloc _
  have HT := Lib.hid (ht.gr HG.out)
  have HSP : Hid (Calls Tryd.prog 55 #[.string s, .string ⟨#[32]⟩] W fun e w' => ∃ v, e = .returned v ∧ WordsAt w' v (Pa.splitW s.data.toList) ∧ Gr W w') := split_any s hs W HT.out
  have HFI : Hid (∀ (s : ByteArray), s.data.toList = opBytes → ∀ w1, Tabs w1 → Calls Tryd.prog 57 #[.string s] w1 fun e w' => ∃ B, e = .returned (.slice (some ⟨B, 0, none⟩) 41 41) ∧ Hid (∀ j, j < 41 → w'.cell? ⟨B, j, none⟩ = some (.string (opName j))) ∧ Gr w1 w') := fields_names_any
  have HWL : Hid (∀ t ∈ Pa.splitW s.data.toList, t.length ≤ 90000) := fun t h => by
    have := word_le _ t h
    have hz : s.data.toList.length = s.size := by rw [Array.length_toList]; rfl
    omega
  have HPA : Hid (Pa.parse s = (Pa.cand (Pa.splitW s.data.toList)).bind fun x => if Rv.valid x = true ∧ text4 x = s then some x else none) := by show _ = _; rfl
  have hne := Pa.splitW_ne s.data.toList
  obtain ⟨ws, hws⟩ : ∃ ws, Pa.splitW s.data.toList = ws := ⟨_, rfl⟩
  rw [hws] at HSP HWL HPA hne
  obtain ⟨nm, ws0, rfl⟩ : ∃ a b, ws = a :: b := by
    cases ws with
    | nil => exact absurd rfl hne
    | cons a b => exact ⟨a, b, rfl⟩
  clear hws hne ht hs
  go_enter Tryd.func29, Tryd.ntmps29
  go_wp2_with (go_at_call 55; refine HSP.out.mono ?_; rintro e w1 ⟨v, rfl, hwd, g1⟩; have HWD := Lib.hid hwd; obtain ⟨A, c, rfl, hc1, hc2, hrd⟩ := hwd; obtain ⟨b, off, rfl, hb, hcell⟩ := hrd (by simp); have HG1 := Lib.hid g1; have HCE := Lib.hid hcell; have HB := Lib.hid hb; have x0 := hcell 0 nm rfl; rw [Nat.add_zero] at x0; clear g1 hcell hb hrd)
  have hi0 : (0 : Int) < ((nm :: ws0).length : Int) := by simp
  have hi1 : (0 : Int) < (ws0.length : Int) + 1 := by omega
  go_cut [5] from 14 to 20 (fun s5 wx => s5 = .int .i64 (Lib.idxOfS Pa.namesB ⟨nm.toArray⟩) ∧ Hid (Gr w1 wx))
  case first =>
    go_region_with (first
      | (go_at_call 57; (refine (HFI.out _ (by kernel_rfl) _ (HT.out.gr HG1.out.drew).tabs).mono ?_); rintro e3 w3 ⟨B, rfl, HC, g30⟩; have HG3 : Hid (Gr w1 w3) := (Gr.refl w1).drew.trans g30; have x0' := (HG3.out.cell b off HB.out).trans x0)
      | (go_at_call 56; (refine (index_any B _ _ HC.out).mono ?_); rintro e4 w4 ⟨rfl, rfl⟩))
    all_goals (go_wp2_with (fail); go_meet)
    all_goals with_reducible exact ⟨rfl, HG3⟩
  case rest =>
    obtain ⟨rfl, HG4⟩ := hcut
    have HRW : Hid (∀ w', Gr W w' → w'.heap[w.heap.size]? = some (.cells #[.int .i64 0, .int .i64 0, .int .i64 0, .int .i64 0, .int .i64 0] 23 (0, 0))) := fun w' q => by
      have hrw : W.heap[w.heap.size]? = some (.cells #[.int .i64 0, .int .i64 0, .int .i64 0, .int .i64 0, .int .i64 0] 23 (0, 0)) := by rw [← hW]; exact heap_alloc_new w _
      exact (q.heap _ (Array.getElem?_eq_some_iff.1 hrw).1).trans hrw
    have HG5 : Hid (Gr W wc) := HG1.out.trans HG4.out
    clear x0
    by_cases hix : Lib.idxOfS Pa.namesB ⟨nm.toArray⟩ < 0
    · have HE : Hid (Pa.parse s = none) := by
        show _ = _
        rw [HPA.out]
        rw [Pa.cand_cons, if_pos hix]; rfl
      have c1 : decide (Lib.idxOfS Pa.namesB ⟨nm.toArray⟩ < 0) = true := by simpa using hix
      have hr := HRW.out _ HG5.out
      have r0 := cell_of_row _ _ 0 _ _ _ hr
      have r1 := cell_of_row _ _ 1 _ _ _ hr
      have r2 := cell_of_row _ _ 2 _ _ _ hr
      have r3 := cell_of_row _ _ 3 _ _ _ hr
      have r4 := cell_of_row _ _ 4 _ _ _ hr
      have f0 := frozen_of_row _ _ 0 _ _ hr
      have f1 := frozen_of_row _ _ 1 _ _ hr
      have f2 := frozen_of_row _ _ 2 _ _ hr
      have f3 := frozen_of_row _ _ 3 _ _ hr
      have f4 := frozen_of_row _ _ 4 _ _ hr
      generalize Lib.idxOfS Pa.namesB ⟨nm.toArray⟩ = i at *
      have HR := Lib.hid hr
      clear hix hr
      go_wp2
      refine bodyPost_ret (results_rv _ _ 2 3 (.int .i64 2) _ w.heap.size _ _ _ _ _ (0, 0) rfl rfl rfl (row5_set _ _ _ _ _ HR.out)) rfl ?_
      refine ⟨by rw [HE.out]; rfl, ?_⟩
      iterate 5 refine Gr.setCell ?_ (Nat.le_refl _) _
      exact HG.out.trans HG5.out
    · obtain ⟨n, hn, hn40⟩ := idx_range _ hix
      have HPB : Hid (Pa.parse s = (Pa.cand0 n ws0).bind fun x => if Rv.valid x = true ∧ text4 x = s then some x else none) := by
        show _ = _
        rw [HPA.out, Pa.cand_cons, if_neg hix, hn, Int.toNat_natCast]
      rw [hn]
      have HFO : Hid (∀ w1, Calls Tryd.prog 37 #[.int .i64 (n : Int)] w1 fun e w' => e = .returned (.int .i64 (Rv.shapeN n)) ∧ w1 = w') := fun w1 => by
        have h := formOf_any (n : Int) w1
        have e : Rv.form (n : Int) = Rv.shapeN n := by unfold Rv.form; rw [if_neg (by omega)]; simp
        rw [e] at h; exact h
      have HHA : Hid (∀ w1, Calls Tryd.prog 38 #[.int .i64 (Rv.shapeN n)] w1 fun e w' => e = .returned (.agg #[.bool (Rv.hasD (Rv.shapeN n)), .bool (Rv.hasA (Rv.shapeN n)), .bool (Rv.hasB (Rv.shapeN n)), .bool (Rv.hasI (Rv.shapeN n))]) ∧ Gr w1 w') := fun w1 => by
        have hs9 : Rv.shapeN n ≠ 10 := by rcases Rv.shape_cases n with e | e | e | e | e | e | e | e | e | e <;> rw [e] <;> decide
        have hsc := Rv.shape_cases n
        have h := phas_any (Rv.shapeN n) (by omega) w1
        have e : Rv.hasP (Rv.shapeN n) = (Rv.hasD (Rv.shapeN n), Rv.hasA (Rv.shapeN n), Rv.hasB (Rv.shapeN n), Rv.hasI (Rv.shapeN n)) := by unfold Rv.hasP; rw [if_neg (by omega)]
        rw [e] at h; exact h
      have cn : decide ((n : Int) < 0) = false := by rw [decide_eq_false_iff_not]; omega
      obtain ⟨p1, q1⟩ : ∃ p, Rv.hasD (Rv.shapeN n) = p := ⟨_, rfl⟩
      obtain ⟨p2, q2⟩ : ∃ p, Rv.hasA (Rv.shapeN n) = p := ⟨_, rfl⟩
      obtain ⟨p3, q3⟩ : ∃ p, Rv.hasB (Rv.shapeN n) = p := ⟨_, rfl⟩
      obtain ⟨p4, q4⟩ : ∃ p, Rv.hasI (Rv.shapeN n) = p := ⟨_, rfl⟩
      have HP : Hid (Rv.hasD (Rv.shapeN n) = p1 ∧ Rv.hasA (Rv.shapeN n) = p2 ∧ Rv.hasB (Rv.shapeN n) = p3 ∧ Rv.hasI (Rv.shapeN n) = p4) := ⟨q1, q2, q3, q4⟩
      rw [q1, q2, q3, q4] at HHA
      generalize Rv.shapeN n = sh at HFO HHA
      have hcI : (ws0.length : Int) + 1 ≤ (c : Int) := by simp at hc1; omega
      have hc1I : (1 : Int) ≤ (c : Int) := by omega
      clear hix hn q1 q2 q3 q4
      have HWT : Hid (WordsAt wc (.slice (tl (some ⟨b, off, none⟩) c) ws0.length (c - 1)) ws0) := Lib.hid (words_tail (HWD.out.gr HG4.out))
      have rt := fun w => run_tail w (some ⟨b, off, none⟩) ws0.length c
      generalize tl (some ⟨b, off, none⟩) c = A1 at *
      generalize c - 1 = cc1 at *
      go_wp2_with (first
        | (go_at_call 37; refine (HFO.out _).mono ?_; rintro e w5 ⟨rfl, rfl⟩)
        | (go_at_call 38; refine (HHA.out _).mono ?_; rintro e w6 ⟨rfl, g6⟩))
      have hl0 : Pa.left n (Pa.cand0 n ws0) 0 0 0 0 0 ws0 := ⟨rfl, rfl, rfl, rfl, rfl⟩
      have HW6 : Hid (Gr wc w6) := by
        have : Gr wc (wc.alloc (.cells #[.int .i64 n, .int .i64 0, .int .i64 0, .int .i64 0, .int .i64 0] 23)) := (Gr.refl wc).alloc _
        exact Lib.hid (this.trans g6)
      have HPL : Hid (PL wc ((w6.alloc (.cells #[.bool p1, .bool p2, .bool p3, .bool p4] 64)).alloc (.cells #[.pointer (some ⟨wc.heap.size, 1, none⟩), .pointer (some ⟨wc.heap.size, 2, none⟩), .pointer (some ⟨wc.heap.size, 3, none⟩), .pointer (some ⟨wc.heap.size, 4, none⟩)] 95))
          wc.heap.size w6.heap.size (w6.heap.size + 1) p1 p2 p3 p4 n (Pa.cand0 n ws0) 0 0 0 0 0 A1 cc1 ws0) := by
        have e6 : w6.heap[wc.heap.size]? = some (.cells #[.int .i64 n, .int .i64 0, .int .i64 0, .int .i64 0, .int .i64 0] 23 (0, 0)) := (g6.heap _ (by simp)).trans (heap_alloc_new wc _)
        have l6 := (Array.getElem?_eq_some_iff.1 e6).1
        have gg := ((Gr.refl w6).alloc (.cells #[.bool p1, .bool p2, .bool p3, .bool p4] 64)).alloc (.cells #[.pointer (some ⟨wc.heap.size, 1, none⟩), .pointer (some ⟨wc.heap.size, 2, none⟩), .pointer (some ⟨wc.heap.size, 3, none⟩), .pointer (some ⟨wc.heap.size, 4, none⟩)] 95)
        refine Lib.hid ⟨HW6.out.trans gg, (gg.heap _ l6).trans e6, ?_, ?_, HWT.out, fun t ht => HWL.out t (by simp [ht]), hl0, Nat.le_refl _, l6, by omega⟩
        · exact (((Gr.refl _).alloc _).heap _ (by simp)).trans (heap_alloc_new w6 _)
        · have := heap_alloc_new (w6.alloc (.cells #[.bool p1, .bool p2, .bool p3, .bool p4] 64)) (.cells #[.pointer (some ⟨wc.heap.size, 1, none⟩), .pointer (some ⟨wc.heap.size, 2, none⟩), .pointer (some ⟨wc.heap.size, 3, none⟩), .pointer (some ⟨wc.heap.size, 4, none⟩)] 95)
          simpa using this
      have HB2 : Hid (w.heap.size ≤ w.heap.size) := Lib.hid (Nat.le_refl _)
      generalize wc.heap.size = BX at *
      generalize w6.heap.size = BF at *
      generalize hBP : BF + 1 = BP at *
      clear hBP hl0 g6 rt HWT HWD hcI hc1I hc1 hc2 hi0 hi1
      go_loopw [4, 37] (fun s4 s37 wr => ∃ k d a b m A c ws, k ≤ 4 ∧ s37 = .int .i64 (k : Nat) ∧ s4 = .slice A ws.length c ∧ Hid (PL wc wr BX BF BP p1 p2 p3 p4 n (Pa.cand0 n ws0) k d a b m A c ws)) (fun _ s37 _ => 4 - (intOf s37).toNat)
      case atStart => exact ⟨0, 0, 0, 0, 0, _, _, _, by omega, rfl, rfl, HPL⟩
      case round =>
        obtain ⟨k, d, a, b, m, A, c, ws, hk, rfl, rfl, HI⟩ := hrel
        have HGR : Hid (Gr W wr) := HG5.trans HI.out.gr
        rcases (by omega : k = 0 ∨ k = 1 ∨ k = 2 ∨ k = 3 ∨ k = 4) with rfl | rfl | rfl | rfl | rfl
        · obtain ⟨h1, h2, h3, h4, h5⟩ := HI.out.left
          have H5 := Lib.hid h5
          subst h1
          subst h2
          subst h3
          subst h4
          clear h5
          have kp := cell_of_row _ _ 0 _ _ _ HI.out.pt
          have kf := cell_of_row _ _ 0 _ _ _ HI.out.f
          simp at kp kf
          cases p1 with
          | false =>
            have HN : Hid (Pa.left n (Pa.cand0 n ws0) 1 0 0 0 0 ws) := by
              show Pa.left _ _ _ _ _ _ _ _
              have h := H5.out
              rw [show Pa.cand0 n ws = (Pa.tk (Rv.hasD (Rv.shapeN n)) ws).bind fun x => Pa.cand1 n x.1 x.2 from rfl] at h
              rw [HP.out.1] at h
              exact ⟨rfl, rfl, rfl, h⟩
            go_wp2
            go_roundw
            case rel => exact ⟨1, 0, 0, 0, 0, A, c, ws, by omega, rfl, rfl, Lib.hid (HI.out.next HI.out.wd HI.out.short HN.out)⟩
            case measure => simp [intOf]
          | true =>
            cases ws with
            | nil =>
              have HE : Hid (Pa.parse s = none) := by
                show _ = _
                rw [HPB.out, H5.out]
                unfold Pa.cand0
                rw [HP.out.1]; rfl
              obtain ⟨⟨z0, z1, z2, z3, z4⟩, y0, y1, y2, y3, y4⟩ := zero_facts (HRW.out _ HGR.out)
              go_wp2
              refine bodyPost_ret (results_rv _ _ 2 3 (.int .i64 2) _ w.heap.size _ _ _ _ _ (0, 0) rfl rfl rfl (row5_set _ _ _ _ _ (HRW.out _ HGR.out))) rfl ?_
              refine ⟨by rw [HE.out]; rfl, ?_⟩
              iterate 5 refine Gr.setCell ?_ (Nat.le_refl _) _
              exact HG.out.trans (HGR.out)
            | cons l ws =>
              obtain ⟨b1, o1, rfl, hb1, hc1⟩ := words_head HI.out.wd
              have x0 := (HI.out.gr.cell b1 o1 hb1).trans hc1
              have HL : Hid (l.length ≤ 90000) := Lib.hid (HI.out.short l (by simp))
              have HTR : Hid (∀ w1, Calls Tryd.prog 59 #[.string ⟨l.toArray⟩, .string ⟨#[120]⟩] w1 fun e w' => e = .returned (.string ⟨(Lib.trimPrefix l [120]).toArray⟩) ∧ w1 = w') := fun w1 => trim_any l w1
              have HAT : Hid (∀ w1, TabP w1 → Calls Tryd.prog 58 #[.string ⟨(Lib.trimPrefix l [120]).toArray⟩] w1 fun e w' => (match Lib.atoiAll (Lib.trimPrefix l [120]) with | .ok n => e = .returned (.tuple #[.int .i64 n, .nilIface]) | _ => ∃ n tp p, e = .returned (.tuple #[.int .i64 n, .iface tp p])) ∧ Gr w1 w') := fun w1 h => atoi_any _ (Nat.le_trans (trim_le l) HL.out) w1 h
              have rt := fun w => run_tail w (some ⟨b1, o1, none⟩) ws.length c
              have HTL : Hid (WordsAt wc (.slice (tl (some ⟨b1, o1, none⟩) c) ws.length (c - 1)) ws) := Lib.hid (words_tail HI.out.wd)
              generalize tl (some ⟨b1, o1, none⟩) c = A9 at *
              generalize c - 1 = c9 at *
              have HNU : Hid (Pa.num l = match Lib.atoiAll (Lib.trimPrefix l [120]) with | .ok n => some n | _ => none) := by show _ = _; rfl
              generalize Lib.trimPrefix l [120] = tr at *
              have i0 : (0 : Int) < (ws.length : Int) + 1 := by omega
              have i1 : (((ws.length : Int) + 1) == 0) = false := by rw [beq_eq_false_iff_ne]; omega
              clear hb1 hc1
              cases hat : Lib.atoiAll tr with
              | ok v =>
                rw [hat] at HAT HNU
                dsimp only at HAT HNU
                clear hat
                have HN : Hid (Pa.left n (Pa.cand0 n ws0) 1 v 0 0 0 ws) := by
                  show Pa.left _ _ _ _ _ _ _ _
                  have h := H5.out
                  rw [show Pa.cand0 n (l :: ws) = (Pa.tk (Rv.hasD (Rv.shapeN n)) (l :: ws)).bind fun x => Pa.cand1 n x.1 x.2 from rfl] at h
                  rw [HP.out.1] at h
                  simp only [Pa.tk, HNU.out, if_true, Option.map_some, Option.bind_some] at h
                  exact ⟨rfl, rfl, rfl, h⟩
                go_wp2_with (first
                  | (go_at_call 59; refine (HTR.out _).mono ?_; rintro e w7 ⟨rfl, rfl⟩)
                  | (go_at_call 58; refine (HAT.out _ (HT.out.gr HGR.out)).mono ?_; rintro e w8 ⟨rfl, g8⟩; have HI8 := Lib.hid (HI.out.grow g8); clear g8; have xk := cell_of_row _ _ 1 _ _ _ HI8.out.x; have fk := frozen_of_row _ _ 1 _ _ HI8.out.x; simp at xk))
                go_roundw
                case rel => exact ⟨1, v, 0, 0, 0, A9, c9, ws, by omega, rfl, rfl, Lib.hid (HI8.out.put 1 v (by simp) HTL.out (fun t ht => HI8.out.short t (by simp [ht])) HN.out)⟩
                case measure => simp [intOf]
              | «syntax» =>
                rw [hat] at HAT HNU
                dsimp only at HAT HNU
                clear hat
                have HE : Hid (Pa.parse s = none) := by
                  show _ = _
                  rw [HPB.out, H5.out]
                  unfold Pa.cand0
                  rw [HP.out.1]
                  simp only [Pa.tk, HNU.out, if_true, Option.map_none, Option.bind_none]
                go_wp2_with (first
                  | (go_at_call 59; refine (HTR.out _).mono ?_; rintro e w7 ⟨rfl, rfl⟩)
                  | (go_at_call 58; refine (HAT.out _ (HT.out.gr HGR.out)).mono ?_; rintro e w8 ⟨⟨nn, tp, pp, rfl⟩, g8⟩; have HG8 := Lib.hid g8; clear g8; obtain ⟨⟨z0, z1, z2, z3, z4⟩, y0, y1, y2, y3, y4⟩ := zero_facts (HRW.out _ (HGR.out.trans HG8.out))))
                refine bodyPost_ret (results_rv _ _ 2 3 (.int .i64 2) _ w.heap.size _ _ _ _ _ (0, 0) rfl rfl rfl (row5_set _ _ _ _ _ (HRW.out _ (HGR.out.trans HG8.out)))) rfl ?_
                refine ⟨by rw [HE.out]; rfl, ?_⟩
                iterate 5 refine Gr.setCell ?_ (Nat.le_refl _) _
                exact HG.out.trans ((HGR.out.trans HG8.out))
              | range =>
                rw [hat] at HAT HNU
                dsimp only at HAT HNU
                clear hat
                have HE : Hid (Pa.parse s = none) := by
                  show _ = _
                  rw [HPB.out, H5.out]
                  unfold Pa.cand0
                  rw [HP.out.1]
                  simp only [Pa.tk, HNU.out, if_true, Option.map_none, Option.bind_none]
                go_wp2_with (first
                  | (go_at_call 59; refine (HTR.out _).mono ?_; rintro e w7 ⟨rfl, rfl⟩)
                  | (go_at_call 58; refine (HAT.out _ (HT.out.gr HGR.out)).mono ?_; rintro e w8 ⟨⟨nn, tp, pp, rfl⟩, g8⟩; have HG8 := Lib.hid g8; clear g8; obtain ⟨⟨z0, z1, z2, z3, z4⟩, y0, y1, y2, y3, y4⟩ := zero_facts (HRW.out _ (HGR.out.trans HG8.out))))
                refine bodyPost_ret (results_rv _ _ 2 3 (.int .i64 2) _ w.heap.size _ _ _ _ _ (0, 0) rfl rfl rfl (row5_set _ _ _ _ _ (HRW.out _ (HGR.out.trans HG8.out)))) rfl ?_
                refine ⟨by rw [HE.out]; rfl, ?_⟩
                iterate 5 refine Gr.setCell ?_ (Nat.le_refl _) _
                exact HG.out.trans ((HGR.out.trans HG8.out))
        · obtain ⟨h2, h3, h4, h5⟩ := HI.out.left
          have H5 := Lib.hid h5
          subst h2
          subst h3
          subst h4
          clear h5
          have kp := cell_of_row _ _ 1 _ _ _ HI.out.pt
          have kf := cell_of_row _ _ 1 _ _ _ HI.out.f
          simp at kp kf
          cases p2 with
          | false =>
            have HN : Hid (Pa.left n (Pa.cand0 n ws0) 2 d 0 0 0 ws) := by
              show Pa.left _ _ _ _ _ _ _ _
              have h := H5.out
              unfold Pa.cand1 at h
              rw [HP.out.2.1] at h
              exact ⟨rfl, rfl, h⟩
            go_wp2
            go_roundw
            case rel => exact ⟨2, d, 0, 0, 0, A, c, ws, by omega, rfl, rfl, Lib.hid (HI.out.next HI.out.wd HI.out.short HN.out)⟩
            case measure => simp [intOf]
          | true =>
            cases ws with
            | nil =>
              have HE : Hid (Pa.parse s = none) := by
                show _ = _
                rw [HPB.out, H5.out]
                unfold Pa.cand1
                rw [HP.out.2.1]; rfl
              obtain ⟨⟨z0, z1, z2, z3, z4⟩, y0, y1, y2, y3, y4⟩ := zero_facts (HRW.out _ HGR.out)
              go_wp2
              refine bodyPost_ret (results_rv _ _ 2 3 (.int .i64 2) _ w.heap.size _ _ _ _ _ (0, 0) rfl rfl rfl (row5_set _ _ _ _ _ (HRW.out _ HGR.out))) rfl ?_
              refine ⟨by rw [HE.out]; rfl, ?_⟩
              iterate 5 refine Gr.setCell ?_ (Nat.le_refl _) _
              exact HG.out.trans (HGR.out)
            | cons l ws =>
              obtain ⟨b1, o1, rfl, hb1, hc1⟩ := words_head HI.out.wd
              have x0 := (HI.out.gr.cell b1 o1 hb1).trans hc1
              have HL : Hid (l.length ≤ 90000) := Lib.hid (HI.out.short l (by simp))
              have HTR : Hid (∀ w1, Calls Tryd.prog 59 #[.string ⟨l.toArray⟩, .string ⟨#[120]⟩] w1 fun e w' => e = .returned (.string ⟨(Lib.trimPrefix l [120]).toArray⟩) ∧ w1 = w') := fun w1 => trim_any l w1
              have HAT : Hid (∀ w1, TabP w1 → Calls Tryd.prog 58 #[.string ⟨(Lib.trimPrefix l [120]).toArray⟩] w1 fun e w' => (match Lib.atoiAll (Lib.trimPrefix l [120]) with | .ok n => e = .returned (.tuple #[.int .i64 n, .nilIface]) | _ => ∃ n tp p, e = .returned (.tuple #[.int .i64 n, .iface tp p])) ∧ Gr w1 w') := fun w1 h => atoi_any _ (Nat.le_trans (trim_le l) HL.out) w1 h
              have rt := fun w => run_tail w (some ⟨b1, o1, none⟩) ws.length c
              have HTL : Hid (WordsAt wc (.slice (tl (some ⟨b1, o1, none⟩) c) ws.length (c - 1)) ws) := Lib.hid (words_tail HI.out.wd)
              generalize tl (some ⟨b1, o1, none⟩) c = A9 at *
              generalize c - 1 = c9 at *
              have HNU : Hid (Pa.num l = match Lib.atoiAll (Lib.trimPrefix l [120]) with | .ok n => some n | _ => none) := by show _ = _; rfl
              generalize Lib.trimPrefix l [120] = tr at *
              have i0 : (0 : Int) < (ws.length : Int) + 1 := by omega
              have i1 : (((ws.length : Int) + 1) == 0) = false := by rw [beq_eq_false_iff_ne]; omega
              clear hb1 hc1
              cases hat : Lib.atoiAll tr with
              | ok v =>
                rw [hat] at HAT HNU
                dsimp only at HAT HNU
                clear hat
                have HN : Hid (Pa.left n (Pa.cand0 n ws0) 2 d v 0 0 ws) := by
                  show Pa.left _ _ _ _ _ _ _ _
                  have h := H5.out
                  unfold Pa.cand1 at h
                  rw [HP.out.2.1] at h
                  simp only [Pa.tk, HNU.out, if_true, Option.map_some, Option.bind_some] at h
                  exact ⟨rfl, rfl, h⟩
                go_wp2_with (first
                  | (go_at_call 59; refine (HTR.out _).mono ?_; rintro e w7 ⟨rfl, rfl⟩)
                  | (go_at_call 58; refine (HAT.out _ (HT.out.gr HGR.out)).mono ?_; rintro e w8 ⟨rfl, g8⟩; have HI8 := Lib.hid (HI.out.grow g8); clear g8; have xk := cell_of_row _ _ 2 _ _ _ HI8.out.x; have fk := frozen_of_row _ _ 2 _ _ HI8.out.x; simp at xk))
                go_roundw
                case rel => exact ⟨2, d, v, 0, 0, A9, c9, ws, by omega, rfl, rfl, Lib.hid (HI8.out.put 2 v (by simp) HTL.out (fun t ht => HI8.out.short t (by simp [ht])) HN.out)⟩
                case measure => simp [intOf]
              | «syntax» =>
                rw [hat] at HAT HNU
                dsimp only at HAT HNU
                clear hat
                have HE : Hid (Pa.parse s = none) := by
                  show _ = _
                  rw [HPB.out, H5.out]
                  unfold Pa.cand1
                  rw [HP.out.2.1]
                  simp only [Pa.tk, HNU.out, if_true, Option.map_none, Option.bind_none]
                go_wp2_with (first
                  | (go_at_call 59; refine (HTR.out _).mono ?_; rintro e w7 ⟨rfl, rfl⟩)
                  | (go_at_call 58; refine (HAT.out _ (HT.out.gr HGR.out)).mono ?_; rintro e w8 ⟨⟨nn, tp, pp, rfl⟩, g8⟩; have HG8 := Lib.hid g8; clear g8; obtain ⟨⟨z0, z1, z2, z3, z4⟩, y0, y1, y2, y3, y4⟩ := zero_facts (HRW.out _ (HGR.out.trans HG8.out))))
                refine bodyPost_ret (results_rv _ _ 2 3 (.int .i64 2) _ w.heap.size _ _ _ _ _ (0, 0) rfl rfl rfl (row5_set _ _ _ _ _ (HRW.out _ (HGR.out.trans HG8.out)))) rfl ?_
                refine ⟨by rw [HE.out]; rfl, ?_⟩
                iterate 5 refine Gr.setCell ?_ (Nat.le_refl _) _
                exact HG.out.trans ((HGR.out.trans HG8.out))
              | range =>
                rw [hat] at HAT HNU
                dsimp only at HAT HNU
                clear hat
                have HE : Hid (Pa.parse s = none) := by
                  show _ = _
                  rw [HPB.out, H5.out]
                  unfold Pa.cand1
                  rw [HP.out.2.1]
                  simp only [Pa.tk, HNU.out, if_true, Option.map_none, Option.bind_none]
                go_wp2_with (first
                  | (go_at_call 59; refine (HTR.out _).mono ?_; rintro e w7 ⟨rfl, rfl⟩)
                  | (go_at_call 58; refine (HAT.out _ (HT.out.gr HGR.out)).mono ?_; rintro e w8 ⟨⟨nn, tp, pp, rfl⟩, g8⟩; have HG8 := Lib.hid g8; clear g8; obtain ⟨⟨z0, z1, z2, z3, z4⟩, y0, y1, y2, y3, y4⟩ := zero_facts (HRW.out _ (HGR.out.trans HG8.out))))
                refine bodyPost_ret (results_rv _ _ 2 3 (.int .i64 2) _ w.heap.size _ _ _ _ _ (0, 0) rfl rfl rfl (row5_set _ _ _ _ _ (HRW.out _ (HGR.out.trans HG8.out)))) rfl ?_
                refine ⟨by rw [HE.out]; rfl, ?_⟩
                iterate 5 refine Gr.setCell ?_ (Nat.le_refl _) _
                exact HG.out.trans ((HGR.out.trans HG8.out))
        · obtain ⟨h3, h4, h5⟩ := HI.out.left
          have H5 := Lib.hid h5
          subst h3
          subst h4
          clear h5
          have kp := cell_of_row _ _ 2 _ _ _ HI.out.pt
          have kf := cell_of_row _ _ 2 _ _ _ HI.out.f
          simp at kp kf
          cases p3 with
          | false =>
            have HN : Hid (Pa.left n (Pa.cand0 n ws0) 3 d a 0 0 ws) := by
              show Pa.left _ _ _ _ _ _ _ _
              have h := H5.out
              unfold Pa.cand2 at h
              rw [HP.out.2.2.1] at h
              exact ⟨rfl, h⟩
            go_wp2
            go_roundw
            case rel => exact ⟨3, d, a, 0, 0, A, c, ws, by omega, rfl, rfl, Lib.hid (HI.out.next HI.out.wd HI.out.short HN.out)⟩
            case measure => simp [intOf]
          | true =>
            cases ws with
            | nil =>
              have HE : Hid (Pa.parse s = none) := by
                show _ = _
                rw [HPB.out, H5.out]
                unfold Pa.cand2
                rw [HP.out.2.2.1]; rfl
              obtain ⟨⟨z0, z1, z2, z3, z4⟩, y0, y1, y2, y3, y4⟩ := zero_facts (HRW.out _ HGR.out)
              go_wp2
              refine bodyPost_ret (results_rv _ _ 2 3 (.int .i64 2) _ w.heap.size _ _ _ _ _ (0, 0) rfl rfl rfl (row5_set _ _ _ _ _ (HRW.out _ HGR.out))) rfl ?_
              refine ⟨by rw [HE.out]; rfl, ?_⟩
              iterate 5 refine Gr.setCell ?_ (Nat.le_refl _) _
              exact HG.out.trans (HGR.out)
            | cons l ws =>
              obtain ⟨b1, o1, rfl, hb1, hc1⟩ := words_head HI.out.wd
              have x0 := (HI.out.gr.cell b1 o1 hb1).trans hc1
              have HL : Hid (l.length ≤ 90000) := Lib.hid (HI.out.short l (by simp))
              have HTR : Hid (∀ w1, Calls Tryd.prog 59 #[.string ⟨l.toArray⟩, .string ⟨#[120]⟩] w1 fun e w' => e = .returned (.string ⟨(Lib.trimPrefix l [120]).toArray⟩) ∧ w1 = w') := fun w1 => trim_any l w1
              have HAT : Hid (∀ w1, TabP w1 → Calls Tryd.prog 58 #[.string ⟨(Lib.trimPrefix l [120]).toArray⟩] w1 fun e w' => (match Lib.atoiAll (Lib.trimPrefix l [120]) with | .ok n => e = .returned (.tuple #[.int .i64 n, .nilIface]) | _ => ∃ n tp p, e = .returned (.tuple #[.int .i64 n, .iface tp p])) ∧ Gr w1 w') := fun w1 h => atoi_any _ (Nat.le_trans (trim_le l) HL.out) w1 h
              have rt := fun w => run_tail w (some ⟨b1, o1, none⟩) ws.length c
              have HTL : Hid (WordsAt wc (.slice (tl (some ⟨b1, o1, none⟩) c) ws.length (c - 1)) ws) := Lib.hid (words_tail HI.out.wd)
              generalize tl (some ⟨b1, o1, none⟩) c = A9 at *
              generalize c - 1 = c9 at *
              have HNU : Hid (Pa.num l = match Lib.atoiAll (Lib.trimPrefix l [120]) with | .ok n => some n | _ => none) := by show _ = _; rfl
              generalize Lib.trimPrefix l [120] = tr at *
              have i0 : (0 : Int) < (ws.length : Int) + 1 := by omega
              have i1 : (((ws.length : Int) + 1) == 0) = false := by rw [beq_eq_false_iff_ne]; omega
              clear hb1 hc1
              cases hat : Lib.atoiAll tr with
              | ok v =>
                rw [hat] at HAT HNU
                dsimp only at HAT HNU
                clear hat
                have HN : Hid (Pa.left n (Pa.cand0 n ws0) 3 d a v 0 ws) := by
                  show Pa.left _ _ _ _ _ _ _ _
                  have h := H5.out
                  unfold Pa.cand2 at h
                  rw [HP.out.2.2.1] at h
                  simp only [Pa.tk, HNU.out, if_true, Option.map_some, Option.bind_some] at h
                  exact ⟨rfl, h⟩
                go_wp2_with (first
                  | (go_at_call 59; refine (HTR.out _).mono ?_; rintro e w7 ⟨rfl, rfl⟩)
                  | (go_at_call 58; refine (HAT.out _ (HT.out.gr HGR.out)).mono ?_; rintro e w8 ⟨rfl, g8⟩; have HI8 := Lib.hid (HI.out.grow g8); clear g8; have xk := cell_of_row _ _ 3 _ _ _ HI8.out.x; have fk := frozen_of_row _ _ 3 _ _ HI8.out.x; simp at xk))
                go_roundw
                case rel => exact ⟨3, d, a, v, 0, A9, c9, ws, by omega, rfl, rfl, Lib.hid (HI8.out.put 3 v (by simp) HTL.out (fun t ht => HI8.out.short t (by simp [ht])) HN.out)⟩
                case measure => simp [intOf]
              | «syntax» =>
                rw [hat] at HAT HNU
                dsimp only at HAT HNU
                clear hat
                have HE : Hid (Pa.parse s = none) := by
                  show _ = _
                  rw [HPB.out, H5.out]
                  unfold Pa.cand2
                  rw [HP.out.2.2.1]
                  simp only [Pa.tk, HNU.out, if_true, Option.map_none, Option.bind_none]
                go_wp2_with (first
                  | (go_at_call 59; refine (HTR.out _).mono ?_; rintro e w7 ⟨rfl, rfl⟩)
                  | (go_at_call 58; refine (HAT.out _ (HT.out.gr HGR.out)).mono ?_; rintro e w8 ⟨⟨nn, tp, pp, rfl⟩, g8⟩; have HG8 := Lib.hid g8; clear g8; obtain ⟨⟨z0, z1, z2, z3, z4⟩, y0, y1, y2, y3, y4⟩ := zero_facts (HRW.out _ (HGR.out.trans HG8.out))))
                refine bodyPost_ret (results_rv _ _ 2 3 (.int .i64 2) _ w.heap.size _ _ _ _ _ (0, 0) rfl rfl rfl (row5_set _ _ _ _ _ (HRW.out _ (HGR.out.trans HG8.out)))) rfl ?_
                refine ⟨by rw [HE.out]; rfl, ?_⟩
                iterate 5 refine Gr.setCell ?_ (Nat.le_refl _) _
                exact HG.out.trans ((HGR.out.trans HG8.out))
              | range =>
                rw [hat] at HAT HNU
                dsimp only at HAT HNU
                clear hat
                have HE : Hid (Pa.parse s = none) := by
                  show _ = _
                  rw [HPB.out, H5.out]
                  unfold Pa.cand2
                  rw [HP.out.2.2.1]
                  simp only [Pa.tk, HNU.out, if_true, Option.map_none, Option.bind_none]
                go_wp2_with (first
                  | (go_at_call 59; refine (HTR.out _).mono ?_; rintro e w7 ⟨rfl, rfl⟩)
                  | (go_at_call 58; refine (HAT.out _ (HT.out.gr HGR.out)).mono ?_; rintro e w8 ⟨⟨nn, tp, pp, rfl⟩, g8⟩; have HG8 := Lib.hid g8; clear g8; obtain ⟨⟨z0, z1, z2, z3, z4⟩, y0, y1, y2, y3, y4⟩ := zero_facts (HRW.out _ (HGR.out.trans HG8.out))))
                refine bodyPost_ret (results_rv _ _ 2 3 (.int .i64 2) _ w.heap.size _ _ _ _ _ (0, 0) rfl rfl rfl (row5_set _ _ _ _ _ (HRW.out _ (HGR.out.trans HG8.out)))) rfl ?_
                refine ⟨by rw [HE.out]; rfl, ?_⟩
                iterate 5 refine Gr.setCell ?_ (Nat.le_refl _) _
                exact HG.out.trans ((HGR.out.trans HG8.out))
        · obtain ⟨h4, h5⟩ := HI.out.left
          have H5 := Lib.hid h5
          subst h4
          clear h5
          have kp := cell_of_row _ _ 3 _ _ _ HI.out.pt
          have kf := cell_of_row _ _ 3 _ _ _ HI.out.f
          simp at kp kf
          cases p4 with
          | false =>
            have HN : Hid (Pa.left n (Pa.cand0 n ws0) 4 d a b 0 ws) := by
              show Pa.left _ _ _ _ _ _ _ _
              have h := H5.out
              unfold Pa.cand3 at h
              rw [HP.out.2.2.2] at h
              exact h
            go_wp2
            go_roundw
            case rel => exact ⟨4, d, a, b, 0, A, c, ws, by omega, rfl, rfl, Lib.hid (HI.out.next HI.out.wd HI.out.short HN.out)⟩
            case measure => simp [intOf]
          | true =>
            cases ws with
            | nil =>
              have HE : Hid (Pa.parse s = none) := by
                show _ = _
                rw [HPB.out, H5.out]
                unfold Pa.cand3
                rw [HP.out.2.2.2]; rfl
              obtain ⟨⟨z0, z1, z2, z3, z4⟩, y0, y1, y2, y3, y4⟩ := zero_facts (HRW.out _ HGR.out)
              go_wp2
              refine bodyPost_ret (results_rv _ _ 2 3 (.int .i64 2) _ w.heap.size _ _ _ _ _ (0, 0) rfl rfl rfl (row5_set _ _ _ _ _ (HRW.out _ HGR.out))) rfl ?_
              refine ⟨by rw [HE.out]; rfl, ?_⟩
              iterate 5 refine Gr.setCell ?_ (Nat.le_refl _) _
              exact HG.out.trans (HGR.out)
            | cons l ws =>
              obtain ⟨b1, o1, rfl, hb1, hc1⟩ := words_head HI.out.wd
              have x0 := (HI.out.gr.cell b1 o1 hb1).trans hc1
              have HL : Hid (l.length ≤ 90000) := Lib.hid (HI.out.short l (by simp))
              have HTR : Hid (∀ w1, Calls Tryd.prog 59 #[.string ⟨l.toArray⟩, .string ⟨#[120]⟩] w1 fun e w' => e = .returned (.string ⟨(Lib.trimPrefix l [120]).toArray⟩) ∧ w1 = w') := fun w1 => trim_any l w1
              have HAT : Hid (∀ w1, TabP w1 → Calls Tryd.prog 58 #[.string ⟨(Lib.trimPrefix l [120]).toArray⟩] w1 fun e w' => (match Lib.atoiAll (Lib.trimPrefix l [120]) with | .ok n => e = .returned (.tuple #[.int .i64 n, .nilIface]) | _ => ∃ n tp p, e = .returned (.tuple #[.int .i64 n, .iface tp p])) ∧ Gr w1 w') := fun w1 h => atoi_any _ (Nat.le_trans (trim_le l) HL.out) w1 h
              have rt := fun w => run_tail w (some ⟨b1, o1, none⟩) ws.length c
              have HTL : Hid (WordsAt wc (.slice (tl (some ⟨b1, o1, none⟩) c) ws.length (c - 1)) ws) := Lib.hid (words_tail HI.out.wd)
              generalize tl (some ⟨b1, o1, none⟩) c = A9 at *
              generalize c - 1 = c9 at *
              have HNU : Hid (Pa.num l = match Lib.atoiAll (Lib.trimPrefix l [120]) with | .ok n => some n | _ => none) := by show _ = _; rfl
              generalize Lib.trimPrefix l [120] = tr at *
              have i0 : (0 : Int) < (ws.length : Int) + 1 := by omega
              have i1 : (((ws.length : Int) + 1) == 0) = false := by rw [beq_eq_false_iff_ne]; omega
              clear hb1 hc1
              cases hat : Lib.atoiAll tr with
              | ok v =>
                rw [hat] at HAT HNU
                dsimp only at HAT HNU
                clear hat
                have HN : Hid (Pa.left n (Pa.cand0 n ws0) 4 d a b v ws) := by
                  show Pa.left _ _ _ _ _ _ _ _
                  have h := H5.out
                  unfold Pa.cand3 at h
                  rw [HP.out.2.2.2] at h
                  simp only [Pa.tk, HNU.out, if_true, Option.map_some, Option.bind_some] at h
                  exact h
                go_wp2_with (first
                  | (go_at_call 59; refine (HTR.out _).mono ?_; rintro e w7 ⟨rfl, rfl⟩)
                  | (go_at_call 58; refine (HAT.out _ (HT.out.gr HGR.out)).mono ?_; rintro e w8 ⟨rfl, g8⟩; have HI8 := Lib.hid (HI.out.grow g8); clear g8; have xk := cell_of_row _ _ 4 _ _ _ HI8.out.x; have fk := frozen_of_row _ _ 4 _ _ HI8.out.x; simp at xk))
                go_roundw
                case rel => exact ⟨4, d, a, b, v, A9, c9, ws, by omega, rfl, rfl, Lib.hid (HI8.out.put 4 v (by simp) HTL.out (fun t ht => HI8.out.short t (by simp [ht])) HN.out)⟩
                case measure => simp [intOf]
              | «syntax» =>
                rw [hat] at HAT HNU
                dsimp only at HAT HNU
                clear hat
                have HE : Hid (Pa.parse s = none) := by
                  show _ = _
                  rw [HPB.out, H5.out]
                  unfold Pa.cand3
                  rw [HP.out.2.2.2]
                  simp only [Pa.tk, HNU.out, if_true, Option.map_none, Option.bind_none]
                go_wp2_with (first
                  | (go_at_call 59; refine (HTR.out _).mono ?_; rintro e w7 ⟨rfl, rfl⟩)
                  | (go_at_call 58; refine (HAT.out _ (HT.out.gr HGR.out)).mono ?_; rintro e w8 ⟨⟨nn, tp, pp, rfl⟩, g8⟩; have HG8 := Lib.hid g8; clear g8; obtain ⟨⟨z0, z1, z2, z3, z4⟩, y0, y1, y2, y3, y4⟩ := zero_facts (HRW.out _ (HGR.out.trans HG8.out))))
                refine bodyPost_ret (results_rv _ _ 2 3 (.int .i64 2) _ w.heap.size _ _ _ _ _ (0, 0) rfl rfl rfl (row5_set _ _ _ _ _ (HRW.out _ (HGR.out.trans HG8.out)))) rfl ?_
                refine ⟨by rw [HE.out]; rfl, ?_⟩
                iterate 5 refine Gr.setCell ?_ (Nat.le_refl _) _
                exact HG.out.trans ((HGR.out.trans HG8.out))
              | range =>
                rw [hat] at HAT HNU
                dsimp only at HAT HNU
                clear hat
                have HE : Hid (Pa.parse s = none) := by
                  show _ = _
                  rw [HPB.out, H5.out]
                  unfold Pa.cand3
                  rw [HP.out.2.2.2]
                  simp only [Pa.tk, HNU.out, if_true, Option.map_none, Option.bind_none]
                go_wp2_with (first
                  | (go_at_call 59; refine (HTR.out _).mono ?_; rintro e w7 ⟨rfl, rfl⟩)
                  | (go_at_call 58; refine (HAT.out _ (HT.out.gr HGR.out)).mono ?_; rintro e w8 ⟨⟨nn, tp, pp, rfl⟩, g8⟩; have HG8 := Lib.hid g8; clear g8; obtain ⟨⟨z0, z1, z2, z3, z4⟩, y0, y1, y2, y3, y4⟩ := zero_facts (HRW.out _ (HGR.out.trans HG8.out))))
                refine bodyPost_ret (results_rv _ _ 2 3 (.int .i64 2) _ w.heap.size _ _ _ _ _ (0, 0) rfl rfl rfl (row5_set _ _ _ _ _ (HRW.out _ (HGR.out.trans HG8.out)))) rfl ?_
                refine ⟨by rw [HE.out]; rfl, ?_⟩
                iterate 5 refine Gr.setCell ?_ (Nat.le_refl _) _
                exact HG.out.trans ((HGR.out.trans HG8.out))
        · have hl := HI.out.left
          have HL : Hid (Pa.cand0 n ws0 = some ⟨n, d, a, b, m⟩) := hl
          have HXI := Lib.hid HI.out.x
          obtain ⟨⟨x0, x1, x2, x3, x4⟩, -⟩ := zero_facts HI.out.x
          have HTX : Hid (∀ w1, Tabs w1 → Calls Tryd.prog 31 #[.agg #[.int .i64 n, .int .i64 d, .int .i64 a, .int .i64 b, .int .i64 m]] w1 fun e w' => e = .returned (.tuple #[.string (textR ⟨n, d, a, b, m⟩), .int .i64 (Rv.validE ⟨n, d, a, b, m⟩)]) ∧ Gr w1 w') := fun w1 h => pText_any ⟨n, d, a, b, m⟩ w1 h
          cases hv : Rv.valid ⟨n, d, a, b, m⟩ with
          | false =>
            have HE : Hid (Pa.parse s = none) := by
              show _ = _
              rw [HPB.out, HL.out, Option.bind_some, if_neg (by rw [hv]; simp)]
            have he := validE_ne hv
            generalize Rv.validE ⟨n, d, a, b, m⟩ = er at *
            generalize textR ⟨n, d, a, b, m⟩ = tx at *
            have c9 : (er != 0) = true := by simpa using he
            clear hv he hl
            go_wp2_with (go_at_call 31; refine (HTX.out _ (HT.out.gr HGR.out).tabs).mono ?_; rintro e w8 ⟨rfl, g8⟩; have HG8 := Lib.hid g8; clear g8; obtain ⟨⟨z0, z1, z2, z3, z4⟩, y0, y1, y2, y3, y4⟩ := zero_facts (HRW.out _ (HGR.out.trans HG8.out)))
            skip
            refine bodyPost_ret (results_rv _ _ 2 3 (.int .i64 2) _ w.heap.size _ _ _ _ _ (0, 0) rfl rfl rfl (row5_set _ _ _ _ _ (HRW.out _ (HGR.out.trans HG8.out)))) rfl ?_
            refine ⟨by rw [HE.out]; rfl, ?_⟩
            iterate 5 refine Gr.setCell ?_ (Nat.le_refl _) _
            exact HG.out.trans ((HGR.out.trans HG8.out))
          | true =>
            have e1 : textR ⟨n, d, a, b, m⟩ = text4 ⟨n, d, a, b, m⟩ := by unfold textR; rw [hv]; rfl
            rw [e1, validE_eq hv] at HTX
            by_cases hs : text4 ⟨n, d, a, b, m⟩ = s
            · have HE : Hid (Pa.parse s = some ⟨n, d, a, b, m⟩) := by
                show _ = _
                rw [HPB.out, HL.out, Option.bind_some, if_pos ⟨hv, hs⟩]
              rw [hs] at HTX
              clear hv hs hl e1
              go_wp2_with (go_at_call 31; refine (HTX.out _ (HT.out.gr HGR.out).tabs).mono ?_; rintro e w8 ⟨rfl, g8⟩; have HI8 := Lib.hid (HI.out.grow g8); have HG8 := Lib.hid g8; clear g8; obtain ⟨⟨z0, z1, z2, z3, z4⟩, y0, y1, y2, y3, y4⟩ := zero_facts (HRW.out _ (HGR.out.trans HG8.out)); obtain ⟨⟨v0, v1, v2, v3, v4⟩, -⟩ := zero_facts HI8.out.x)
              refine bodyPost_ret (results_rv _ _ 2 3 (.int .i64 0) _ w.heap.size _ _ _ _ _ (0, 0) rfl rfl rfl (row5_set _ _ _ _ _ (HRW.out _ (HGR.out.trans HG8.out)))) rfl ?_
              refine ⟨by rw [HE.out]; rfl, ?_⟩
              iterate 5 refine Gr.setCell ?_ (Nat.le_refl _) _
              exact HG.out.trans (HGR.out.trans HG8.out)
            · have HE : Hid (Pa.parse s = none) := by
                show _ = _
                rw [HPB.out, HL.out, Option.bind_some, if_neg (fun h => hs h.2)]
              generalize text4 ⟨n, d, a, b, m⟩ = tx at *
              have cS : (tx.toList == s.toList) = false := by rw [Lib.bytes_beq_false_iff]; exact hs
              have cS2 : (tx.toList != s.toList) = true := by simp [bne, cS]
              clear hv hs hl e1
              go_wp2_with (go_at_call 31; refine (HTX.out _ (HT.out.gr HGR.out).tabs).mono ?_; rintro e w8 ⟨rfl, g8⟩; have HG8 := Lib.hid g8; clear g8; obtain ⟨⟨z0, z1, z2, z3, z4⟩, y0, y1, y2, y3, y4⟩ := zero_facts (HRW.out _ (HGR.out.trans HG8.out)))
              skip
              refine bodyPost_ret (results_rv _ _ 2 3 (.int .i64 2) _ w.heap.size _ _ _ _ _ (0, 0) rfl rfl rfl (row5_set _ _ _ _ _ (HRW.out _ (HGR.out.trans HG8.out)))) rfl ?_
              refine ⟨by rw [HE.out]; rfl, ?_⟩
              iterate 5 refine Gr.setCell ?_ (Nat.le_refl _) _
              exact HG.out.trans ((HGR.out.trans HG8.out))
end Go.Proofs.YthiaaagoccpkcaaDoor

/- Parse of the document. -/
import Derived.Test.YthiaaagoccpkcaaDoorPaK
import Derived.Deep.CutRange
import Derived.Deep.DeepCutAuto
import Derived.Deep.RegionWith
import Derived.BigQuiet
namespace Go.Proofs.YthiaaagoccpkcaaDoor
set_option linter.unusedSimpArgs false
set_option linter.unusedVariables false
open Go.RowKit

namespace Pa
theorem parse_none {s : ByteArray} {nm : List UInt8} {ws : List (List UInt8)} (hw : splitW s.data.toList = nm :: ws) (h : ∀ j, j < 41 → (opName j).data.toList = nm → parse s = none) : parse s = none := by
  cases hp : parse s with
  | none => rfl
  | some x =>
    obtain ⟨hv, ht⟩ := parse_some hp
    have hx := text_words x
    rw [ht, hw] at hx
    injection hx with h1 h2
    obtain ⟨n, e, hn40, -⟩ := valid_parts x hv
    have := h x.op.toNat (by omega) h1.symm
    rw [hp] at this
    exact this
end Pa
/-- While Parse of the document reads the fields: kk words are read. -/
structure PR (w0 wr : World) (BX k : Nat) (L : List (List UInt8)) (kk : Nat) (d a b m : Int) (r : List (List UInt8)) : Prop where
  gr : Gr w0 wr
  x : wr.heap[BX]? = some (.cells #[.int .i64 k, .int .i64 d, .int .i64 a, .int .i64 b, .int .i64 m] 23 (0, 0))
  lx : w0.heap.size ≤ BX
  rest : L.drop kk = r
  le : kk ≤ L.length
section
variable {w0 wr w' : World} {BX k kk : Nat} {L r : List (List UInt8)} {d a b m : Int}
theorem PR.grow (h : PR w0 wr BX k L kk d a b m r) (g : Gr wr w') : PR w0 w' BX k L kk d a b m r :=
  ⟨h.gr.trans g, (g.heap _ (Array.getElem?_eq_some_iff.1 h.x).1).trans h.x, h.lx, h.rest, h.le⟩
theorem PR.put (h : PR w0 wr BX k L kk d a b m r) (i : Nat) (v : Int) {d' a' b' m' : Int} {u : List UInt8} {r' : List (List UInt8)}
    (hx : (#[Value.int .i64 k, .int .i64 d, .int .i64 a, .int .i64 b, .int .i64 m] : Array Value).setIfInBounds i (.int .i64 v) = #[.int .i64 k, .int .i64 d', .int .i64 a', .int .i64 b', .int .i64 m'])
    (hr : r = u :: r') : PR w0 (wr.setCell ⟨BX, i, none⟩ (.int .i64 v)) BX k L (kk + 1) d' a' b' m' r' := by
  refine ⟨h.gr.setCell (p := ⟨BX, i, none⟩) h.lx _, ?_, h.lx, ?_, ?_⟩
  · rw [heap_setCell_same wr BX i _ _ _ h.x, hx]
  · have := h.rest
    rw [hr] at this
    have h2 := congrArg List.tail this
    rwa [List.tail_drop] at h2
  · have := congrArg List.length h.rest
    rw [hr, List.length_drop] at this
    simp at this
    omega
theorem PR.sec (h : PR w0 wr BX k L kk d a b m r) {p : Bool} {d1 : Int} {r1 : List (List UInt8)} (E : Pa.tkR p r = (d1, r1)) :
    ((p && decide (kk < L.length)) = true ∧ ∃ t, L[kk]? = some t ∧ r = t :: r1 ∧ d1 = Pa.value t) ∨ ((p && decide (kk < L.length)) = false ∧ d1 = 0 ∧ r1 = r) := by
  cases p with
  | false => exact .inr ⟨rfl, (congrArg Prod.fst E).symm, (congrArg Prod.snd E).symm⟩
  | true =>
    by_cases hlt : kk < L.length
    · left
      have hd := List.drop_eq_getElem_cons hlt
      rw [h.rest] at hd
      refine ⟨by simpa using hlt, L[kk], List.getElem?_eq_getElem hlt, ?_, ?_⟩
      · rw [hd] at E ⊢
        rw [show r1 = L.drop (kk + 1) from (congrArg Prod.snd E).symm]
      · rw [hd] at E
        exact (congrArg Prod.fst E).symm
    · right
      have hr : r = [] := by rw [← h.rest]; exact List.drop_eq_nil_of_le (by omega)
      refine ⟨by simpa using hlt, ?_, ?_⟩
      · rw [hr] at E; exact (congrArg Prod.fst E).symm
      · rw [hr] at E ⊢; exact (congrArg Prod.snd E).symm
end
set_option maxRecDepth 1000000 in
set_option maxHeartbeats 8000000 in
theorem rParse_any (s : ByteArray) (hs : s.size ≤ 90000) (w : World) (ht : TabP w) : Calls Tryd.prog 30 #[.string s] w fun e w' => e = .returned (parseV (Pa.parse s)) ∧ Gr w w' := by
  obtain ⟨W, hW⟩ : ∃ W, w.alloc (.cells #[.int .i64 0, .int .i64 0, .int .i64 0, .int .i64 0, .int .i64 0] 23) = W := ⟨_, rfl⟩
  have HG : Hid (Gr w W) := by rw [← hW]; exact (Gr.refl w).alloc _
  have HT := Lib.hid (ht.gr HG.out).tabs
  have HWO : Hid (Calls Tryd.prog 60 #[.string s] W fun e w' => ∃ v, e = .returned v ∧ WordsIn w' v (Pa.splitW s.data.toList) ∧ Gr W w') := words_any s hs W
  have HNM : Hid (∀ w1, Tabs w1 → Calls Tryd.prog 61 #[] w1 fun e w' => ∃ B, e = .returned (.slice (some ⟨B, 0, none⟩) 41 41) ∧ Hid (∀ j, j < 41 → w'.cell? ⟨B, j, none⟩ = some (.string (opName j))) ∧ Hid (B < w'.heap.size) ∧ Gr w1 w') := fun w1 h =>
    (names_any w1 h).mono fun _ _ ⟨h1, h2⟩ => ⟨_, h1, by rw [h2]; exact Lib.hid fun j hj => (cell_of_row _ _ j _ _ _ (heap_alloc_new w1 _)).trans (namesRow_at j (by omega)), by rw [h2]; exact Lib.hid (by simp), by rw [h2]; exact (Gr.refl w1).alloc _⟩
  have HWL : Hid (∀ t ∈ Pa.splitW s.data.toList, t.length ≤ 90000) := fun t h => by
    have := word_le _ t h
    have hz : s.data.toList.length = s.size := by rw [Array.length_toList]; rfl
    omega
  have hne := Pa.splitW_ne s.data.toList
  have HSW : Hid (Pa.splitW s.data.toList = Pa.splitW s.data.toList) := Lib.hid rfl
  have hsz : (Pa.splitW s.data.toList).length ≤ 100000 := by
    have h2 := splitW_len _ s.data.toList (Nat.le_refl _)
    have h3 : Lib.count s.data.toList [32] ≤ s.data.toList.length + 1 := Lib.count_le _ _
    have hz : s.data.toList.length = s.size := by rw [Array.length_toList]; rfl
    omega
  obtain ⟨L, hL⟩ : ∃ L, Pa.splitW s.data.toList = L := ⟨_, rfl⟩
  have HL : Hid (Pa.splitW s.data.toList = L) := Lib.hid hL
  rw [hL] at HWO HWL hne hsz
  obtain ⟨nm, ws, hnw⟩ : ∃ a b, L = a :: b := by
    cases L with
    | nil => exact absurd rfl hne
    | cons a b => exact ⟨a, b, rfl⟩
  have HNW := Lib.hid hnw
  obtain ⟨n, hn⟩ : ∃ n, L.length = n := ⟨_, rfl⟩
  have HN := Lib.hid hn
  have hn1 : 1 ≤ n := by rw [← hn, hnw]; simp
  have HRW : Hid (∀ w', Gr W w' → w'.heap[w.heap.size]? = some (.cells #[.int .i64 0, .int .i64 0, .int .i64 0, .int .i64 0, .int .i64 0] 23 (0, 0))) := fun w' q => by
    have hrw : W.heap[w.heap.size]? = some (.cells #[.int .i64 0, .int .i64 0, .int .i64 0, .int .i64 0, .int .i64 0] 23 (0, 0)) := by rw [← hW]; exact heap_alloc_new w _
    exact (q.heap _ (Array.getElem?_eq_some_iff.1 hrw).1).trans hrw
  rw [hn] at hsz
  clear hL hne ht hs hn HSW
  go_enter Tryd.func30, Tryd.ntmps30
  go_wp2_with (first
    | (go_at_call 60; refine HWO.out.mono ?_; rintro e w1 ⟨v, rfl, hwd, g1⟩; have HG1 := Lib.hid g1; obtain ⟨A, c, rfl, hc1, hc2, hc3, hrd⟩ := hwd; obtain ⟨b, off, rfl, hb, hcell⟩ := hrd (by rw [hnw]; simp); rw [HN.out] at hc1; have HCE := Lib.hid hcell; have HB := Lib.hid hb; rw [HN.out]; clear g1 hcell hb hrd hc3)
    | (go_at_call 61; refine (HNM.out _ (HT.out.gr HG1.out)).mono ?_; rintro e w2 ⟨B, rfl, HC, HBB, g2⟩; have HG2 := Lib.hid g2; clear g2))
  unfold maxLen at hc2
  clear hnw
  go_loopw [6] (fun s6 wr => ∃ k : Nat, k ≤ 41 ∧ s6 = .int .i64 k ∧ Hid (Gr w2 wr ∧ ∀ j, j < k → (opName j).data.toList = nm → Pa.parse s = none)) (fun i _ => 41 - (intOf i).toNat)
  case atStart => exact ⟨0, by omega, rfl, Lib.hid ⟨Gr.refl _, fun j hj => by omega⟩⟩
  case round =>
    obtain ⟨k, hk, rfl, HI⟩ := hrel
    by_cases hlt : k < 41
    · have hz0 : (0 : Int) ≤ (k : Int) := by omega
      have hz1 : (k : Int) < 41 := by omega
      have hz2 : (0 : Int) < (n : Int) := by omega
      have x0 := (HI.out.1.cell B k HBB.out).trans (HC.out k hlt)
      have x1 : wr.cell? ⟨b, off, none⟩ = some (.string ⟨nm.toArray⟩) := ((HG2.out.trans HI.out.1).cell b off HB.out).trans (HCE.out 0 nm (by rw [HNW.out]; rfl))
      by_cases hnm : opName k = ⟨nm.toArray⟩
      · rw [hnm] at x0
        obtain ⟨u, hu⟩ : ∃ u : ByteArray, (⟨nm.toArray⟩ : ByteArray) = u := ⟨_, rfl⟩
        rw [hu] at x0 x1
        have HNM' : Hid (opName k = ⟨nm.toArray⟩) := Lib.hid hnm
        clear hnm hu
        go_upto_region 6 with (fail)
        go_quiet (fail)
        obtain ⟨W3, hW3⟩ : ∃ W3, (wr.drewN nq).alloc (.cells #[.int .i64 0, .int .i64 0, .int .i64 0, .int .i64 0, .int .i64 0] 23) = W3 := ⟨_, rfl⟩
        have hr3 : W3.heap[wr.heap.size]? = some (.cells #[.int .i64 0, .int .i64 0, .int .i64 0, .int .i64 0, .int .i64 0] 23 (0, 0)) := by rw [← hW3]; exact heap_alloc_new (wr.drewN nq) _
        have HG3 : Hid (Gr wr W3) := by rw [← hW3]; exact ((Gr.refl wr).drewN _).alloc _
        obtain ⟨⟨q0, q1, q2, q3, q4⟩, o0, o1, o2, o3, o4⟩ := zero_facts hr3
        have HR3 := Lib.hid hr3
        clear hr3
        have HV0 : Hid (PR wr (((((W3.setCell ⟨wr.heap.size, 0, none⟩ (.int .i64 k)).setCell ⟨wr.heap.size, 1, none⟩ (.int .i64 0)).setCell ⟨wr.heap.size, 2, none⟩ (.int .i64 0)).setCell ⟨wr.heap.size, 3, none⟩ (.int .i64 0)).setCell ⟨wr.heap.size, 4, none⟩ (.int .i64 0)) wr.heap.size k L 1 0 0 0 0 ws) := by
          refine ⟨?_, row5_set _ _ _ _ _ HR3.out, Nat.le_refl _, by rw [HNW.out]; rfl, by rw [HN.out]; exact hn1⟩
          iterate 5 refine Gr.setCell ?_ (Nat.le_refl _) _
          exact HG3.out
        have HFM : Hid (∀ w1, Calls Tryd.prog 41 #[] w1 fun e w' => ∃ B, e = .returned (.slice (some ⟨B, 0, none⟩) 41 41) ∧ Hid (w'.cell? ⟨B, k * 4, none⟩ = some (.int .i64 (Rv.shapeN k))) ∧ Gr w1 w') := fun w1 =>
          (forms_any w1).mono fun _ _ ⟨h1, h2, h3⟩ => ⟨_, h1, (cell_of_row _ _ _ _ _ _ h2.out).trans (form_cells k (by omega)).1, h3⟩
        have HHA : Hid (∀ w1, Calls Tryd.prog 42 #[.int .i64 (Rv.shapeN k)] w1 fun e w' => e = .returned (.tuple #[.bool (Rv.hasD (Rv.shapeN k)), .bool (Rv.hasA (Rv.shapeN k)), .bool (Rv.hasB (Rv.shapeN k)), .bool (Rv.hasI (Rv.shapeN k))]) ∧ w1 = w') := fun w1 => rhas_any k w1
        obtain ⟨d1, r1, E1⟩ : ∃ d r, Pa.tkR (Rv.hasD (Rv.shapeN k)) ws = (d, r) := ⟨_, _, rfl⟩
        obtain ⟨a1, r2, E2⟩ : ∃ d r, Pa.tkR (Rv.hasA (Rv.shapeN k)) r1 = (d, r) := ⟨_, _, rfl⟩
        obtain ⟨b1, r3, E3⟩ : ∃ d r, Pa.tkR (Rv.hasB (Rv.shapeN k)) r2 = (d, r) := ⟨_, _, rfl⟩
        obtain ⟨m1, r4, E4⟩ : ∃ d r, Pa.tkR (Rv.hasI (Rv.shapeN k)) r3 = (d, r) := ⟨_, _, rfl⟩
        have HCA : Hid (Pa.candR k ws = ⟨k, d1, a1, b1, m1⟩) := by
          show _ = _
          unfold Pa.candR
          simp only [E1, E2, E3, E4]
        obtain ⟨sh, es⟩ : ∃ sh, Rv.shapeN k = sh := ⟨_, rfl⟩
        rw [es] at HFM HHA E1 E2 E3 E4
        obtain ⟨p1, f1⟩ : ∃ p, Rv.hasD sh = p := ⟨_, rfl⟩
        obtain ⟨p2, f2⟩ : ∃ p, Rv.hasA sh = p := ⟨_, rfl⟩
        obtain ⟨p3, f3⟩ : ∃ p, Rv.hasB sh = p := ⟨_, rfl⟩
        obtain ⟨p4, f4⟩ : ∃ p, Rv.hasI sh = p := ⟨_, rfl⟩
        rw [f1, f2, f3, f4] at HHA
        rw [f1] at E1
        rw [f2] at E2
        rw [f3] at E3
        rw [f4] at E4
        have E1 := Lib.hid E1
        have E2 := Lib.hid E2
        have E3 := Lib.hid E3
        have E4 := Lib.hid E4
        have HWC : Hid (∀ wx, Gr wr wx → ∀ j t, L[j]? = some t → wx.cell? ⟨b, off + j, none⟩ = some (.string ⟨t.toArray⟩)) := fun wx g j t hj => (((HG2.out.trans HI.out.1).trans g).cell b _ HB.out).trans (HCE.out j t hj)
        clear es f1 f2 f3 f4
        go_upto_region 8 with (fail)
        go_cut [8, 9, 10, 11] (fun s8 s9 s10 s11 wx => s8 = .bool p1 ∧ s9 = .bool p2 ∧ s10 = .bool p3 ∧ s11 = .bool p4 ∧ Hid (PR wr wx wr.heap.size k L 1 0 0 0 0 ws))
        case first =>
          go_wp2_with (first
            | (go_at_call 41; (refine (HFM.out _).mono ?_); rintro e3 w5 ⟨B5, rfl, HC5, g5⟩; have HP := Lib.hid (HV0.out.grow g5); have hc3 := HC5.out; clear g5)
            | (go_at_call 42; (refine (HHA.out _).mono ?_); rintro e4 w4 ⟨rfl, rfl⟩))
          go_meet
          with_reducible exact ⟨rfl, rfl, rfl, rfl, HP⟩
        case rest =>
          obtain ⟨rfl, rfl, rfl, rfl, HP⟩ := hcut
          clear q0 q1 q2 q3 q4 o0 o1 o2 o3 o4 x0 x1 hW3
          go_upto_region 10 with (fail)
          go_cut [51] (fun sg wx => sg = .bool (p1 && decide (1 < n)) ∧ Hid (PR wr wx wr.heap.size k L 1 0 0 0 0 ws))
          case first =>
            cases p1
            · go_wp2_with (fail)
              go_meet
              exact ⟨rfl, HP⟩
            · go_wp2_with (fail)
              go_meet
              exact ⟨by simp <;> omega, HP⟩
          case rest =>
            clear HP
            obtain ⟨rfl, HP⟩ := hcut
            go_upto_if 51 with (fail)
            go_cut [12] (fun s12 wx => ∃ kk1 : Nat, s12 = .int .i64 kk1 ∧ Hid (PR wr wx wr.heap.size k L kk1 d1 0 0 0 r1))
            case first =>
              rcases HP.out.sec E1.out with ⟨e0, t, e1, e2, e3⟩ | ⟨e0, e2, e3⟩
              · rw [HN.out] at e0
                rw [e0]
                have HVA : Hid (∀ w5, Calls Tryd.prog 62 #[.string ⟨t.toArray⟩] w5 fun e w' => e = .returned (.int .i64 (Pa.value t)) ∧ w5 = w') := fun w5 => value_any ⟨t.toArray⟩ (by show t.toArray.size ≤ _; rw [List.size_toArray]; exact HWL.out t (List.mem_of_getElem? e1)) w5
                have hlt2 : 1 < n := by simp at e0; exact e0.2
                have hlt3 : (1 : Int) < (n : Int) := by omega
                have hz5 : (0 : Int) ≤ (1 : Int) := by omega
                have l0 := HWC.out _ HP.out.gr 1 t e1
                obtain ⟨⟨z0, z1, z2, z3, z4⟩, y0, y1, y2, y3, y4⟩ := zero_facts HP.out.x
                have e2 := Lib.hid e2
                have e3 := Lib.hid e3
                clear e0 e1
                go_wp2_with (go_at_call 62; refine (HVA.out _).mono ?_; rintro e w5 ⟨rfl, rfl⟩)
                go_meet
                exact ⟨2, by go_num, Lib.hid (HP.out.put 1 _ (by rw [e3.out]; rfl) e2.out)⟩
              · rw [HN.out] at e0
                rw [e0]
                have e2 := Lib.hid e2
                have e3 := Lib.hid e3
                clear e0
                go_wp2_with (fail)
                go_meet
                exact ⟨1, rfl, by rw [e2.out, e3.out]; exact HP⟩
            case rest =>
              clear HP
              obtain ⟨kk1, rfl, HP⟩ := hcut
              go_upto_region 13 with (fail)
              go_cut [66] (fun sg wx => sg = .bool (p2 && decide (kk1 < n)) ∧ Hid (PR wr wx wr.heap.size k L kk1 d1 0 0 0 r1))
              case first =>
                cases p2
                · go_wp2_with (fail)
                  go_meet
                  exact ⟨rfl, HP⟩
                · go_wp2_with (fail)
                  go_meet
                  exact ⟨by simp <;> omega, HP⟩
              case rest =>
                clear HP
                obtain ⟨rfl, HP⟩ := hcut
                go_upto_if 66 with (fail)
                go_cut [12] (fun s12 wx => ∃ kk2 : Nat, s12 = .int .i64 kk2 ∧ Hid (PR wr wx wr.heap.size k L kk2 d1 a1 0 0 r2))
                case first =>
                  rcases HP.out.sec E2.out with ⟨e0, t, e1, e2, e3⟩ | ⟨e0, e2, e3⟩
                  · rw [HN.out] at e0
                    rw [e0]
                    have HVA : Hid (∀ w5, Calls Tryd.prog 62 #[.string ⟨t.toArray⟩] w5 fun e w' => e = .returned (.int .i64 (Pa.value t)) ∧ w5 = w') := fun w5 => value_any ⟨t.toArray⟩ (by show t.toArray.size ≤ _; rw [List.size_toArray]; exact HWL.out t (List.mem_of_getElem? e1)) w5
                    have hlt2 : kk1 < n := by simp at e0; exact e0.2
                    have hlt3 : (kk1 : Int) < (n : Int) := by omega
                    have hz5 : (0 : Int) ≤ (kk1 : Int) := by omega
                    have l0 := HWC.out _ HP.out.gr kk1 t e1
                    obtain ⟨⟨z0, z1, z2, z3, z4⟩, y0, y1, y2, y3, y4⟩ := zero_facts HP.out.x
                    have e2 := Lib.hid e2
                    have e3 := Lib.hid e3
                    clear e0 e1
                    go_wp2_with (go_at_call 62; refine (HVA.out _).mono ?_; rintro e w5 ⟨rfl, rfl⟩)
                    go_meet
                    exact ⟨kk1 + 1, by go_num, Lib.hid (HP.out.put 2 _ (by rw [e3.out]; rfl) e2.out)⟩
                  · rw [HN.out] at e0
                    rw [e0]
                    have e2 := Lib.hid e2
                    have e3 := Lib.hid e3
                    clear e0
                    go_wp2_with (fail)
                    go_meet
                    exact ⟨kk1, rfl, by rw [e2.out, e3.out]; exact HP⟩
                case rest =>
                  clear HP
                  obtain ⟨kk2, rfl, HP⟩ := hcut
                  go_upto_region 16 with (fail)
                  go_cut [81] (fun sg wx => sg = .bool (p3 && decide (kk2 < n)) ∧ Hid (PR wr wx wr.heap.size k L kk2 d1 a1 0 0 r2))
                  case first =>
                    cases p3
                    · go_wp2_with (fail)
                      go_meet
                      exact ⟨rfl, HP⟩
                    · go_wp2_with (fail)
                      go_meet
                      exact ⟨by simp <;> omega, HP⟩
                  case rest =>
                    clear HP
                    obtain ⟨rfl, HP⟩ := hcut
                    go_upto_if 81 with (fail)
                    go_cut [12] (fun s12 wx => ∃ kk3 : Nat, s12 = .int .i64 kk3 ∧ Hid (PR wr wx wr.heap.size k L kk3 d1 a1 b1 0 r3))
                    case first =>
                      rcases HP.out.sec E3.out with ⟨e0, t, e1, e2, e3⟩ | ⟨e0, e2, e3⟩
                      · rw [HN.out] at e0
                        rw [e0]
                        have HVA : Hid (∀ w5, Calls Tryd.prog 62 #[.string ⟨t.toArray⟩] w5 fun e w' => e = .returned (.int .i64 (Pa.value t)) ∧ w5 = w') := fun w5 => value_any ⟨t.toArray⟩ (by show t.toArray.size ≤ _; rw [List.size_toArray]; exact HWL.out t (List.mem_of_getElem? e1)) w5
                        have hlt2 : kk2 < n := by simp at e0; exact e0.2
                        have hlt3 : (kk2 : Int) < (n : Int) := by omega
                        have hz5 : (0 : Int) ≤ (kk2 : Int) := by omega
                        have l0 := HWC.out _ HP.out.gr kk2 t e1
                        obtain ⟨⟨z0, z1, z2, z3, z4⟩, y0, y1, y2, y3, y4⟩ := zero_facts HP.out.x
                        have e2 := Lib.hid e2
                        have e3 := Lib.hid e3
                        clear e0 e1
                        go_wp2_with (go_at_call 62; refine (HVA.out _).mono ?_; rintro e w5 ⟨rfl, rfl⟩)
                        go_meet
                        exact ⟨kk2 + 1, by go_num, Lib.hid (HP.out.put 3 _ (by rw [e3.out]; rfl) e2.out)⟩
                      · rw [HN.out] at e0
                        rw [e0]
                        have e2 := Lib.hid e2
                        have e3 := Lib.hid e3
                        clear e0
                        go_wp2_with (fail)
                        go_meet
                        exact ⟨kk2, rfl, by rw [e2.out, e3.out]; exact HP⟩
                    case rest =>
                      clear HP
                      obtain ⟨kk3, rfl, HP⟩ := hcut
                      go_upto_region 19 with (fail)
                      go_cut [96] (fun sg wx => sg = .bool (p4 && decide (kk3 < n)) ∧ Hid (PR wr wx wr.heap.size k L kk3 d1 a1 b1 0 r3))
                      case first =>
                        cases p4
                        · go_wp2_with (fail)
                          go_meet
                          exact ⟨rfl, HP⟩
                        · go_wp2_with (fail)
                          go_meet
                          exact ⟨by simp <;> omega, HP⟩
                      case rest =>
                        clear HP
                        obtain ⟨rfl, HP⟩ := hcut
                        go_upto_if 96 with (fail)
                        go_cut [] (fun wx => ∃ kk4 : Nat, Hid (PR wr wx wr.heap.size k L kk4 d1 a1 b1 m1 r4))
                        case first =>
                          rcases HP.out.sec E4.out with ⟨e0, t, e1, e2, e3⟩ | ⟨e0, e2, e3⟩
                          · rw [HN.out] at e0
                            rw [e0]
                            have HVA : Hid (∀ w5, Calls Tryd.prog 62 #[.string ⟨t.toArray⟩] w5 fun e w' => e = .returned (.int .i64 (Pa.value t)) ∧ w5 = w') := fun w5 => value_any ⟨t.toArray⟩ (by show t.toArray.size ≤ _; rw [List.size_toArray]; exact HWL.out t (List.mem_of_getElem? e1)) w5
                            have hlt2 : kk3 < n := by simp at e0; exact e0.2
                            have hlt3 : (kk3 : Int) < (n : Int) := by omega
                            have hz5 : (0 : Int) ≤ (kk3 : Int) := by omega
                            have l0 := HWC.out _ HP.out.gr kk3 t e1
                            obtain ⟨⟨z0, z1, z2, z3, z4⟩, y0, y1, y2, y3, y4⟩ := zero_facts HP.out.x
                            have e2 := Lib.hid e2
                            have e3 := Lib.hid e3
                            clear e0 e1
                            go_wp2_with (go_at_call 62; refine (HVA.out _).mono ?_; rintro e w5 ⟨rfl, rfl⟩)
                            go_meet
                            exact ⟨kk3 + 1, Lib.hid (HP.out.put 4 _ (by rw [e3.out]; rfl) e2.out)⟩
                          · rw [HN.out] at e0
                            rw [e0]
                            have e2 := Lib.hid e2
                            have e3 := Lib.hid e3
                            clear e0
                            go_wp2_with (fail)
                            go_meet
                            exact ⟨kk3, by rw [e2.out, e3.out]; exact HP⟩
                        case rest =>
                          clear HP
                          obtain ⟨kk4, HP⟩ := hcut
                          have HTX : Hid (∀ w1, Tabs w1 → Calls Tryd.prog 32 #[.agg #[.int .i64 k, .int .i64 d1, .int .i64 a1, .int .i64 b1, .int .i64 m1]] w1 fun e w' => e = .returned (.tuple #[.string (textR ⟨k, d1, a1, b1, m1⟩), .int .i64 (Rv.validE ⟨k, d1, a1, b1, m1⟩)]) ∧ Gr w1 w') := fun w1 h => rText_any ⟨k, d1, a1, b1, m1⟩ w1 h
                          have HPC : Hid (Pa.parse s = if Rv.valid ⟨k, d1, a1, b1, m1⟩ = true ∧ text4 ⟨k, d1, a1, b1, m1⟩ = s then some ⟨k, d1, a1, b1, m1⟩ else none) := by
                            show _ = _
                            have := Pa.parse_candR s nm ws k (by omega) (HL.out.trans HNW.out) (by rw [HNM'.out])
                            rw [HCA.out] at this
                            exact this
                          have HGW : Hid (Gr W wc) := (HG1.out.trans HG2.out).trans (HI.out.1.trans HP.out.gr)
                          obtain ⟨⟨v0, v1, v2, v3, v4⟩, -⟩ := zero_facts HP.out.x
                          cases hv : Rv.valid ⟨k, d1, a1, b1, m1⟩ with
                          | false =>
                            have HE : Hid (Pa.parse s = none) := by
                              show _ = _
                              rw [HPC.out, if_neg (by rw [hv]; simp)]
                            have he := validE_ne hv
                            clear HPC
                            generalize Rv.validE ⟨k, d1, a1, b1, m1⟩ = er at *
                            generalize textR ⟨k, d1, a1, b1, m1⟩ = tx at *
                            have c9 : (er == 0) = false := by simpa using he
                            clear hv he
                            go_wp2_with (go_at_call 32; refine (HTX.out _ (HT.out.gr HGW.out)).mono ?_; rintro e w8 ⟨rfl, g8⟩; have HG8 := Lib.hid g8; clear g8)
                            go_roundw
                            case rel => exact ⟨k + 1, by omega, by go_num, Lib.hid ⟨(HI.out.1.trans HP.out.gr).trans HG8.out, fun j hj e => by
                              rcases (by omega : j < k ∨ j = k) with q | q
                              · exact HI.out.2 j q e
                              · exact HE.out⟩⟩
                            case measure => simp [intOf] <;> omega
                          | true =>
                            have e1 : textR ⟨k, d1, a1, b1, m1⟩ = text4 ⟨k, d1, a1, b1, m1⟩ := by unfold textR; rw [hv]; rfl
                            rw [e1, validE_eq hv] at HTX
                            by_cases hs : text4 ⟨k, d1, a1, b1, m1⟩ = s
                            · have HE : Hid (Pa.parse s = some ⟨k, d1, a1, b1, m1⟩) := by
                                show _ = _
                                rw [HPC.out, if_pos ⟨hv, hs⟩]
                              rw [hs] at HTX
                              clear hv hs e1 HPC
                              go_wp2_with (go_at_call 32; refine (HTX.out _ (HT.out.gr HGW.out)).mono ?_; rintro e w8 ⟨rfl, g8⟩; have HP8 := Lib.hid (HP.out.grow g8); have HG8 := Lib.hid (HGW.out.trans g8); clear g8; obtain ⟨⟨z0, z1, z2, z3, z4⟩, y0, y1, y2, y3, y4⟩ := zero_facts (HRW.out _ HG8.out); obtain ⟨⟨o0, o1, o2, o3, o4⟩, -⟩ := zero_facts HP8.out.x)
                              refine bodyPost_ret (results_rv _ _ 2 3 (.int .i64 0) _ w.heap.size _ _ _ _ _ (0, 0) rfl rfl rfl (row5_set _ _ _ _ _ (HRW.out _ HG8.out))) rfl ?_
                              refine ⟨by rw [HE.out]; rfl, ?_⟩
                              iterate 5 refine Gr.setCell ?_ (Nat.le_refl _) _
                              exact HG.out.trans HG8.out
                            · have HE : Hid (Pa.parse s = none) := by
                                show _ = _
                                rw [HPC.out, if_neg (fun h => hs h.2)]
                              clear HPC
                              generalize text4 ⟨k, d1, a1, b1, m1⟩ = tx at *
                              have cS : (tx.toList == s.toList) = false := by rw [Lib.bytes_beq_false_iff]; exact hs
                              clear hv hs e1
                              go_wp2_with (go_at_call 32; refine (HTX.out _ (HT.out.gr HGW.out)).mono ?_; rintro e w8 ⟨rfl, g8⟩; have HG8 := Lib.hid g8; clear g8)
                              go_roundw
                              case rel => exact ⟨k + 1, by omega, by go_num, Lib.hid ⟨(HI.out.1.trans HP.out.gr).trans HG8.out, fun j hj e => by
                                rcases (by omega : j < k ∨ j = k) with q | q
                                · exact HI.out.2 j q e
                                · exact HE.out⟩⟩
                              case measure => simp [intOf] <;> omega
      · obtain ⟨t, htt⟩ : ∃ t, opName k = t := ⟨_, rfl⟩
        have cS : (t.toList == (⟨nm.toArray⟩ : ByteArray).toList) = false := by rw [Lib.bytes_beq_false_iff, ← htt]; exact hnm
        have HNM' : Hid (¬ (opName k).data.toList = nm) := fun e => hnm (by apply ByteArray.ext; rw [← e])
        rw [htt] at x0
        obtain ⟨u, hu⟩ : ∃ u : ByteArray, (⟨nm.toArray⟩ : ByteArray) = u := ⟨_, rfl⟩
        rw [hu] at cS x1
        have cS2 : (t.toList != u.toList) = true := by simp [bne, cS]
        clear hnm htt hu
        go_upto_region 6 with (fail)
        go_quiet (fail)
        go_wp2_with (fail)
        go_roundw
        case rel => exact ⟨k + 1, by omega, by go_num, Lib.hid ⟨HI.out.1.drewN _, fun j hj e => by
          rcases (by omega : j < k ∨ j = k) with q | q
          · exact HI.out.2 j q e
          · subst q; exact absurd e HNM'.out⟩⟩
        case measure => simp [intOf] <;> omega
    · have hk' : k = 41 := by omega
      have HE : Hid (Pa.parse s = none) := by
        show _ = _
        exact Pa.parse_none (HL.out.trans HNW.out) fun j hj e => HI.out.2 j (by omega) e
      subst hk'
      obtain ⟨⟨z0, z1, z2, z3, z4⟩, y0, y1, y2, y3, y4⟩ := zero_facts (HRW.out _ ((HG1.out.trans HG2.out).trans HI.out.1))
      go_wp2_with (fail)
      refine bodyPost_ret (results_rv _ _ 2 3 (.int .i64 2) _ w.heap.size _ _ _ _ _ (0, 0) rfl rfl rfl (row5_set _ _ _ _ _ (HRW.out _ ((HG1.out.trans HG2.out).trans HI.out.1)))) rfl ?_
      refine ⟨by rw [HE.out]; rfl, ?_⟩
      iterate 5 refine Gr.setCell ?_ (Nat.le_refl _) _
      exact HG.out.trans ((HG1.out.trans HG2.out).trans HI.out.1)
end Go.Proofs.YthiaaagoccpkcaaDoor

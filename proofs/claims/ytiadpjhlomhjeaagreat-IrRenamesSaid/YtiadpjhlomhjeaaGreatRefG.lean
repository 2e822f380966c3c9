import Derived.Test.YtiadpjhlomhjeaaGreatZb
import Derived.Test.YtiadpjhlomhjeaaGreatProg
import Derived.Lib.Hide
namespace Go.Proofs.YtiadpjhlomhjeaaGreat
open Go.RowKit

theorem info_bool : (Tryz.prog.info? 4).map (fun i => (i.zero, i.size, i.bytes)) = some (some (.bool false), 1, 1) := by kernel_rfl

/-- A row of n bools of the call's own, at the head of block hb. -/
def BRow (B hb n : Nat) (w : World) (bs : List Bool) : Prop := w.ownsRow B 4 1 (.slice (some ⟨hb, 0, none⟩) n n) n (bs.map Value.bool)
section
variable {B hb n : Nat} {w w' : World} {bs : List Bool}
theorem BRow.len (h : BRow B hb n w bs) : bs.length = n := by have := h.1; simpa using this
theorem BRow.cell (h : BRow B hb n w bs) (j : Nat) (b : Bool) (hj : bs[j]? = some b) : w.cell? ⟨hb, j, none⟩ = some (.bool b) := by
  have hl := h.len
  have hlt := (List.getElem?_eq_some_iff.1 hj).1
  rw [World.ownsRow.cellAt h j (by omega), List.getElem?_map, hj]; rfl
theorem BRow.frozen (h : BRow B hb n w bs) (j : Nat) : w.frozen? ⟨hb, j, none⟩ = false := World.ownsRow.frozenAt h j
theorem BRow.set_ (h : BRow B hb n w bs) (j : Nat) (b : Bool) : BRow B hb n (w.setCell ⟨hb, j, none⟩ (.bool b)) (bs.set j b) := by
  have := (World.ownsRow.stored h j (.bool b)).1
  unfold BRow; rw [List.map_set]; exact this
theorem BRow.base (h : BRow B hb n w bs) (hn : 0 < n) : B ≤ hb := by
  obtain ⟨b, e, _, hB, _⟩ := own_cells h rfl hn
  cases e; exact hB
theorem BRow.bools (h : BRow B hb n w bs) (hn : n ≤ 17592186044416) : BoolsAt w.heap.size w (.slice (some ⟨hb, 0, none⟩) n n) bs := by
  have hl := h.len
  subst hl
  exact own_bools h hn
end

/-- 'make([]bool, n)'. -/
theorem make_bools {w : World} {ops : Array Oper} {rest : List Oper} {o : Oper} {a : Act} {Q : Exit → Act → World → Prop} (hg : o.guard = none) (l c : Operand) (hop : o.op = Op.makeSlice 47 l c)
    (B n : Nat) (hl : a.eval l = .int .i64 n) (hc : a.eval c = .int .i64 n) (hn0 : 1 ≤ n) (hn : n ≤ 17592186044416) (hB : B ≤ w.heap.size)
    (hK : ∀ w', BRow B w.heap.size n w' (List.replicate n false) → Gr w w' → w'.cell? ⟨w.heap.size, 0, none⟩ = some (.bool false) → w'.frozen? ⟨w.heap.size, 0, none⟩ = false → wpList Tryz.prog ops Q rest (a.put o.dst (.slice (some ⟨w.heap.size, 0, none⟩) n n)) w') :
    wpList Tryz.prog ops Q (o :: rest) a w := by
  obtain ⟨i0, hi, hz0, hz1, hz2⟩ := info_parts info_bool
  refine wpList_make_full _ hg l c 47 hop B 4 i0 _ 1 Tryz.underlying47 hi hz0 hz1 _ _ _ _ n hl hc rfl rfl (by rw [hz2]; omega) (by simp only [maxLen]; omega) hB ?_
  intro w1 hown hg1
  rw [Nat.mul_one, show (Value.bool false).cells = #[Value.bool false] from rfl, toList_madeCells_one] at hown
  have hrow : BRow B w.heap.size n w1 (List.replicate n false) := by unfold BRow; rw [List.map_replicate]; exact hown
  refine hK w1 hrow ((Gr.refl w).grown hg1 (fun k hk => by cases hk)) ?_ (hrow.frozen 0)
  exact hrow.cell 0 false (by rw [List.getElem?_replicate, if_pos (by omega)])

theorem range_drop {n b : Nat} (h : b < n) : (List.range n).drop b = b :: (List.range n).drop (b + 1) := by
  rw [List.drop_eq_getElem_cons (by simpa using h)]; simp
theorem spreadEdge_len (z t : Int) (bs : List Bool) : (Ref.spreadEdge z bs t).length = bs.length := by unfold Ref.spreadEdge; split <;> simp
theorem spreadEdge_true (z t : Int) (bs : List Bool) (b : Nat) (h : bs[b]? = some true) : (Ref.spreadEdge z bs t)[b]? = some true := by
  unfold Ref.spreadEdge
  split
  · exact h
  · rw [List.getElem?_set]; split
    · rename_i e; subst e
      have := (List.getElem?_eq_some_iff.1 h).1
      simp [this]
    · exact h

set_option maxRecDepth 100000 in
set_option maxHeartbeats 8000000 in
theorem rreached_any (vg : Value) (g : List (List Int)) (z : Int) (w : World) (hg : TabAt w.heap.size w vg g) (hn : 1 ≤ g.length) (hsm : g.length ≤ 100000) (hok : Hid (∀ l ∈ g, ∀ t ∈ l, 0 ≤ t ∧ t < (g.length : Int))) :
    Calls Tryz.prog 43 #[vg, .int .i64 z] w fun e w' => ∃ v, e = .returned v ∧ BoolsAt w'.heap.size w' v (Ref.reached g z) ∧ Gr w w' := by
  obtain ⟨A, c, rfl, g1, g2, g3⟩ := hg
  obtain ⟨bg, og, rfl, hbg, hcg⟩ := g3 (by omega)
  have HG := Lib.hid hcg
  clear hcg g3
  by_cases hz : z = 0
  · have hzb : (z == 0) = true := by simp [hz]
    have HR : Hid (Ref.reached g z = List.replicate g.length false) := by show _ = _; unfold Ref.reached; rw [if_pos hz]
    clear hz
    go_enter Tryz.func43, Tryz.ntmps43
    go_wp2_with (at_make; refine make_bools rfl _ _ rfl w.heap.size g.length rfl rfl hn (by omega) (Nat.le_refl _) ?_; intro w1 hrow hg1 _ _)
    go_ret
    exact ⟨_, rfl, by rw [HR.out]; exact hrow.bools (by omega), hg1⟩
  · have hzb : (z == 0) = false := by simp [hz]
    have HR : Hid (Ref.reached g z = Ref.spread z g g.length ((List.replicate g.length false).set 0 true)) := by show _ = _; unfold Ref.reached; rw [if_neg hz]
    clear hz
    have z0 : (0 : Int) < (g.length : Int) := by omega
    go_enter Tryz.func43, Tryz.ntmps43
    go_wp2_with (at_make; refine make_bools rfl _ _ rfl w.heap.size g.length rfl rfl hn (by omega) (Nat.le_refl _) ?_; intro w1 hrow hg1 hc0 hf0)
    have hrow1 : BRow w.heap.size w.heap.size g.length (w1.setCell ⟨w.heap.size, 0, none⟩ (.bool true)) ((List.replicate g.length false).set 0 true) := hrow.set_ 0 true
    have hgr1 : Gr w (w1.setCell ⟨w.heap.size, 0, none⟩ (.bool true)) := hg1.setCell (Nat.le_refl _) _
    clear hc0 hf0 hrow
    go_loopw [6, 7, 8] (fun r _ _ wr => ∃ (k : Nat) (bs : List Bool), k ≤ g.length ∧ r = .int .i64 k ∧ BRow w.heap.size w.heap.size g.length wr bs ∧ Gr w wr ∧ Hid (Ref.reached g z = Ref.spread z g (g.length - k) bs)) (fun r _ _ _ => g.length - (intOf r).toNat)
    case atStart => exact ⟨0, _, Nat.zero_le _, rfl, hrow1, hgr1, HR⟩
    case round =>
      obtain ⟨k, bs, hk, rfl, hrow, hgr, hrest⟩ := hrel
      obtain ⟨wo, rfl⟩ : ∃ wo : World, wo = wr := ⟨_, rfl⟩
      clear hrow1 hgr1 hg1
      by_cases hlt : k < g.length
      · have HR1 : Hid (Ref.reached g z = Ref.spread z g (g.length - (k + 1)) (Ref.spreadRound z g bs)) := by
          show _ = _
          rw [hrest.out, show g.length - k = (g.length - (k + 1)) + 1 by omega]; rfl
        clear hrest
        go_wp2
        go_loopw [7, 8] (fun b _ wr => ∃ (j : Nat) (bs1 : List Bool), j ≤ g.length ∧ b = .int .i64 j ∧ BRow w.heap.size w.heap.size g.length wr bs1 ∧ Gr w wr ∧ Hid (Ref.spreadRound z g bs = ((List.range g.length).drop j).foldl (Ref.spreadBlock z g) bs1)) (fun b _ _ => g.length - (intOf b).toNat)
        case atStart => exact ⟨0, bs, Nat.zero_le _, rfl, hrow, hgr, by show _ = _; simp [Ref.spreadRound]⟩
        case round =>
          obtain ⟨j, bs1, hj, rfl, hrow1, hgr1, hrest1⟩ := hrel
          obtain ⟨wo1, rfl⟩ : ∃ wo1 : World, wo1 = wr := ⟨_, rfl⟩
          clear hrow hgr
          by_cases hlt1 : j < g.length
          · obtain ⟨l, hl⟩ : ∃ l, g[j]? = some l := ⟨g[j], by simp [hlt1]⟩
            obtain ⟨u, hu, hul⟩ := HG.out j l hl
            have hu' := (hgr1.cell _ _ hbg).trans hu
            have hul' := hul.below hgr1
            obtain ⟨A', c', rfl, p1, p2, -⟩ := hul'
            obtain ⟨A3, c3, e3, -, -, p3⟩ := hul
            injection e3 with e31 e32 e33
            subst e31; subst e33
            have HU := Lib.hid hu
            have HL : Hid (∀ t ∈ l, 0 ≤ t ∧ t < (g.length : Int)) := hok.out l (List.mem_of_getElem? hl)
            have hgd : g.getD j [] = l := by simp [List.getD, hl]
            have HD : Hid (Ref.spreadRound z g bs = ((List.range g.length).drop (j + 1)).foldl (Ref.spreadBlock z g) (Ref.spreadBlock z g bs1 j)) := by
              show _ = _
              rw [hrest1.out, range_drop hlt1]; rfl
            have hl1 := hrow1.len
            obtain ⟨bj, hbj⟩ : ∃ b, bs1[j]? = some b := ⟨bs1[j]'(by omega), by simp [show j < bs1.length by omega]⟩
            have q := hrow1.cell j bj hbj
            have HBJ := Lib.hid hbj
            have HGD := Lib.hid hgd
            have HL1 := Lib.hid hl1
            have P3 : Hid (0 < l.length → ∃ b off, A' = some ⟨b, off, none⟩ ∧ b < w.heap.size ∧ ∀ i z, l[i]? = some z → w.cell? ⟨b, off + i, none⟩ = some (.int .i64 z)) := p3
            have zj : (0 : Int) ≤ j := by omega
            clear hl hu hrest1 hgd hbj hl1 p3 e32
            go_wp2
            go_loopw [8] (fun i wr => ∃ (m : Nat) (bs2 : List Bool), m ≤ l.length ∧ i = .int .i64 m ∧ BRow w.heap.size w.heap.size g.length wr bs2 ∧ Gr w wr ∧ Hid (bs2[j]? = some bj) ∧ Hid (bj = false → bs2 = bs1) ∧ Hid (l.foldl (Ref.spreadEdge z) bs1 = (l.drop m).foldl (Ref.spreadEdge z) bs2)) (fun i _ => l.length - (intOf i).toNat)
            case atStart => exact ⟨0, bs1, Nat.zero_le _, rfl, hrow1, hgr1, HBJ, fun _ => rfl, rfl⟩
            case round =>
              obtain ⟨m, bs2, hm, rfl, hrow2, hgr2, hbj2, hsame, hfold⟩ := hrel
              have hu2 := (hgr2.cell bg (og + j) hbg).trans (HU.out)
              have q2 := hrow2.cell j bj hbj2.out
              have hgm : m ≤ l.length := hm
              cases bj with
              | false =>
                have HF : Hid (Ref.spreadBlock z g bs1 j = bs2) := by
                  show _ = _
                  rw [hsame.out rfl]; unfold Ref.spreadBlock
                  have : bs1.getD j false = false := by simp [List.getD, HBJ.out]
                  rw [this]; rfl
                clear hsame hfold
                by_cases hlt2 : m < l.length
                · go_wp2
                  go_roundw
                  case rel => exact ⟨j + 1, bs2, by omega, by go_num, hrow2, hgr2, by (show _ = _; rw [HD.out, HF.out])⟩
                  case measure => simp [intOf]; omega
                · go_wp2
                  go_roundw
                  case rel => exact ⟨j + 1, bs2, by omega, by go_num, hrow2, hgr2, by (show _ = _; rw [HD.out, HF.out])⟩
                  case measure => simp [intOf]; omega
              | true =>
                clear hsame
                rcases hr : l.drop m with _ | ⟨t, r⟩
                · have hmn := drop_nil hr hm
                  have HF : Hid (Ref.spreadBlock z g bs1 j = bs2) := by
                    show _ = _
                    unfold Ref.spreadBlock
                    have : bs1.getD j false = true := by simp [List.getD, HBJ.out]
                    rw [this, if_pos rfl, HGD.out, hfold.out, hr]; rfl
                  subst hmn
                  clear hr hfold
                  go_wp2
                  go_roundw
                  case rel => exact ⟨j + 1, bs2, by omega, by go_num, hrow2, hgr2, by (show _ = _; rw [HD.out, HF.out])⟩
                  case measure => simp [intOf]; omega
                · obtain ⟨hlt2, hm2, hr'⟩ := drop_cons hr
                  obtain ⟨bl, ol, rfl, hbl, hcl⟩ := P3.out (by omega)
                  have ht := HL.out t (List.mem_of_getElem? hm2)
                  obtain ⟨tn, rfl⟩ := Int.eq_ofNat_of_zero_le ht.1
                  have htn : tn < g.length := by omega
                  have qt := (Gr.cell (a := w) hgr2 bl (ol + m) hbl).trans (hcl m tn hm2)
                  obtain ⟨bt, hbt⟩ : ∃ b, bs2[tn]? = some b := ⟨bs2[tn]'(by have := hrow2.len; omega), by have := hrow2.len; simp [show tn < bs2.length by omega]⟩
                  have qc := hrow2.cell tn bt hbt
                  have qf := hrow2.frozen tn
                  have HF : Hid (l.foldl (Ref.spreadEdge z) bs1 = r.foldl (Ref.spreadEdge z) (Ref.spreadEdge z bs2 tn)) := by show _ = _; rw [hfold.out, hr]; rfl
                  have HR' : Hid (l.drop (m + 1) = r) := hr'
                  have zt : (tn : Int) < (g.length : Int) := by omega
                  clear hr hr' hm2 hfold hcl ht hbt
                  by_cases htz : (tn : Int) = z
                  · have nz : ((tn : Int) != z) = false := by simp [htz]
                    have HS : Hid (Ref.spreadEdge z bs2 tn = bs2) := by show _ = _; unfold Ref.spreadEdge; rw [if_pos htz]
                    clear htz
                    go_wp2
                    go_roundw
                    case rel => exact ⟨m + 1, bs2, by omega, by go_num, hrow2, hgr2, hbj2, fun h => (by cases h), by (show _ = _; rw [HF.out, HS.out, HR'.out])⟩
                    case measure => simp [intOf]; omega
                  · have nz : ((tn : Int) != z) = true := by simp [htz]
                    have HS : Hid (Ref.spreadEdge z bs2 tn = bs2.set tn true) := by show _ = _; unfold Ref.spreadEdge; rw [if_neg htz]; simp
                    clear htz
                    go_wp2
                    go_roundw
                    case rel => exact ⟨m + 1, bs2.set tn true, by omega, by go_num, hrow2.set_ tn true, hgr2.setCell (Nat.le_refl _) _, by (have := spreadEdge_true z tn bs2 j hbj2.out; rw [HS.out] at this; exact this), fun h => (by cases h), by (show _ = _; rw [HF.out, HS.out, HR'.out])⟩
                    case measure => simp [intOf]; omega
          · obtain rfl : j = g.length := by omega
            have HE : Hid (Ref.spreadRound z g bs = bs1) := by show _ = _; rw [hrest1.out, List.drop_eq_nil_of_le (by simp)]; rfl
            clear hrest1
            go_wp2
            go_roundw
            case rel => exact ⟨k + 1, bs1, by omega, by go_num, hrow1, hgr1, by (show _ = _; rw [HR1.out, HE.out])⟩
            case measure => simp [intOf]; omega
      · obtain rfl : k = g.length := by omega
        go_wp2
        go_ret
        exact ⟨_, rfl, by rw [hrest.out, Nat.sub_self]; exact hrow.bools (by omega), hgr⟩
end Go.Proofs.YtiadpjhlomhjeaaGreat

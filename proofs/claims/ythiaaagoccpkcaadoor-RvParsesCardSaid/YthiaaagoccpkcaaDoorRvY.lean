/- Slices of instructions; Bytes, both. -/
import Derived.Test.YthiaaagoccpkcaaDoorRvX
import Derived.Test.YthiaaagoccpkcaaDoorSl
import Derived.Test.YthiaaagoccpkcaaDoorLst
namespace Go.Proofs.YthiaaagoccpkcaaDoor
set_option linter.unusedSimpArgs false
set_option linter.unusedVariables false
open Go.RowKit

theorem SlAt.cases {B : Nat} {v : Value} {n : Nat} {R : Nat → Nat → Prop} (h : SlAt B v n R) : (n = 0 ∧ ∃ A c, v = .slice A 0 c) ∨ (0 < n ∧ ∃ b off c, v = .slice (some ⟨b, off, none⟩) n c ∧ n ≤ c ∧ c ≤ maxLen ∧ b < B ∧ R b off) := by
  obtain ⟨A, c, rfl, h1, h2, h3, h5⟩ := h
  rcases Nat.eq_zero_or_pos n with h0 | h0
  · subst h0; exact .inl ⟨rfl, A, c, rfl⟩
  · obtain ⟨b, off, rfl, hb, hR⟩ := h5 h0
    exact .inr ⟨h0, b, off, c, rfl, h1, h2, hb, hR⟩
/-- The five cells of an instruction. -/
def RvCells (w : World) (b o : Nat) (x : RvI) : Prop :=
  w.cell? ⟨b, o, none⟩ = some (.int .i64 x.op) ∧ w.cell? ⟨b, o + 1, none⟩ = some (.int .i64 x.d) ∧ w.cell? ⟨b, o + 2, none⟩ = some (.int .i64 x.a) ∧ w.cell? ⟨b, o + 3, none⟩ = some (.int .i64 x.b) ∧ w.cell? ⟨b, o + 4, none⟩ = some (.int .i64 x.imm)
theorem RvCells.gr {w w' : World} {b o : Nat} {x : RvI} (h : RvCells w b o x) (hb : b < w.heap.size) (g : Gr w w') : RvCells w' b o x :=
  ⟨(g.cell _ _ hb).trans h.1, (g.cell _ _ hb).trans h.2.1, (g.cell _ _ hb).trans h.2.2.1, (g.cell _ _ hb).trans h.2.2.2.1, (g.cell _ _ hb).trans h.2.2.2.2⟩
/-- v reads as the instructions L. -/
def RvsAt (w : World) (v : Value) (L : List RvI) : Prop :=
  SlAt w.heap.size v L.length fun b off => ∀ j x, L[j]? = some x → RvCells w b (off + j * 5) x
theorem RvsAt.gr {w w' : World} {v : Value} {L : List RvI} (h : RvsAt w v L) (g : Gr w w') : RvsAt w' v L :=
  SlAt.imp h g.size fun b off hb hR j x hx => (hR j x hx).gr hb g
def rvCells (x : RvI) : List Value := [.int .i64 x.op, .int .i64 x.d, .int .i64 x.a, .int .i64 x.b, .int .i64 x.imm]
theorem rvCells_at : ∀ (L : List RvI) (j : Nat) (x : RvI), L[j]? = some x → ∀ i, i < 5 → (L.flatMap rvCells)[j * 5 + i]? = (rvCells x)[i]?
  | [], j, x, h, i, hi => by simp at h
  | y :: L, 0, x, h, i, hi => by
    simp at h; subst h
    rw [List.flatMap_cons, List.getElem?_append_left (by simp [rvCells]; omega)]
    simp
  | y :: L, j + 1, x, h, i, hi => by
    have := rvCells_at L j x (by simpa using h) i hi
    rw [List.flatMap_cons, List.getElem?_append_right (by simp [rvCells]; omega)]
    rw [← this]
    congr 1
    simp [rvCells]; omega
theorem rvCells_len : ∀ L : List RvI, (L.flatMap rvCells).length = L.length * 5
  | [] => rfl
  | y :: L => by
    rw [List.flatMap_cons, List.length_append, rvCells_len L]
    simp [rvCells]; omega
/-- v owns a row that reads as L. -/
def OwnV (B : Nat) (w : World) (v : Value) (L : List RvI) : Prop := w.ownsRow B 23 5 v L.length (L.flatMap rvCells)
theorem OwnV.nil (B : Nat) (w : World) : OwnV B w (.slice none 0 0) [] := World.ownsRow_nil _ _ _ _
theorem OwnV.gr {B : Nat} {w w' : World} {v : Value} {L : List RvI} (h : OwnV B w v L) (g : Gr w w') : OwnV B w' v L := own_gr h g
theorem OwnV.rvs {B : Nat} {w : World} {v : Value} {L : List RvI} (h : OwnV B w v L) (hn : L.length ≤ 140737488351232) : RvsAt w v L := by
  rcases cell_of_own h with q | q
  · refine SlAt.imp q (Nat.le_refl _) fun b off _ hR j x hx => ?_
    have hj : j < L.length := (List.getElem?_eq_some_iff.1 hx).1
    have hc : ∀ i, i < 5 → w.cell? ⟨b, off + j * 5 + i, none⟩ = (rvCells x)[i]? := fun i hi => by
      rw [show off + j * 5 + i = off + (j * 5 + i) by omega, hR.2 (j * 5 + i) (by omega), rvCells_at L j x hx i hi]
    exact ⟨hc 0 (by omega), hc 1 (by omega), hc 2 (by omega), hc 3 (by omega), hc 4 (by omega)⟩
  · omega
theorem OwnV.form {B : Nat} {w : World} {v : Value} {L : List RvI} (h : OwnV B w v L) : ∃ A c, v = .slice A L.length c := by
  obtain ⟨A, c, hv, _⟩ := own_form h
  exact ⟨A, c, hv⟩
theorem infoRV : ((Tryd.prog).info? 23).map (fun i => (i.zero, i.size, i.bytes)) = some (some (.agg #[.int .i64 0, .int .i64 0, .int .i64 0, .int .i64 0, .int .i64 0]), 5, 40) := by kernel_rfl
theorem infoU8 : ((Tryd.prog).info? 5).map (fun i => (i.zero, i.size, i.bytes)) = some (some (.int .u8 0), 1, 1) := by kernel_rfl
theorem oneCell_u8 (zs : List Int) : ∀ u ∈ zs.map (Value.int .u8), u.oneCell' = true := by
  intro u hu; obtain ⟨z, _, rfl⟩ := List.mem_map.1 hu; rfl

/-- Four bytes more. -/
theorem app4 {w : World} {ops : Array Oper} {rest : List Oper} {o : Oper} {a : Act} {Q : Exit → Act → World → Prop} {B : Nat} 
    (hgd : o.guard = none) (s x : Operand) (ho : o.op = .call { callee := .builtin .append, args := #[s, x], argTypes := #[35, 35] })
    {v : Value} {bs : List Int} (hs : a.eval s = v) (hown : Own1 B 5 w v (bs.map (Value.int .u8))) {y0 y1 y2 y3 : Int} {e' : TypeId} (hx : a.eval x = .slice (some ⟨w.heap.size, 0, none⟩) 4 4) (hlt : bs.length < 1099511627776) (hB : B ≤ w.heap.size)
    (h : ∀ A c w', Own1 B 5 w' (.slice A (bs.length + 4) c) ((bs ++ [y0, y1, y2, y3]).map (Value.int .u8)) → Below B w w' → wpList Tryd.prog ops Q rest (a.put o.dst (.slice A (bs.length + 4) c)) w') :
    wpList Tryd.prog ops Q (o :: rest) a (w.alloc (.cells #[.int .u8 y0, .int .u8 y1, .int .u8 y2, .int .u8 y3] e')) := by
  obtain ⟨i0, hi, hz0, hz1, hz2⟩ := info_parts infoU8
  have hl : (bs.map (Value.int .u8)).length = bs.length := List.length_map _
  refine wpList_append_src hgd s x 35 ho B 5 i0 (.int .u8 0) 1 1 Tryd.underlying35 hi hz0 hz1 hz2 rfl (by omega) v bs.length (bs.map (Value.int .u8)) hs (by have := own_gr hown ((Gr.refl _).alloc (.cells #[.int .u8 y0, .int .u8 y1, .int .u8 y2, .int .u8 y3] e')); rwa [hl] at this) _ 4 [.int .u8 y0, .int .u8 y1, .int .u8 y2, .int .u8 y3] hx ?_ ?_ ?_ ?_ ?_ ?_
  · refine ⟨_, _, rfl, rfl, fun _ => ⟨_, rfl, fun j y hy => ?_⟩⟩
    have := cell_of_row (w.alloc (.cells #[.int .u8 y0, .int .u8 y1, .int .u8 y2, .int .u8 y3] e')) w.heap.size j #[.int .u8 y0, .int .u8 y1, .int .u8 y2, .int .u8 y3] e' (0, 0) (heap_alloc_new w _)
    rw [addr_add, Nat.zero_add, this]; simpa using hy
  · intro u hu; simp at hu; rcases hu with rfl | rfl | rfl | rfl <;> rfl
  · simp only [maxLen]; omega
  · omega
  · simp; omega
  · intro v' w' hown' hg _
    have hown'' : Own1 B 5 w' v' ((bs ++ [y0, y1, y2, y3]).map (Value.int .u8)) := by
      unfold Own1
      have e : ((bs ++ [y0, y1, y2, y3]).map (Value.int .u8)).length = bs.length + 4 := by simp
      rw [e, List.map_append]
      exact hown'
    obtain ⟨A, c, hv⟩ := hown''.form
    have e : ((bs ++ [y0, y1, y2, y3]).map (Value.int .u8)).length = bs.length + 4 := by simp
    rw [e] at hv
    subst hv
    refine h A c w' hown'' ?_
    exact (((Below.refl B w).alloc hB _)).grown hg (by simp; omega) (fun k hk => (own_block_lt hown k hk).1)

theorem take_snoc {L : List RvI} {k : Nat} {x : RvI} (hx : L[k]? = some x) : L.take (k + 1) = L.take k ++ [x] := by
  rw [List.take_add_one, hx]; rfl
theorem allValid_snoc (L : List RvI) (x : RvI) : Rv.allValid (L ++ [x]) = (Rv.allValid L && Rv.valid x) := by simp [Rv.allValid]
theorem allValid_false {L : List RvI} {k : Nat} {x : RvI} (hx : L[k]? = some x) (h : Rv.valid x = false) : Rv.allValid L = false := by
  unfold Rv.allValid
  rw [List.all_eq_false]
  exact ⟨x, List.mem_of_getElem? hx, by rw [h]; decide⟩

/-- What Bytes hands back. -/
def BytesRet (w : World) (L : List RvI) (e : Ending) (w' : World) : Prop :=
  ∃ A c, e = .returned (.tuple #[.slice A (Rv.bytesR L).length c, .int .i64 (Rv.bytesE L)]) ∧ Own1 w.heap.size 5 w' (.slice A (Rv.bytesR L).length c) ((Rv.bytesR L).map (Value.int .u8)) ∧ Gr w w'
set_option maxRecDepth 100000 in
set_option maxHeartbeats 8000000 in
theorem pBytes_any (v : Value) (L : List RvI) (w : World) (hv : RvsAt w v L) (hn : L.length ≤ 4000) : Calls Tryd.prog 19 #[v] w (BytesRet w L) := by
  rcases SlAt.cases hv with ⟨h0, A, c, rfl⟩ | ⟨h0, b, off, c, rfl, hc, hcm, hb, hR⟩
  · have e0 : L = [] := List.eq_nil_of_length_eq_zero h0
    subst e0
    go_enter Tryd.func19, Tryd.ntmps19
    go_wp2
    refine wp_loop_rounds 1 ?_
    rw [rounds_succ]
    go_wp2
    go_ret2
    exact ⟨none, 0, rfl, Own1.nil _ _ _, Gr.refl w⟩
  · have HEN := Lib.hid (fun (x : RvI) (w1 : World) => pEncode_any x w1)
    have HR : Hid (∀ w1, Gr w w1 → ∀ j x, L[j]? = some x → RvCells w1 b (off + j * 5) x) := fun w1 g j x hx => (hR j x hx).gr hb g
    have hl0 : L.length ≤ 9223372036854775807 := by omega
    have HN := Lib.hid hn
    obtain ⟨n, hn'⟩ : ∃ n, L.length = n := ⟨_, rfl⟩
    have HLn := Lib.hid hn'
    rw [hn'] at hc hl0 h0
    clear hv hR hn
    rw [hn']
    clear hn'
    unfold maxLen at hcm
    go_enter Tryd.func19, Tryd.ntmps19
    go_wp2
    go_loopw [4, 11] (fun s i wr => ∃ (k : Nat) (A : Option Addr) (cp : Nat), k ≤ n ∧ i = .int .i64 k ∧ s = .slice A (Rv.bytesOf (L.take k)).length cp ∧ Hid (Own1 w.heap.size 5 wr (.slice A (Rv.bytesOf (L.take k)).length cp) ((Rv.bytesOf (L.take k)).map (Value.int .u8)) ∧ Gr w wr ∧ Rv.allValid (L.take k) = true)) (fun _ i _ => n - (intOf i).toNat)
    case atStart => exact ⟨0, none, 0, by omega, rfl, rfl, Lib.hid ⟨Own1.nil _ _ _, Gr.refl w, rfl⟩⟩
    case round =>
      obtain ⟨k, A, cp, hk, rfl, rfl, HI⟩ := hrel
      by_cases hlt : k < n
      · obtain ⟨x, hx⟩ : ∃ x, L[k]? = some x := ⟨_, List.getElem?_eq_getElem (by rw [HLn.out]; exact hlt)⟩
        have HX := Lib.hid hx
        obtain ⟨c0, c1, c2, c3, c4⟩ := HR.out wr HI.out.2.1 k x hx
        have HE := Lib.hid (HEN.out x)
        have hcase : (Rv.validE x = 0 ∧ Rv.valid x = true ∧ Rv.wordR x = Rv.word x) ∨ (Rv.validE x = 1 ∧ Rv.valid x = false) := by
          cases h : Rv.valid x with
          | true => exact .inl ⟨by unfold Rv.validE; rw [h]; rfl, rfl, by unfold Rv.wordR; rw [h]; rfl⟩
          | false => exact .inr ⟨by unfold Rv.validE; rw [h]; rfl, rfl⟩
        have w01 := wordR_in x
        have htk := take_snoc hx
        have HTK := Lib.hid htk
        clear hx htk
        rcases hcase with ⟨e1, e2, e3⟩ | ⟨e1, e2⟩
        · have HV : Hid (Rv.allValid (L.take (k + 1)) = true) := by
            show _ = _
            rw [HTK.out, allValid_snoc, HI.out.2.2, e2]; rfl
          have HBY : Hid (Rv.bytesOf (L.take (k + 1)) = Rv.bytesOf (L.take k) ++ Rv.wbytes (Rv.wordR x)) := by
            show _ = _
            rw [HTK.out, Rv.bytesOf_snoc, e3]
          have HLB : Hid ((Rv.bytesOf (L.take k)).length < 1099511627776) := by
            show _ < _
            rw [Rv.bytesOf_length]
            have := HN.out
            simp; omega
          rw [e1] at HE
          obtain ⟨wd, hwd⟩ : ∃ z, Rv.wordR x = z := ⟨_, rfl⟩
          rw [hwd] at HE HBY w01
          clear hwd e1 e2 e3
          obtain ⟨x0, x1, x2, x3, x4⟩ := x
          unfold rvVal at HE
          dsimp only at HE c0 c1 c2 c3 c4
          obtain ⟨b0, b1⟩ := w01
          have HWB : Hid (Rv.wbytes wd = [wd % 256, wd / 256 % 256, wd / 65536 % 256, wd / 16777216]) := by
            show _ = _
            simp only [Rv.wbytes, List.cons.injEq, and_true, true_and]
            omega
          go_wp2_with (first
            | (go_at_call 12; refine (HE.out _).mono ?_; rintro e w1 ⟨rfl, g1⟩; have G1 : Hid (Gr wr w1) := ((Gr.refl wr).alloc _).trans g1)
            | (at_builtin; refine app4 rfl _ _ rfl rfl (HI.out.1.gr G1.out) rfl HLB.out (HI.out.2.1.trans G1.out).size ?_; intro A' c' w2 hown2 hb2; have HO2 := Lib.hid hown2; clear hown2))
          have HL1 : Hid ((Rv.bytesOf (L.take (k + 1))).length = (Rv.bytesOf (L.take k)).length + 4) := by
            show _ = _
            rw [HBY.out]; simp [Rv.wbytes]
          go_roundw
          case rel => exact ⟨k + 1, A', c', by omega, by go_num, by rw [HL1.out], Lib.hid ⟨by rw [HL1.out, HBY.out, HWB.out]; exact HO2.out, Gr.below (HI.out.2.1.trans G1.out) hb2 (Nat.le_refl _), HV.out⟩⟩
          case measure => simp [intOf]; omega
        · have HV : Hid (Rv.allValid L = false) := allValid_false HX.out e2
          rw [e1] at HE
          obtain ⟨wd, hwd⟩ : ∃ z, Rv.wordR x = z := ⟨_, rfl⟩
          rw [hwd] at HE
          clear hwd e1 e2 w01
          obtain ⟨x0, x1, x2, x3, x4⟩ := x
          unfold rvVal at HE
          dsimp only at HE c0 c1 c2 c3 c4
          go_wp2_with (first
            | (go_at_call 12; refine (HE.out _).mono ?_; rintro e w1 ⟨rfl, g1⟩; have G1 : Hid (Gr wr w1) := ((Gr.refl wr).alloc _).trans g1))
          go_ret2
          have e1 : Rv.bytesR L = [] := by unfold Rv.bytesR; rw [HV.out]; rfl
          have e2 : Rv.bytesE L = 1 := by unfold Rv.bytesE; rw [HV.out]; rfl
          exact ⟨none, 0, by rw [e1, e2]; rfl, by rw [e1]; exact Own1.nil _ _ _, HI.out.2.1.trans G1.out⟩
      · have he : k = n := by omega
        subst he
        have HV : Hid (L.take k = L) := by
          show _ = _
          rw [← HLn.out]; exact List.take_length
        go_wp2
        go_ret2
        obtain ⟨q1, q2, q3⟩ := HI.out
        rw [HV.out] at q1 q3
        have e1 : Rv.bytesR L = Rv.bytesOf L := by unfold Rv.bytesR; rw [q3]; rfl
        have e2 : Rv.bytesE L = 0 := by unfold Rv.bytesE; rw [q3]; rfl
        exact ⟨A, cp, by rw [e1, e2, HV.out]; rfl, by rw [e1]; exact q1, q2⟩
set_option maxRecDepth 100000 in
set_option maxHeartbeats 8000000 in
theorem rBytes_any (v : Value) (L : List RvI) (w : World) (hv : RvsAt w v L) (hn : L.length ≤ 4000) : Calls Tryd.prog 20 #[v] w (BytesRet w L) := by
  rcases SlAt.cases hv with ⟨h0, A, c, rfl⟩ | ⟨h0, b, off, c, rfl, hc, hcm, hb, hR⟩
  · have e0 : L = [] := List.eq_nil_of_length_eq_zero h0
    subst e0
    go_enter Tryd.func20, Tryd.ntmps20
    go_wp2
    refine wp_loop_rounds 1 ?_
    rw [rounds_succ]
    go_wp2
    refine wp_loop_rounds 1 ?_
    rw [rounds_succ]
    go_wp2
    go_ret2
    exact ⟨none, 0, rfl, Own1.nil _ _ _, Gr.refl w⟩
  · have HVA := Lib.hid (fun (x : RvI) (w1 : World) => rValidate_any x w1)
    have HEN := Lib.hid (fun (x : RvI) (h : Rv.valid x = true) (w1 : World) => rencode_valid x h w1)
    have HR : Hid (∀ w1, Gr w w1 → ∀ j x, L[j]? = some x → RvCells w1 b (off + j * 5) x) := fun w1 g j x hx => (hR j x hx).gr hb g
    have hl0 : L.length ≤ 9223372036854775807 := by omega
    have HN := Lib.hid hn
    obtain ⟨n, hn'⟩ : ∃ n, L.length = n := ⟨_, rfl⟩
    have HLn := Lib.hid hn'
    rw [hn'] at hc hl0 h0
    clear hv hR hn
    rw [hn']
    clear hn'
    unfold maxLen at hcm
    go_enter Tryd.func20, Tryd.ntmps20
    go_wp2
    go_loopw [4] (fun i wr => ∃ k : Nat, k ≤ n ∧ i = .int .i64 k ∧ Hid (Gr w wr ∧ Rv.allValid (L.take k) = true)) (fun i _ => n - (intOf i).toNat)
    case atStart => exact ⟨0, by omega, rfl, Lib.hid ⟨Gr.refl w, rfl⟩⟩
    case round =>
      obtain ⟨k, hk, rfl, HI⟩ := hrel
      by_cases hlt : k < n
      · obtain ⟨x, hx⟩ : ∃ x, L[k]? = some x := ⟨_, List.getElem?_eq_getElem (by rw [HLn.out]; exact hlt)⟩
        have HX := Lib.hid hx
        obtain ⟨c0, c1, c2, c3, c4⟩ := HR.out wr HI.out.1 k x hx
        have HV1 := Lib.hid (HVA.out x)
        have HTK := Lib.hid (take_snoc hx)
        have hcase : (Rv.validE x = 0 ∧ Rv.valid x = true) ∨ (Rv.validE x = 1 ∧ Rv.valid x = false) := by
          cases h : Rv.valid x with
          | true => exact .inl ⟨by unfold Rv.validE; rw [h]; rfl, rfl⟩
          | false => exact .inr ⟨by unfold Rv.validE; rw [h]; rfl, rfl⟩
        clear hx
        rcases hcase with ⟨e1, e2⟩ | ⟨e1, e2⟩
        · have HV : Hid (Rv.allValid (L.take (k + 1)) = true) := by
            show _ = _
            rw [HTK.out, allValid_snoc, HI.out.2, e2]; rfl
          rw [e1] at HV1
          clear e1 e2
          obtain ⟨x0, x1, x2, x3, x4⟩ := x
          unfold rvVal at HV1
          dsimp only at HV1 c0 c1 c2 c3 c4
          go_wp2_with (go_at_call 15; refine (HV1.out _).mono ?_; rintro e w1 ⟨rfl, g1⟩)
          go_roundw
          case rel => exact ⟨k + 1, by omega, by go_num, Lib.hid ⟨HI.out.1.trans g1, HV.out⟩⟩
          case measure => simp [intOf]; omega
        · have HV : Hid (Rv.allValid L = false) := allValid_false HX.out e2
          rw [e1] at HV1
          clear e1 e2
          obtain ⟨x0, x1, x2, x3, x4⟩ := x
          unfold rvVal at HV1
          dsimp only at HV1 c0 c1 c2 c3 c4
          go_wp2_with (go_at_call 15; refine (HV1.out _).mono ?_; rintro e w1 ⟨rfl, g1⟩)
          go_ret2
          have e1 : Rv.bytesR L = [] := by unfold Rv.bytesR; rw [HV.out]; rfl
          have e2 : Rv.bytesE L = 1 := by unfold Rv.bytesE; rw [HV.out]; rfl
          exact ⟨none, 0, by rw [e1, e2]; rfl, by rw [e1]; exact Own1.nil _ _ _, HI.out.1.trans g1⟩
      · have he : k = n := by omega
        subst he
        have HV : Hid (Rv.allValid L = true) := by
          have h := HI.out.2
          rw [← HLn.out, List.take_length] at h
          exact h
        obtain ⟨w0, hw0⟩ : ∃ w0, wr = w0 := ⟨_, rfl⟩
        have HG0 : Hid (Gr w w0) := by rw [← hw0]; exact HI.out.1
        rw [hw0]
        clear HI hw0
        go_wp2
        go_loopw [6, 7] (fun s i wr => ∃ (j : Nat) (A : Option Addr) (cp : Nat), j ≤ k ∧ i = .int .i64 j ∧ s = .slice A (Rv.bytesOf (L.take j)).length cp ∧ Hid (Own1 w.heap.size 5 wr (.slice A (Rv.bytesOf (L.take j)).length cp) ((Rv.bytesOf (L.take j)).map (Value.int .u8)) ∧ Gr w wr)) (fun _ i _ => k - (intOf i).toNat)
        case atStart => exact ⟨0, none, 0, by omega, rfl, rfl, Lib.hid ⟨Own1.nil _ _ _, HG0.out⟩⟩
        case round =>
          obtain ⟨j, A, cp, hj, rfl, rfl, HI⟩ := hrel
          by_cases hlt : j < k
          · obtain ⟨x, hx⟩ : ∃ x, L[j]? = some x := ⟨_, List.getElem?_eq_getElem (by rw [HLn.out]; exact hlt)⟩
            obtain ⟨c0, c1, c2, c3, c4⟩ := HR.out wr HI.out.2 j x hx
            have hvx : Rv.valid x = true := by
              have h := HV.out
              unfold Rv.allValid at h
              exact List.all_eq_true.1 h x (List.mem_of_getElem? hx)
            have HE := Lib.hid (HEN.out x hvx)
            have HTK := Lib.hid (take_snoc hx)
            have w01 := Rv.word_fields x hvx
            have HBY : Hid (Rv.bytesOf (L.take (j + 1)) = Rv.bytesOf (L.take j) ++ Rv.wbytes (Rv.word x)) := by
              show _ = _
              rw [HTK.out, Rv.bytesOf_snoc]
            have HLB : Hid ((Rv.bytesOf (L.take j)).length < 1099511627776) := by
              show _ < _
              rw [Rv.bytesOf_length]
              have := HN.out
              simp; omega
            obtain ⟨b0, b1, -⟩ := w01
            obtain ⟨wd, hwd⟩ : ∃ z, Rv.word x = z := ⟨_, rfl⟩
            rw [hwd] at HE HBY b0 b1
            clear hwd hx hvx
            obtain ⟨x0, x1, x2, x3, x4⟩ := x
            unfold rvVal at HE
            dsimp only at HE c0 c1 c2 c3 c4
            have HWB : Hid (Rv.wbytes wd = [wd % 256, wd / 256 % 256, wd / 65536 % 256, wd / 16777216]) := by
              show _ = _
              simp only [Rv.wbytes, List.cons.injEq, and_true, true_and]
              omega
            go_wp2_with (first
              | (go_at_call 36; refine (HE.out _).mono ?_; rintro e w1 ⟨rfl, g1⟩; have G1 := Lib.hid g1)
              | (at_builtin; refine app4 rfl _ _ rfl rfl (HI.out.1.gr G1.out) rfl HLB.out (HI.out.2.trans G1.out).size ?_; intro A' c' w2 hown2 hb2; have HO2 := Lib.hid hown2; clear hown2))
            have HL1 : Hid ((Rv.bytesOf (L.take (j + 1))).length = (Rv.bytesOf (L.take j)).length + 4) := by
              show _ = _
              rw [HBY.out]; simp [Rv.wbytes]
            go_roundw
            case rel => exact ⟨j + 1, A', c', by omega, by go_num, by rw [HL1.out], Lib.hid ⟨by rw [HL1.out, HBY.out, HWB.out]; exact HO2.out, Gr.below (HI.out.2.trans G1.out) hb2 (Nat.le_refl _)⟩⟩
            case measure => simp [intOf]; omega
          · have he : j = k := by omega
            subst he
            have HT : Hid (L.take j = L) := by
              show _ = _
              rw [← HLn.out]; exact List.take_length
            go_wp2
            go_ret2
            obtain ⟨q1, q2⟩ := HI.out
            rw [HT.out] at q1
            have e1 : Rv.bytesR L = Rv.bytesOf L := by unfold Rv.bytesR; rw [HV.out]; rfl
            have e2 : Rv.bytesE L = 0 := by unfold Rv.bytesE; rw [HV.out]; rfl
            exact ⟨A, cp, by rw [e1, e2, HT.out]; rfl, by rw [e1]; exact q1, q2⟩
end Go.Proofs.YthiaaagoccpkcaaDoor

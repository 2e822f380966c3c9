/- A copy of a slice of bytes; begin; Step; the document's small functions; registers as a whole. -/
import Derived.Test.YthiaaagoccpkcaaDoorMaI
import Derived.Test.YthiaaagoccpkcaaDoorRvZa
import Derived.Lib.SliceRun
import Derived.Test.YthiaaagoccpkcaaDoorRvM
import Derived.Deep.RegionWith
import Derived.ChangeKeysEq

namespace Go.Proofs.YthiaaagoccpkcaaDoor
set_option linter.unusedSimpArgs false
set_option linter.unusedVariables false
open Go.RowKit

/-- What reads as bytes can be appended. -/
theorem BytesAt.src {w : World} {v : Value} {bs : List Int} (h : BytesAt w v bs) : Src w v 1 bs.length (bs.map (Value.int .u8)) := by
  obtain ⟨-, A, c, rfl, -, -, -, h5⟩ := h
  refine ⟨A, c, rfl, by simp, fun hp => ?_⟩
  obtain ⟨b, off, rfl, hb, hR⟩ := h5 hp
  refine ⟨_, rfl, fun j x hx => ?_⟩
  rw [List.getElem?_map] at hx
  obtain ⟨z, hz, rfl⟩ := Option.map_eq_some_iff.1 hx
  rw [addr_add]
  exact hR j z hz
/-- append([]byte{}, v...): a row of its own. -/
theorem appB {w : World} {ops : Array Oper} {rest : List Oper} {o : Oper} {a : Act} {Q : Exit → Act → World → Prop} {bs : List Int}
    (hgd : o.guard = none) (s x : Operand) (ho : o.op = .call { callee := .builtin .append, args := #[s, x], argTypes := #[35, 35] })
    {u : Value} (hs : a.eval s = .slice (some ⟨w.heap.size, 0, none⟩) 0 0) (hx : a.eval x = u) (hu : BytesAt w u bs) (hl : bs.length ≤ 1000000)
    (h : ∀ A c w', Own1 w.heap.size 5 w' (.slice A bs.length c) (bs.map (Value.int .u8)) → Gr w w' → wpList Tryd.prog ops Q rest (a.put o.dst (.slice A bs.length c)) w') :
    wpList Tryd.prog ops Q (o :: rest) a (w.alloc (.cells #[] 5)) := by
  have hi := infoU8
  cases hp : (Tryd.prog).info? 5 with
  | none => rw [hp] at hi; simp at hi
  | some i =>
    rw [hp] at hi
    simp only [Option.map_some, Option.some.injEq, Prod.mk.injEq] at hi
    obtain ⟨z1, z2, z3⟩ := hi
    refine appN (B := w.heap.size) (z := .int .u8 0) (bytes := 1) Tryd.underlying35 hp z1 z2 z3 rfl hgd s x ho hs (Own1.empty w _ (Nat.le_refl _)) (oneCell_u8 bs) hx (u := u) (by rw [List.length_map]; exact (hu.gr ((Gr.refl w).alloc _)).src) ?_ ?_ ?_ ?_
    · simp; omega
    · simp; omega
    · simp
    · intro A c w' hown hb hg
      simp only [List.length_nil, List.length_map, List.nil_append, Nat.zero_add] at hown ⊢
      exact h A c w' hown (Gr.below ((Gr.refl w).alloc _) hb (Nat.le_refl _))
set_option maxHeartbeats 4000000 in
set_option maxRecDepth 100000 in
theorem clone_any (v : Value) (bs : List Int) (w : World) (hv : BytesAt w v bs) (hl : bs.length ≤ 1000000) :
    Calls Tryd.prog 72 #[v] w fun e w' => ∃ u, e = .returned u ∧ Own1 w.heap.size 5 w' u (bs.map (Value.int .u8)) ∧ Gr w w' := by
  have HV := Lib.hid hv
  have q4 : ∀ (w : World) (a : Option Addr) (n c : Nat), (binOp .eql 35 (.slice a n c) (.slice none 0 0)).run Tryd.prog w = .ok (.bool a.isNone) w := fun w a n c => Lib.run_eql_slice_nil w _ _ a n c 0 0 Tryd.underlying35
  obtain ⟨A, c, rfl⟩ : ∃ A c, v = .slice A bs.length c := by
    obtain ⟨-, A, c, rfl, -⟩ := hv
    exact ⟨A, c, rfl⟩
  cases A with
  | none =>
    have hz : bs.length = 0 := by
      obtain ⟨-, A, c, e, -, -, -, h5⟩ := hv
      injection e with e1
      subst e1
      rcases Nat.eq_zero_or_pos bs.length with h | h
      · exact h
      · obtain ⟨b, off, e, _⟩ := h5 h
        cases e
    have he : bs = [] := List.eq_nil_of_length_eq_zero hz
    subst he
    clear hv
    go_enter Tryd.func72, Tryd.ntmps72
    go_wp2
    go_ret
    exact ⟨_, rfl, Own1.nil _ _ _, Gr.refl w⟩
  | some ad =>
    clear hv
    go_enter Tryd.func72, Tryd.ntmps72
    go_wp2_with (at_builtin; refine appB rfl _ _ rfl (by simp [Act.eval]) rfl HV.out hl ?_; intro A' c' w2 hown hg; have HO := Lib.hid hown; have HG := Lib.hid hg; clear hown hg)
    go_ret
    exact ⟨_, rfl, HO.out, HG.out⟩
end Go.Proofs.YthiaaagoccpkcaaDoor

namespace Go.Proofs.YthiaaagoccpkcaaDoor
set_option linter.unusedSimpArgs false
set_option linter.unusedVariables false
open Go.RowKit

/-- A machine handed in by its value: v reads as m. -/
structure MVal (w : World) (v : Value) (m : Mach) (mv : Value) : Prop where
  val : v = .agg (machL m mv).toArray
  mem : BytesAt w mv m.mem
  wf : Rv.WfM m
/-- The error of begin. -/
def Rv.errM (m : Mach) (most : Int) : Int :=
  if 32768 < m.mem.length ∨ m.regs.getD 0 0 ≠ 0 ∨ most < 0 ∨ 200000 < most then 1 else if m.fin ≠ 0 then 9 else 0
theorem MRow.new0 {m : Mach} (hm : m.regs.length = 32) (w : World) (t : TypeId) (mv : Value) : MRow (w.alloc (.cells (machL m mv).toArray t)) w.heap.size t m mv [] :=
  ⟨hm, by rw [List.append_nil]; exact heap_alloc_new w _⟩
theorem builtM36 (a0 a1 a2 a3 a4 a5 a6 a7 a8 a9 a10 a11 a12 a13 a14 a15 a16 a17 a18 a19 a20 a21 a22 a23 a24 a25 a26 a27 a28 a29 a30 a31 a32 a33 a34 a35 : Value) (g : Nat) : (Tryd.prog).built 88 [(0, .agg #[a0, a1, a2, a3, a4, a5, a6, a7, a8, a9, a10, a11, a12, a13, a14, a15, a16, a17, a18, a19, a20, a21, a22, a23, a24, a25, a26, a27, a28, a29, a30, a31, a32, a33, a34, a35]), (1, .map (some g))] = some #[a0, a1, a2, a3, a4, a5, a6, a7, a8, a9, a10, a11, a12, a13, a14, a15, a16, a17, a18, a19, a20, a21, a22, a23, a24, a25, a26, a27, a28, a29, a30, a31, a32, a33, a34, a35, Value.map (some g)] := by kernel_rfl
/-- A machine of the program is made of a machine and a table. -/
theorem builtM (xs : List Value) (h : xs.length = 36) (g : Nat) : (Tryd.prog).built 88 [(0, .agg xs.toArray), (1, .map (some g))] = some (xs ++ [Value.map (some g)]).toArray := by
  match xs, h with
  | a0 :: a1 :: a2 :: a3 :: a4 :: a5 :: a6 :: a7 :: a8 :: a9 :: a10 :: a11 :: a12 :: a13 :: a14 :: a15 :: a16 :: a17 :: a18 :: a19 :: a20 :: a21 :: a22 :: a23 :: a24 :: a25 :: a26 :: a27 :: a28 :: a29 :: a30 :: a31 :: a32 :: a33 :: a34 :: a35 :: [], _ => exact builtM36 a0 a1 a2 a3 a4 a5 a6 a7 a8 a9 a10 a11 a12 a13 a14 a15 a16 a17 a18 a19 a20 a21 a22 a23 a24 a25 a26 a27 a28 a29 a30 a31 a32 a33 a34 a35 g
set_option maxRecDepth 100000 in
set_option maxHeartbeats 8000000 in
theorem begin_err {w : World} {m : Mach} {mv : Value} (hv : BytesAt w mv m.mem) (hw : Rv.WfM m) (most : Int) (he : Rv.errM m most ≠ 0) :
    Calls Tryd.prog 51 #[.agg (machL m mv).toArray, .int .i64 most] w fun e w' => e = .returned (.tuple #[.pointer none, .int .i64 (Rv.errM m most)]) ∧ Gr w w' := by
  obtain ⟨W, hW⟩ : ∃ W, w.alloc (.cells (machL m mv).toArray 45) = W := ⟨_, rfl⟩
  have hr : MRow W w.heap.size 45 m mv [] := by rw [← hW]; exact MRow.new0 hw.regs w _ mv
  have HG : Hid (Gr w W) := by rw [← hW]; exact (Gr.refl w).alloc _
  have k0 := hr.reg 0 (by omega)
  have k34 := hr.mem
  have k35 := hr.fin
  obtain ⟨A, c, hmv⟩ : ∃ A c, mv = .slice A m.mem.length c := by
    obtain ⟨-, A, c, e, -⟩ := hv
    exact ⟨A, c, e⟩
  rw [hmv] at k34
  have hl : (m.mem.length : Int) ≤ 140737488351232 := by
    obtain ⟨-, A, c, e, -, -, h5, -⟩ := hv
    omega
  unfold Rv.errM at he ⊢
  clear hr hv hmv hw
  generalize m.mem.length = l at *
  generalize m.regs.getD 0 0 = r0 at *
  generalize m.fin = fin at *
  by_cases h1 : 32768 < l
  · have c1 : decide ((32768 : Int) < (l : Int)) = true := by rw [decide_eq_true_iff]; omega
    rw [if_pos (.inl h1)]
    clear h1 he
    go_enter Tryd.func51, Tryd.ntmps51
    go_wp2
    go_ret2
    exact ⟨rfl, HG.out⟩
  have c1 : decide ((32768 : Int) < (l : Int)) = false := by rw [decide_eq_false_iff_not]; omega
  by_cases h2 : r0 ≠ 0
  · have c2 : (r0 != 0) = true := by simpa using h2
    rw [if_pos (.inr (.inl h2))]
    clear h1 h2 he
    go_enter Tryd.func51, Tryd.ntmps51
    go_wp2
    go_ret2
    exact ⟨rfl, HG.out⟩
  have h2' : r0 = 0 := by omega
  subst h2'
  clear h2
  by_cases h3 : most < 0
  · have c3 : decide (most < 0) = true := by rw [decide_eq_true_iff]; omega
    rw [if_pos (.inr (.inr (.inl h3)))]
    clear h1 h3 he
    go_enter Tryd.func51, Tryd.ntmps51
    go_wp2
    go_ret2
    exact ⟨rfl, HG.out⟩
  have c3 : decide (most < 0) = false := by rw [decide_eq_false_iff_not]; omega
  by_cases h4 : 200000 < most
  · have c4 : decide (200000 < most) = true := by rw [decide_eq_true_iff]; omega
    rw [if_pos (.inr (.inr (.inr h4)))]
    clear h1 h3 h4 he
    go_enter Tryd.func51, Tryd.ntmps51
    go_wp2
    go_ret2
    exact ⟨rfl, HG.out⟩
  have c4 : decide (200000 < most) = false := by rw [decide_eq_false_iff_not]; omega
  rw [if_neg (by omega)] at he ⊢
  by_cases h5 : fin = 0
  · exact absurd (if_neg (fun h => h h5)) he
  · have c5 : (fin != 0) = true := by simpa using h5
    rw [if_pos h5]
    clear h1 h3 h4 h5 he
    go_enter Tryd.func51, Tryd.ntmps51
    go_wp2
    go_ret2
    exact ⟨rfl, HG.out⟩
end Go.Proofs.YthiaaagoccpkcaaDoor

namespace Go.Proofs.YthiaaagoccpkcaaDoor
set_option linter.unusedSimpArgs false
set_option linter.unusedVariables false
open Go.RowKit

theorem wp_buildTo {P : Program} {o : Oper} {a : Act} {w : World} {K : Act → World → Prop} {Q : Exit → Act → World → Prop} (t : TypeId) (parts : Array (Nat × Operand)) (ho : o.op = .build t parts)
    (cells : Array Value) (hf : P.built t (parts.map fun (i, x) => (i, a.eval x)).toList = some cells) (h : K (a.put o.dst (.agg cells)) w) : o.wp P a w K Q := by
  refine wp_build t parts ho (by rw [hf]; rfl) ?_
  rw [hf]
  exact h
theorem own_base {B B' : Nat} {e : TypeId} {w : World} {v : Value} {xs : List Value} (h : Own1 B e w v xs) (hB : B' ≤ B) : Own1 B' e w v xs := by
  obtain ⟨h1, h2⟩ := h
  refine ⟨h1, ?_⟩
  rcases h2 with h2 | ⟨k, cap, cur, hv, hb, r⟩
  · exact .inl h2
  · exact .inr ⟨k, cap, cur, hv, Nat.le_trans hB hb, r⟩
theorem infoM : ((Tryd.prog).info? 45).map (·.size) = some 36 := by kernel_rfl
theorem loadM {w : World} {B : Nat} {t : TypeId} {m : Mach} {mv : Value} (h : MRow w B t m mv []) : (loadVar 45 ⟨B, 0, none⟩).run Tryd.prog w = .ok (.agg (machL m mv).toArray) w := by
  have hr := h.row
  rw [List.append_nil] at hr
  refine run_loadVar_row w B t 45 _ _ _ hr Tryd.underlying45 (by rfl) ?_
  rw [infoM]
  simp [machL, h.len]
set_option maxRecDepth 100000 in
set_option maxHeartbeats 8000000 in
theorem begin_ok {w : World} {m : Mach} {mv : Value} (hv : BytesAt w mv m.mem) (hw : Rv.WfM m) (most : Int) (he : Rv.errM m most = 0) :
    Calls Tryd.prog 51 #[.agg (machL m mv).toArray, .int .i64 most] w fun e w' => ∃ B u g, e = .returned (.tuple #[.pointer (some ⟨B, 0, none⟩), .int .i64 0]) ∧ MS w.heap.size w' B m u g ∧ Gr w w' := by
  obtain ⟨W, hW⟩ : ∃ W, w.alloc (.cells (machL m mv).toArray 45) = W := ⟨_, rfl⟩
  have hr : MRow W w.heap.size 45 m mv [] := by rw [← hW]; exact MRow.new0 hw.regs w _ mv
  have HR := Lib.hid hr
  have HG : Hid (Gr w W) := by rw [← hW]; exact (Gr.refl w).alloc _
  have k0 := hr.reg 0 (by omega)
  have k34 := hr.mem
  have k35 := hr.fin
  have f34 := hr.frozen 34
  have HCL := Lib.hid (clone_any mv m.mem W (hv.gr HG.out))
  have HWF := Lib.hid hw
  obtain ⟨hl0, r00, m0, m1, f0⟩ : m.mem.length ≤ 32768 ∧ m.regs.getD 0 0 = 0 ∧ 0 ≤ most ∧ most ≤ 200000 ∧ m.fin = 0 := by
    unfold Rv.errM at he
    rcases Decidable.em (32768 < m.mem.length ∨ m.regs.getD 0 0 ≠ 0 ∨ most < 0 ∨ 200000 < most) with h | h
    · rw [if_pos h] at he; omega
    · rw [if_neg h] at he
      rcases Decidable.em (m.fin = 0) with h' | h'
      · exact ⟨by omega, by omega, by omega, by omega, h'⟩
      · rw [if_pos h'] at he; omega
  have HC : Hid (Calls Tryd.prog 72 #[mv] W fun e w' => ∃ A c, e = .returned (.slice A m.mem.length c) ∧ Own1 W.heap.size 5 w' (.slice A m.mem.length c) (m.mem.map (Value.int .u8)) ∧ Gr W w') := (HCL.out (by omega)).mono fun e w' hh => by
    obtain ⟨u, rfl, ho, hg⟩ := hh
    obtain ⟨A, c, hu⟩ := ho.form
    rw [List.length_map] at hu
    subst hu
    exact ⟨A, c, rfl, ho, hg⟩
  obtain ⟨A, c, hmv⟩ : ∃ A c, mv = .slice A m.mem.length c := by
    obtain ⟨-, A, c, e, -⟩ := hv
    exact ⟨A, c, e⟩
  rw [r00] at k0
  rw [f0] at k35
  have c1 : decide ((32768 : Int) < (m.mem.length : Int)) = false := by rw [decide_eq_false_iff_not]; omega
  have c3 : decide (most < 0) = false := by rw [decide_eq_false_iff_not]; omega
  have c4 : decide (200000 < most) = false := by rw [decide_eq_false_iff_not]; omega
  have hl : (m.mem.length : Int) ≤ 140737488351232 := by omega
  have HL := Lib.hid hl0
  rw [hmv] at k34
  rw [hmv] at HC
  obtain ⟨l, hl'⟩ : ∃ l, m.mem.length = l := ⟨_, rfl⟩
  rw [hl'] at k34 c1 hl HC
  clear hr hv hw he hl0 r00 f0 HCL hl' hmv
  go_enter Tryd.func51, Tryd.ntmps51
  go_wp2_with (go_at_call 72; refine HC.out.mono ?_; rintro _ w2 ⟨A2, c2, rfl, HO, g2⟩; have HO2 := Lib.hid HO; have HG2 := Lib.hid g2; clear HO g2; have z34 := (HR.out.gr HG2.out).mem; have zf34 := (HR.out.gr HG2.out).frozen 34)
  obtain ⟨W5, hW5⟩ : ∃ W5, w2.setCell ⟨w.heap.size, 34, none⟩ (.slice A2 l c2) = W5 := ⟨_, rfl⟩
  have HR5 : Hid (MRow W5 w.heap.size 45 m (.slice A2 l c2) []) := by rw [← hW5]; exact (HR.out.gr HG2.out).setMem _
  have HG5 : Hid (Gr w W5) := by rw [← hW5]; exact (HG.out.trans HG2.out).setCell (Nat.le_refl _) _
  have HO5 : Hid (Own1 w.heap.size 5 W5 (.slice A2 l c2) (m.mem.map (Value.int .u8))) := by
    rw [← hW5]
    refine Own1.setOther (own_base HO2.out HG.out.size) ?_ _
    intro e
    have hlt := HR.out.lt
    have := (own_block_lt HO2.out _ e).1
    simp only at this
    omega
  rw [hW5]
  clear hW5
  have HND := Lib.hid (fun W => newDecoder_any W)
  have HMS : Hid (∀ w6 g w7, w7 = w6.alloc (.cells (machL m (.slice A2 l c2) ++ [Value.map (some g)]).toArray 88) → Gr W5 w6 → DecAt w6 g → MS w.heap.size w7 w6.heap.size m (.slice A2 l c2) g ∧ Gr w w7) := by
    intro w6 g w7 hw7 g6 hd
    subst hw7
    have g7 : Gr w6 (w6.alloc (.cells (machL m (.slice A2 l c2) ++ [Value.map (some g)]).toArray 88)) := (Gr.refl _).alloc _
    have hO : Own1 w.heap.size 5 w6 (.slice A2 l c2) (m.mem.map (Value.int .u8)) := HO5.out.gr g6
    exact ⟨⟨MRow.new HWF.out.regs w6 _ _ _, hO.gr g7, hd.gr g7, Nat.le_trans HG5.out.size g6.size, HWF.out, by have := HL.out; omega⟩, (HG5.out.trans g6).trans g7⟩
  refine wp_region_any (by kernel_rfl) ?_
  change wpAny _ _ _ _ _ _ _ (World.drew _)
  refine wpAny_ready (rs := [0, 1]) (by kernel_rfl) (by simp) ?_
  refine AllReady.cons rfl (fun K hK => ?_) (AllReady.cons rfl (fun K hK => ?_) AllReady.nil)
  · rw [if_pos (by rfl)]
    refine wp_load_row 45 _ rfl w.heap.size (by simp [Act.eval]) 45 _ _ _ (by have := (HR5.out.gr (Gr.refl _).drew).row; rw [List.append_nil] at this; exact this) Tryd.underlying45 (by rfl) (by rw [infoM]; simp [machL, HWF.out.regs]) (hK _ _ ?_)
    clear hK K
    go_simp
    refine wpAny_ready (rs := [1]) (by kernel_rfl) (by simp) ?_
    refine AllReady.cons rfl (fun K hK => ?_) AllReady.nil
    go_simp
    go_at_call 45
    refine (HND.out _).mono ?_
    rintro _ w6 ⟨rfl, HD6, g6⟩
    refine hK _ _ ?_
    clear hK K
    go_simp
    refine wpAny_ready (rs := [2]) (by kernel_rfl) (by simp) ?_
    refine AllReady.cons rfl (fun K hK => ?_) AllReady.nil
    rw [if_pos (by rfl)]
    refine wp_buildTo 88 _ rfl (machL m (.slice A2 l c2) ++ [Value.map (some W5.heap.size)]).toArray (by have h := builtM (machL m (.slice A2 l c2)) (machL_len HWF.out.regs _) W5.heap.size; simp [Act.eval] at h ⊢; exact h) (hK _ _ ?_)
    clear hK K
    go_simp
    refine wpAny_ready (rs := [3]) (by kernel_rfl) (by simp) ?_
    refine AllReady.cons rfl (fun K hK => ?_) AllReady.nil
    go_simp
    refine hK _ _ ?_
    clear hK K
    refine wpAny_ready (rs := [4]) (by kernel_rfl) (by simp) ?_
    refine AllReady.cons rfl (fun K hK => ?_) AllReady.nil
    go_simp
    refine hK _ _ ?_
    clear hK K
    refine wpAny_ready (rs := [5]) (by kernel_rfl) (by simp) ?_
    refine AllReady.cons rfl (fun K hK => ?_) AllReady.nil
    go_simp
    refine hK _ _ ?_
    clear hK K
    refine wpAny_done (by kernel_rfl) ?_ _
    go_wp2
    go_ret2
    exact ⟨w6.heap.size, .slice A2 l c2, W5.heap.size, rfl, HMS.out w6 W5.heap.size _ rfl ((Gr.refl _).drew.trans g6) HD6.out⟩
  · go_simp
    go_at_call 45
    refine (HND.out _).mono ?_
    rintro _ w6 ⟨rfl, HD6, g6⟩
    refine hK _ _ ?_
    clear hK K
    go_simp
    refine wpAny_ready (rs := [0]) (by kernel_rfl) (by simp) ?_
    refine AllReady.cons rfl (fun K hK => ?_) AllReady.nil
    rw [if_pos (by rfl)]
    refine wp_load_row 45 _ rfl w.heap.size (by simp [Act.eval]) 45 _ _ _ (by have := (HR5.out.gr ((Gr.refl _).drew.trans g6)).row; rw [List.append_nil] at this; exact this) Tryd.underlying45 (by rfl) (by rw [infoM]; simp [machL, HWF.out.regs]) (hK _ _ ?_)
    clear hK K
    go_simp
    refine wpAny_ready (rs := [2]) (by kernel_rfl) (by simp) ?_
    refine AllReady.cons rfl (fun K hK => ?_) AllReady.nil
    rw [if_pos (by rfl)]
    refine wp_buildTo 88 _ rfl (machL m (.slice A2 l c2) ++ [Value.map (some W5.heap.size)]).toArray (by have h := builtM (machL m (.slice A2 l c2)) (machL_len HWF.out.regs _) W5.heap.size; simp [Act.eval] at h ⊢; exact h) (hK _ _ ?_)
    clear hK K
    go_simp
    refine wpAny_ready (rs := [3]) (by kernel_rfl) (by simp) ?_
    refine AllReady.cons rfl (fun K hK => ?_) AllReady.nil
    go_simp
    refine hK _ _ ?_
    clear hK K
    refine wpAny_ready (rs := [4]) (by kernel_rfl) (by simp) ?_
    refine AllReady.cons rfl (fun K hK => ?_) AllReady.nil
    go_simp
    refine hK _ _ ?_
    clear hK K
    refine wpAny_ready (rs := [5]) (by kernel_rfl) (by simp) ?_
    refine AllReady.cons rfl (fun K hK => ?_) AllReady.nil
    go_simp
    refine hK _ _ ?_
    clear hK K
    refine wpAny_done (by kernel_rfl) ?_ _
    go_wp2
    go_ret2
    exact ⟨w6.heap.size, .slice A2 l c2, W5.heap.size, rfl, HMS.out w6 W5.heap.size _ rfl ((Gr.refl _).drew.trans g6) HD6.out⟩
end Go.Proofs.YthiaaagoccpkcaaDoor

namespace Go.Proofs.YthiaaagoccpkcaaDoor
set_option linter.unusedSimpArgs false
set_option linter.unusedVariables false
open Go.RowKit

/-- The machine of an error. -/
def Mach.zero : Mach := ⟨List.replicate 32 0, 0, 0, [], 0⟩
theorem zeroM_eq : (machL Mach.zero (.slice none 0 0)).toArray = #[.int .u32 0, .int .u32 0, .int .u32 0, .int .u32 0, .int .u32 0, .int .u32 0, .int .u32 0, .int .u32 0, .int .u32 0, .int .u32 0, .int .u32 0, .int .u32 0, .int .u32 0, .int .u32 0, .int .u32 0, .int .u32 0, .int .u32 0, .int .u32 0, .int .u32 0, .int .u32 0, .int .u32 0, .int .u32 0, .int .u32 0, .int .u32 0, .int .u32 0, .int .u32 0, .int .u32 0, .int .u32 0, .int .u32 0, .int .u32 0, .int .u32 0, .int .u32 0, .int .i64 0, .int .u32 0, .slice none 0 0, .int .i64 0] := by
  simp [machL, Mach.zero, List.replicate]
theorem zeroM_size : ((Tryd.prog).info? 45).map (·.size) = some (machL Mach.zero (.slice none 0 0)).toArray.size := by rw [infoM]; simp [machL, Mach.zero]
theorem zeroM_one : (machL Mach.zero (.slice none 0 0)).toArray.all (·.oneCell') = true := by simp [machL, Mach.zero, List.replicate, Value.oneCell']
theorem Gr.setRow {w a : World} (h : Gr w a) {g : Nat} (hg : w.heap.size ≤ g) (cs : Array Value) : Gr w (a.setRow g cs) :=
  Below.trans h ⟨rfl, rfl, rfl, by simp [World.setRow], fun k hk => by
    simp only [World.setRow, Array.getElem?_modify]
    rw [if_neg (by omega)]⟩
theorem heap_setRow_other (w : World) (g k : Nat) (cs : Array Value) (h : k ≠ g) : (w.setRow g cs).heap[k]? = w.heap[k]? := by
  simp only [World.setRow, Array.getElem?_modify]
  rw [if_neg (by omega)]
theorem Own1.rowOther {B : Nat} {e : TypeId} {w : World} {v : Value} {xs : List Value} (h : Own1 B e w v xs) {g : Nat} (hg : g < B) (cs : Array Value) : Own1 B e (w.setRow g cs) v xs := by
  obtain ⟨h1, h2⟩ := h
  refine ⟨h1, ?_⟩
  rcases h2 with h2 | ⟨k, cap, cur, hv, hb, hk, r⟩
  · exact .inl h2
  · exact .inr ⟨k, cap, cur, hv, hb, (heap_setRow_other w g k cs (by omega)).trans hk, r⟩
theorem Own1.slice1 {B : Nat} {e : TypeId} {w : World} {v : Value} {xs : List Value} (h : Own1 B e w v xs) : v.oneCell' = true := by
  obtain ⟨A, c, rfl⟩ := h.form
  rfl
theorem machL_one (m : Mach) {u : Value} (hu : u.oneCell' = true) : (machL m u).toArray.all (·.oneCell') = true := by
  rw [Array.all_eq_true_iff_forall_mem]
  intro x hx
  simp only [machL, List.mem_toArray, List.mem_append, List.mem_map, List.mem_cons, List.not_mem_nil, or_false] at hx
  rcases hx with ⟨z, _, rfl⟩ | rfl | rfl | rfl | rfl
  · rfl
  · rfl
  · rfl
  · exact hu
  · rfl
theorem results_mach {fn : Func} {p q : Nat} (h : fn.results = #[.cell p 45, .tmp q]) (tmps : Array Value) (w : World) (g : Nat) (t : TypeId) (m : Mach) (u : Value)
    (hp : tmps.getD p undef = .pointer (some ⟨g, 0, none⟩)) (hr : MRow w g t m u []) :
    (results fn tmps).run Tryd.prog w = .ok (.tuple #[.agg (machL m u).toArray, tmps.getD q undef]) w := by
  have hp' : tmps[p]?.getD undef = .pointer (some ⟨g, 0, none⟩) := by simpa using hp
  simp [results, h, hp', asAddr, loadM hr]
/-- The machine in a greater block. -/
theorem loadM2 {w : World} {B : Nat} {t : TypeId} {m : Mach} {mv : Value} {tail : List Value} (h : MRow w B t m mv tail) : (loadVar 45 ⟨B, 0, none⟩).run Tryd.prog w = .ok (.agg (machL m mv).toArray) w := by
  have hl := run_loadCells_list (P := Tryd.prog) w ⟨B, 0, none⟩ (machL m mv) (fun j v hv => by
    rw [addr_add, Nat.zero_add, h.cell j, List.getElem?_append_left (List.getElem?_eq_some_iff.1 hv).1]
    exact hv)
  have hi := infoM
  rw [machL_len h.len] at hl
  cases hq : (Tryd.prog).info? 45 with
  | none => rw [hq] at hi; simp at hi
  | some i =>
    have hs : i.size = 36 := by rw [hq] at hi; simpa using hi
    have hagg : (isAgg 45).run Tryd.prog w = .ok true w := by
      unfold isAgg
      rw [Sem.run_bind, run_underlying Tryd.underlying45 w]
      rfl
    simp [loadVar, Sem.run_bind, hagg, sizeOf, typeInfo, hq, hs, hl]
theorem wpList_loadM2 {ops : Array Oper} {rest : List Oper} {o : Oper} {a : Act} {w : World} {Q : Exit → Act → World → Prop} (hgd : o.guard = none) (x : Operand) (ho : o.op = .load 45 x)
    (B : Nat) (hx : a.eval x = .pointer (some ⟨B, 0, none⟩)) {t : TypeId} {m : Mach} {mv : Value} {tail : List Value} (hr : MRow w B t m mv tail)
    (h : wpList Tryd.prog ops Q rest (a.put o.dst (.agg (machL m mv).toArray)) w) : wpList Tryd.prog ops Q (o :: rest) a w :=
  wpList_plain hgd fun _ hK => by
    unfold Oper.wp execOp
    simp only [ho, hx, Instr.loadAt, Instr.sureAddr, Sem.run_bind, Sem.run_pure, Result.andThen_ok, loadM2 hr]
    exact hK _ _ h
/-- A machine handed back, and an error. -/
def MachRet (w : World) (m : Mach) (err : Int) : Ending → World → Prop :=
  fun e w' => ∃ u, e = .returned (.tuple #[.agg (machL m u).toArray, .int .i64 err]) ∧ Own1 w.heap.size 5 w' u (m.mem.map (Value.int .u8)) ∧ Gr w w'
set_option maxRecDepth 100000 in
set_option maxHeartbeats 8000000 in
theorem pStep_any {w : World} {m : Mach} {mv : Value} (hv : BytesAt w mv m.mem) (hw : Rv.WfM m) :
    Calls Tryd.prog 24 #[.agg (machL m mv).toArray] w (MachRet w (if Rv.errM m 0 = 0 then Rv.stepM m else Mach.zero) (Rv.errM m 0)) := by
  obtain ⟨W, hW⟩ : ∃ W, w.alloc (.cells (machL m mv).toArray 45) = W := ⟨_, rfl⟩
  have hr : MRow W w.heap.size 45 m mv [] := by rw [← hW]; exact MRow.new0 hw.regs w _ mv
  have HR := Lib.hid hr
  have HG : Hid (Gr w W) := by rw [← hW]; exact (Gr.refl w).alloc _
  by_cases he : Rv.errM m 0 = 0
  · rw [if_pos he, he]
    have HX : Hid (∀ W1, Gr W W1 → W1.heap[w.heap.size]? = some (.cells (machL m mv).toArray 45 (0, 0))) := by
      intro W1 g1
      have := (HR.out.gr g1).row
      rw [List.append_nil] at this
      exact this
    have HB : Hid (∀ W1, Gr w W1 → Calls Tryd.prog 51 #[.agg (machL m mv).toArray, .int .i64 0] W1 fun e w' => ∃ B u g, e = .returned (.tuple #[.pointer (some ⟨B, 0, none⟩), .int .i64 0]) ∧ MS W1.heap.size w' B m u g ∧ Gr W1 w') := fun W1 g1 => begin_ok (hv.gr g1) hw 0 he
    have HZ : Hid (∀ W2, Gr (W.alloc (.cells (machL Mach.zero (.slice none 0 0)).toArray 45)) W2 → W2.heap[W.heap.size]? = some (.cells (machL Mach.zero (.slice none 0 0)).toArray 45 (0, 0))) := fun W2 g2 => (g2.heap _ (by simp)).trans (heap_alloc_new W _)
    have hN : (W.alloc (.cells (machL Mach.zero (.slice none 0 0)).toArray 45)).heap.size = W.heap.size + 1 := by simp
    have HN := Lib.hid hN
    clear hr hv hw he hN
    cases hs : Rv.stepO m with
    | some m' =>
      have HS := Lib.hid hs
      have HT : Hid (Rv.stepM m = m') := by show _ = _; unfold Rv.stepM; rw [hs]
      clear hs
      go_enter Tryd.func24, Tryd.ntmps24
      go_wp2_with (first
        | (refine wpList_load_row rfl 45 (.tmp 1) rfl w.heap.size (by simp [Act.eval]) 45 (machL m mv).toArray (0, 0) _ (HX.out _ ((Gr.refl W).alloc _)) Tryd.underlying45 (by rfl) (by rw [infoM]; simp [machL, HR.out.len]) ?_)
        | (go_at_call 51; refine (HB.out _ (HG.out.alloc _)).mono ?_; rintro _ w2 ⟨B, u, g, rfl, hm2, g2⟩; have HM2 := Lib.hid hm2; have HG2 := Lib.hid g2; clear hm2 g2)
        | (go_at_call 52; refine (step_any HM2.out).mono ?_; rintro e3 w3 ⟨he3, hm3, hb3⟩; rw [HS.out] at he3 hm3; simp only [Option.isSome_some, Option.getD_some] at he3 hm3; subst he3; have HM3 := Lib.hid hm3; have HB3 := Lib.hid hb3; clear hm3 hb3)
        | (refine wpList_loadM2 rfl (.tmp 24) rfl B (by simp [Act.eval]) HM3.out.row ?_)
        | (refine wpList_store_row rfl 45 (.tmp 2) (.tmp 25) rfl W.heap.size (machL m' u).toArray (by simp [Act.eval, Act.put]) (by simp [Act.eval, Act.put]) 45 (machL Mach.zero (.slice none 0 0)).toArray ((HB3.out.block _ (by simp)).trans (HZ.out _ HG2.out)) (by rw [infoM]; simp [machL, HM3.out.row.len]) (by simp [machL, Mach.zero, HM3.out.row.len]) (machL_one m' (Own1.slice1 HM3.out.mem)) ?_))
      have HO3 := Lib.hid (own_base HM3.out.mem (Nat.le_trans HG.out.size (by simp)))
      refine bodyPost_ret (results_mach rfl _ _ W.heap.size 45 m' u (by simp) ?_) rfl ?_
      · have := MRow.setRow (m := m') HM3.out.row.len ((HB3.out.block _ (by simp)).trans (HZ.out _ HG2.out)) u []
        rw [List.append_nil] at this
        exact this
      · refine ⟨u, by rw [HT.out]; rfl, ?_, ?_⟩
        · rw [HT.out]
          exact own_base (HM3.out.mem.rowOther (by simp) _) (Nat.le_trans HG.out.size (by simp))
        · exact (Gr.below ((HG.out.alloc _).trans HG2.out) HB3.out (Nat.le_trans HG.out.size (by simp))).setRow HG.out.size _
    | none =>
      have HS := Lib.hid hs
      have HT : Hid (Rv.stepM m = { m with fin := 3 }) := by show _ = _; unfold Rv.stepM; rw [hs]
      clear hs
      go_enter Tryd.func24, Tryd.ntmps24
      go_wp2_with (first
        | (refine wpList_load_row rfl 45 (.tmp 1) rfl w.heap.size (by simp [Act.eval]) 45 (machL m mv).toArray (0, 0) _ (HX.out _ ((Gr.refl W).alloc _)) Tryd.underlying45 (by rfl) (by rw [infoM]; simp [machL, HR.out.len]) ?_)
        | (go_at_call 51; refine (HB.out _ (HG.out.alloc _)).mono ?_; rintro _ w2 ⟨B, u, g, rfl, hm2, g2⟩; have HM2 := Lib.hid hm2; have HG2 := Lib.hid g2; clear hm2 g2)
        | (go_at_call 52; refine (step_any HM2.out).mono ?_; rintro e3 w3 ⟨he3, hm3, hb3⟩; rw [HS.out] at he3 hm3; simp only [Option.isSome_none, Option.getD_none] at he3 hm3; subst he3; have HM3 := Lib.hid hm3; have HB3 := Lib.hid hb3; have z35 := HM3.out.row.fin; have zf35 := HM3.out.row.frozen 35; have HM4 := Lib.hid (HM3.out.setCell (HM3.out.row.setFin 3) rfl (wf_fin HM3.out.wf 3)); have HB4 := Lib.hid (HB3.out.setCell (p := ⟨B, 35, none⟩) HM3.out.nB (.int .i64 3)); clear hm3 hb3)
        | (refine wpList_loadM2 rfl (.tmp 24) rfl B (by simp [Act.eval]) HM4.out.row ?_)
        | (refine wpList_store_row rfl 45 (.tmp 2) (.tmp 25) rfl W.heap.size (machL { m with fin := 3 } u).toArray (by simp [Act.eval, Act.put]) (by simp [Act.eval, Act.put]) 45 (machL Mach.zero (.slice none 0 0)).toArray ((HB4.out.block _ (by simp)).trans (HZ.out _ HG2.out)) (by rw [infoM]; simp [machL, HM4.out.row.len]) (by simp [machL, Mach.zero, HM4.out.row.len]) (machL_one { m with fin := 3 } (Own1.slice1 HM4.out.mem)) ?_))
      have HO3 := Lib.hid (own_base HM4.out.mem (Nat.le_trans HG.out.size (by simp)))
      refine bodyPost_ret (results_mach rfl _ _ W.heap.size 45 { m with fin := 3 } u (by simp) ?_) rfl ?_
      · have := MRow.setRow (m := { m with fin := 3 }) HM4.out.row.len ((HB4.out.block _ (by simp)).trans (HZ.out _ HG2.out)) u []
        rw [List.append_nil] at this
        exact this
      · refine ⟨u, by rw [HT.out]; rfl, ?_, ?_⟩
        · rw [HT.out]
          exact own_base (HM4.out.mem.rowOther (by simp) _) (Nat.le_trans HG.out.size (by simp))
        · exact (Gr.below ((HG.out.alloc _).trans HG2.out) HB4.out (Nat.le_trans HG.out.size (by simp))).setRow HG.out.size _
  · rw [if_neg he]
    have HB : Hid (∀ W1, Gr w W1 → Calls Tryd.prog 51 #[.agg (machL m mv).toArray, .int .i64 0] W1 fun e w' => e = .returned (.tuple #[.pointer none, .int .i64 (Rv.errM m 0)]) ∧ Gr W1 w') := fun W1 g1 => begin_err (hv.gr g1) hw 0 he
    have he' := he
    clear hr hv hw he
    go_enter Tryd.func24, Tryd.ntmps24
    have HX : Hid (∀ W1, Gr W W1 → W1.heap[w.heap.size]? = some (.cells (machL m mv).toArray 45 (0, 0))) := by
      intro W1 g1
      have := (HR.out.gr g1).row
      rw [List.append_nil] at this
      exact this
    have HER := Lib.hid he'
    have HZ : Hid (∀ W2, Gr (W.alloc (.cells (machL Mach.zero (.slice none 0 0)).toArray 45)) W2 → W2.heap[W.heap.size]? = some (.cells (machL Mach.zero (.slice none 0 0)).toArray 45 (0, 0))) := fun W2 g2 => (g2.heap _ (by simp)).trans (heap_alloc_new W _)
    generalize Rv.errM m 0 = er at *
    have c1 : (er != 0) = true := by simpa using he'
    clear he'
    go_wp2_with (first
      | (refine wpList_load_row rfl 45 (.tmp 1) rfl w.heap.size (by simp [Act.eval]) 45 (machL m mv).toArray (0, 0) _ (HX.out _ ((Gr.refl W).alloc _)) Tryd.underlying45 (by rfl) (by rw [infoM]; simp [machL, HR.out.len]) ?_)
      | (refine wpList_store_row rfl 45 (.tmp 2) (.tmp 13) rfl W.heap.size (machL Mach.zero (.slice none 0 0)).toArray (by simp [Act.eval]) (by simp [Act.eval, zeroM_eq]) 45 (machL Mach.zero (.slice none 0 0)).toArray (HZ.out _ g2) zeroM_size rfl zeroM_one ?_)
      | (go_at_call 51; refine (HB.out _ (HG.out.alloc _)).mono ?_; rintro _ w2 ⟨rfl, g2⟩))
    refine bodyPost_ret (results_mach rfl _ _ W.heap.size 45 Mach.zero (.slice none 0 0) (by simp) ?_) rfl ?_
    · have := MRow.setRow (m := Mach.zero) (by rfl) (HZ.out _ g2) (.slice none 0 0) []
      rw [List.append_nil] at this
      exact this
    · refine ⟨_, rfl, Own1.nil _ _ _, ?_⟩
      exact ((HG.out.alloc _).trans g2).setRow HG.out.size _
end Go.Proofs.YthiaaagoccpkcaaDoor

namespace Go.Proofs.YthiaaagoccpkcaaDoor
set_option linter.unusedSimpArgs false
set_option linter.unusedVariables false
open Go.RowKit

set_option maxRecDepth 100000 in
set_option maxHeartbeats 8000000 in
theorem inMemory_any {w : World} {m : Mach} {A : Option Addr} {l c : Nat} (hl : m.regs.length = 32) (hs : l ≤ 1000000) (a : Int) (n : Nat) (a0 : 0 ≤ a) (a1 : a < 4294967296) (hn : n ≤ 4) :
    Calls Tryd.prog 79 #[.agg (machL m (.slice A l c)).toArray, .int .u32 a, .int .i64 n] w fun e w' => e = .returned (.bool (decide (a + n ≤ l))) ∧ Gr w w' := by
  obtain ⟨W, hW⟩ : ∃ W, w.alloc (.cells (machL m (.slice A l c)).toArray 45) = W := ⟨_, rfl⟩
  have hr : MRow W w.heap.size 45 m (.slice A l c) [] := by rw [← hW]; exact MRow.new0 hl w _ _
  have HG : Hid (Gr w W) := by rw [← hW]; exact (Gr.refl w).alloc _
  have k34 := hr.mem
  have hn' : (n : Int) ≤ 4 := by omega
  have hs' : (l : Int) ≤ 1000000 := by omega
  clear hr hl hs hn
  go_enter Tryd.func79, Tryd.ntmps79
  go_wp2
  go_ret
  exact ⟨rfl, HG.out⟩
set_option maxRecDepth 100000 in
set_option maxHeartbeats 8000000 in
theorem asked_any {w : World} {m : Mach} {A : Option Addr} {c : Nat} (hw : Rv.WfM m) (hs : m.mem.length ≤ 140737488351232) :
    Calls Tryd.prog 53 #[.agg (machL m (.slice A m.mem.length c)).toArray] w fun e w' => e = .returned (.int .i64 (if 32768 < m.mem.length ∨ m.regs.getD 0 0 ≠ 0 then 1 else 0)) ∧ Gr w w' := by
  obtain ⟨W, hW⟩ : ∃ W, w.alloc (.cells (machL m (.slice A m.mem.length c)).toArray 45) = W := ⟨_, rfl⟩
  have hr : MRow W w.heap.size 45 m (.slice A m.mem.length c) [] := by rw [← hW]; exact MRow.new0 hw.regs w _ _
  have HG : Hid (Gr w W) := by rw [← hW]; exact (Gr.refl w).alloc _
  have k34 := hr.mem
  have k0 := hr.reg 0 (by omega)
  clear hr hw
  generalize m.mem.length = l at *
  generalize m.regs.getD 0 0 = r0 at *
  have hs' : (l : Int) ≤ 140737488351232 := by omega
  by_cases h1 : 32768 < l
  · have c1 : decide ((32768 : Int) < (l : Int)) = true := by rw [decide_eq_true_iff]; omega
    rw [if_pos (.inl h1)]
    clear h1 hs
    go_enter Tryd.func53, Tryd.ntmps53
    go_wp2
    go_ret
    exact ⟨rfl, HG.out⟩
  have c1 : decide ((32768 : Int) < (l : Int)) = false := by rw [decide_eq_false_iff_not]; omega
  by_cases h2 : r0 = 0
  · subst h2
    rw [if_neg (by omega)]
    clear h1 hs
    go_enter Tryd.func53, Tryd.ntmps53
    go_wp2
    go_ret
    exact ⟨rfl, HG.out⟩
  · have c2 : (r0 != 0) = true := by simpa using h2
    rw [if_pos (.inr h2)]
    clear h1 h2 hs
    go_enter Tryd.func53, Tryd.ntmps53
    go_wp2
    go_ret
    exact ⟨rfl, HG.out⟩
end Go.Proofs.YthiaaagoccpkcaaDoor

namespace Go.Proofs.YthiaaagoccpkcaaDoor
set_option linter.unusedSimpArgs false
set_option linter.unusedVariables false
open Go.RowKit

theorem infoR : ((Tryd.prog).info? 43).map (·.size) = some 32 := by kernel_rfl
/-- The registers of a machine in memory. -/
theorem loadR {w : World} {B : Nat} {t : TypeId} {m : Mach} {mv : Value} {tail : List Value} (h : MRow w B t m mv tail) : (loadVar 43 ⟨B, 0, none⟩).run Tryd.prog w = .ok (.agg (m.regs.map (Value.int .u32)).toArray) w := by
  have hl := run_loadCells_list (P := Tryd.prog) w ⟨B, 0, none⟩ (m.regs.map (Value.int .u32)) (fun j v hv => by
    have hj := (List.getElem?_eq_some_iff.1 hv).1
    rw [List.length_map, h.len] at hj
    rw [addr_add, Nat.zero_add, h.cell j, machL_reg h.len mv tail j hj, ← hv, List.getElem?_map]
    rw [List.getD_eq_getElem?_getD, List.getElem?_eq_getElem (by rw [h.len]; exact hj)]; rfl)
  have hi := infoR
  rw [List.length_map, h.len] at hl
  cases hq : (Tryd.prog).info? 43 with
  | none => rw [hq] at hi; simp at hi
  | some i =>
    have hs : i.size = 32 := by rw [hq] at hi; simpa using hi
    have hagg : (isAgg 43).run Tryd.prog w = .ok true w := by
      unfold isAgg
      rw [Sem.run_bind, run_underlying Tryd.underlying43 w]
      rfl
    simp [loadVar, Sem.run_bind, hagg, sizeOf, typeInfo, hq, hs, hl]
theorem run_u32_same (w : World) (d : Nat) (a : Int) : (Op.equalIn (d + 1) 24 (.int .u32 a) (.int .u32 a)).run Tryd.prog w = .ok true w := by
  simp [Op.equalIn, Sem.run_bind, run_underlying Tryd.underlying24 w]
theorem eqItems_same (w : World) (d : Nat) (xs : List Int) : ∀ is : List Nat, (∀ i ∈ is, i < xs.length) → (Op.eqItems (d + 1) 24 1 (xs.map (Value.int .u32)).toArray (xs.map (Value.int .u32)).toArray is).run Tryd.prog w = .ok true w
  | [], _ => by simp [Op.eqItems]
  | i :: is, h => by
    have hi := h i (by simp)
    have hx : (xs.map (Value.int .u32)).toArray[i * 1]? = some (.int .u32 xs[i]) := by simp [hi]
    have hp := run_part_plain (P := Tryd.prog) (w := w) (e := 24) (by kernel_rfl) hx
    simp only [Op.eqItems, Sem.run_bind, hp, Result.andThen_ok, run_u32_same]
    exact eqItems_same w d xs is (fun j hj => h j (by simp [hj]))
/-- Equal registers compare as equal. -/
theorem eqlR (w : World) (xs : List Int) (h : xs.length = 32) : (binOp .eql 43 (.agg (xs.map (Value.int .u32)).toArray) (.agg (xs.map (Value.int .u32)).toArray)).run Tryd.prog w = .ok (.bool true) w := by
  have hi : ∃ i, (Tryd.prog).info? 24 = some i := info_of_underlying Tryd.underlying24
  obtain ⟨i, hi⟩ := hi
  have h1 := run_equalIn_array (P := Tryd.prog) (w := w) 9999 (xs.map (Value.int .u32)).toArray (xs.map (Value.int .u32)).toArray Tryd.underlying43 hi
  have h2 := eqItems_same w 9998 xs (List.range 32) (fun j hj => by rw [h]; exact List.mem_range.1 hj)
  have hc : (Tryd.prog).cellsOf 24 = 1 := by kernel_rfl
  rw [hc] at h1
  have h3 : (Op.equal 43 (.agg (xs.map (Value.int .u32)).toArray) (.agg (xs.map (Value.int .u32)).toArray)).run Tryd.prog w = .ok true w := h1.trans h2
  simp [binOp, Sem.run_bind, h3]
end Go.Proofs.YthiaaagoccpkcaaDoor

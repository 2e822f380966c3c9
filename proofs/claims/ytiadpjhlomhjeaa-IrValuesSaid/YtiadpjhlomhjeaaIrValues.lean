/- The law backstaylaw03.IrValues returns true at every input, and the input reads as it did. -/
import Derived.Test.YtiadpjhlomhjeaaIrLast
import Derived.Test.YtiadpjhlomhjeaaIrMainM

namespace Go.Proofs.Ytiadpjhlomhjeaa
open Go.RowKit Go.Shelf

set_option maxHeartbeats 2000000 in
theorem rCount_any (v : Value) (f : Fn) (w : World) (hf : FnAt w.heap.size w v f) (hn : Nice f) :
    Calls Try.prog 18 #[v] w fun e w' => e = .returned (.tuple #[.int .i64 (Ref.countR f), .int .i64 (Ref.validate f)]) ∧ Gr w w' := by
  have HV : Hid (∀ w1, Gr w w1 → Calls Try.prog 11 #[v] w1 fun e w' => e = .returned (.int .i64 (Ref.validate f)) ∧ Gr w1 w') := fun w1 q => rval_nice v f w1 (hf.gr q) hn
  have HC : Hid (∀ w1, Gr w w1 → Calls Try.prog 47 #[v] w1 fun e w' => e = .returned (.int .i64 (Ref.count f)) ∧ Gr w1 w') := fun w1 q => count_any v f w1 (hf.gr q) hn.blocks
  have HR : Hid (Ref.countR f = if Ref.validate f = 0 then (Ref.count f : Int) else 0) := by show _ = _; rfl
  obtain ⟨vp, vs, vb, rfl, hp, hsl, hb⟩ := hf
  obtain ⟨Ap, cp, rfl, hp1, hp2, -⟩ := hp
  obtain ⟨As, cs, rfl, hs1, hs2, -⟩ := hsl
  obtain ⟨Ab, cb, rfl, hb1, hb2, -⟩ := hb
  obtain ⟨W, hW⟩ : ∃ W, w.alloc (.cells #[.slice Ap f.params.length cp, .int .i64 f.ret, .slice As f.slots.length cs, .slice Ab f.blocks.length cb] 25) = W := ⟨_, rfl⟩
  have hB0 : Gr w W := by rw [← hW]; exact (Gr.refl w).alloc _
  have g0 : Gr (w.alloc (.cells #[.slice Ap f.params.length cp, .int .i64 f.ret, .slice As f.slots.length cs, .slice Ab f.blocks.length cb] 25)) W := by rw [hW]; exact Gr.refl _
  have hWs : W.heap.size = w.heap.size + 1 := by rw [← hW]; simp
  have B0 : Hid (∀ w', Gr W w' → (w'.cell? ⟨w.heap.size, 0, none⟩ = some (.slice Ap f.params.length cp) ∧ w'.cell? ⟨w.heap.size, 1, none⟩ = some (.int .i64 f.ret) ∧ w'.cell? ⟨w.heap.size, 2, none⟩ = some (.slice As f.slots.length cs) ∧ w'.cell? ⟨w.heap.size, 3, none⟩ = some (.slice Ab f.blocks.length cb))) :=
    fun w' q => ⟨(q.cell _ _ (by omega)).trans (cell_box _ _ 0 g0 rfl), (q.cell _ _ (by omega)).trans (cell_box _ _ 1 g0 rfl), (q.cell _ _ (by omega)).trans (cell_box _ _ 2 g0 rfl), (q.cell _ _ (by omega)).trans (cell_box _ _ 3 g0 rfl)⟩
  obtain ⟨k0, k1, k2, k3⟩ := B0.out W (Gr.refl _)
  obtain ⟨e, he⟩ : ∃ e, Ref.validate f = e := ⟨_, rfl⟩
  rw [he] at HV HR ⊢
  clear he hn g0
  by_cases h0 : e = 0
  · have hn0 : (e != 0) = false := by simp [h0]
    have HR2 : Hid (Ref.countR f = (Ref.count f : Int)) := by show _ = _; rw [HR.out, if_pos h0]
    have HE0 := Lib.hid h0
    clear h0
    go_enter Try.func18, Try.ntmps18
    go_wp2_with (first
      | (go_at_call 11; refine (HV.out _ hB0).mono ?_; rintro e w1 ⟨rfl, g1⟩; obtain ⟨l0, l1, l2, l3⟩ := B0.out _ g1)
      | (go_at_call 47; refine (HC.out _ (hB0.trans g1)).mono ?_; rintro e w2 ⟨rfl, g2⟩))
    go_ret2
    exact ⟨by rw [HR2.out, HE0.out]; rfl, hB0.trans (g1.trans g2)⟩
  · have hn0 : (e != 0) = true := by simp [h0]
    have HR2 : Hid (Ref.countR f = 0) := by show _ = _; rw [HR.out, if_neg h0]
    clear h0
    go_enter Try.func18, Try.ntmps18
    go_wp2_with (go_at_call 11; refine (HV.out _ hB0).mono ?_; rintro e w1 ⟨rfl, g1⟩)
    go_ret2
    exact ⟨by rw [HR2.out]; rfl, hB0.trans g1⟩

set_option maxHeartbeats 2000000 in
theorem rvalued_any (v : Value) (f : Fn) (z : Int) (w : World) (hf : FnAt w.heap.size w v f) (hn : Nice f) :
    Calls Try.prog 50 #[v, .int .i64 z] w fun e w' => e = .returned (.int .i64 (Ref.valuedR f z)) ∧ Gr w w' := by
  have HV : Hid (∀ w1, Gr w w1 → Calls Try.prog 11 #[v] w1 fun e w' => e = .returned (.int .i64 (Ref.validate f)) ∧ Gr w1 w') := fun w1 q => rval_nice v f w1 (hf.gr q) hn
  have HC : Hid (∀ w1, Gr w w1 → Calls Try.prog 47 #[v] w1 fun e w' => e = .returned (.int .i64 (Ref.count f)) ∧ Gr w1 w') := fun w1 q => count_any v f w1 (hf.gr q) hn.blocks
  have HR : Hid (Ref.valuedR f z = if Ref.validate f = 0 then (if z < 0 ∨ (Ref.count f : Int) ≤ z then 4 else 0) else Ref.validate f) := by show _ = _; rfl
  obtain ⟨vp, vs, vb, rfl, hp, hsl, hb⟩ := hf
  obtain ⟨Ap, cp, rfl, hp1, hp2, -⟩ := hp
  obtain ⟨As, cs, rfl, hs1, hs2, -⟩ := hsl
  obtain ⟨Ab, cb, rfl, hb1, hb2, -⟩ := hb
  obtain ⟨W, hW⟩ : ∃ W, w.alloc (.cells #[.slice Ap f.params.length cp, .int .i64 f.ret, .slice As f.slots.length cs, .slice Ab f.blocks.length cb] 25) = W := ⟨_, rfl⟩
  have hB0 : Gr w W := by rw [← hW]; exact (Gr.refl w).alloc _
  have g0 : Gr (w.alloc (.cells #[.slice Ap f.params.length cp, .int .i64 f.ret, .slice As f.slots.length cs, .slice Ab f.blocks.length cb] 25)) W := by rw [hW]; exact Gr.refl _
  have hWs : W.heap.size = w.heap.size + 1 := by rw [← hW]; simp
  have B0 : Hid (∀ w', Gr W w' → (w'.cell? ⟨w.heap.size, 0, none⟩ = some (.slice Ap f.params.length cp) ∧ w'.cell? ⟨w.heap.size, 1, none⟩ = some (.int .i64 f.ret) ∧ w'.cell? ⟨w.heap.size, 2, none⟩ = some (.slice As f.slots.length cs) ∧ w'.cell? ⟨w.heap.size, 3, none⟩ = some (.slice Ab f.blocks.length cb))) :=
    fun w' q => ⟨(q.cell _ _ (by omega)).trans (cell_box _ _ 0 g0 rfl), (q.cell _ _ (by omega)).trans (cell_box _ _ 1 g0 rfl), (q.cell _ _ (by omega)).trans (cell_box _ _ 2 g0 rfl), (q.cell _ _ (by omega)).trans (cell_box _ _ 3 g0 rfl)⟩
  obtain ⟨k0, k1, k2, k3⟩ := B0.out W (Gr.refl _)
  obtain ⟨e, he⟩ : ∃ e, Ref.validate f = e := ⟨_, rfl⟩
  obtain ⟨c, hc⟩ : ∃ c, (Ref.count f : Int) = c := ⟨_, rfl⟩
  rw [he] at HV HR
  rw [hc] at HR HC
  clear he hc hn g0
  by_cases h0 : e = 0
  · have hn0 : (e != 0) = false := by simp [h0]
    have HR2 : Hid (Ref.valuedR f z = if z < 0 ∨ c ≤ z then 4 else 0) := by show _ = _; rw [HR.out, if_pos h0]
    clear h0
    rcases (by omega : z < 0 ∨ (0 ≤ z ∧ c ≤ z) ∨ (0 ≤ z ∧ z < c)) with h | ⟨h, h'⟩ | ⟨h, h'⟩
    · go_enter Try.func50, Try.ntmps50
      go_wp2_with (go_at_call 11; refine (HV.out _ hB0).mono ?_; rintro e w1 ⟨rfl, g1⟩; obtain ⟨l0, l1, l2, l3⟩ := B0.out _ g1)
      go_ret
      exact ⟨ret_int (by rw [HR2.out]; first | rw [if_pos (by omega)] | rw [if_neg (by omega)]), hB0.trans g1⟩
    all_goals
      go_enter Try.func50, Try.ntmps50
      go_wp2_with (first
        | (go_at_call 11; refine (HV.out _ hB0).mono ?_; rintro e w1 ⟨rfl, g1⟩; obtain ⟨l0, l1, l2, l3⟩ := B0.out _ g1)
        | (go_at_call 47; refine (HC.out _ (hB0.trans g1)).mono ?_; rintro e w2 ⟨rfl, g2⟩))
      go_ret
      exact ⟨ret_int (by rw [HR2.out]; first | rw [if_pos (by omega)] | rw [if_neg (by omega)]), hB0.trans (g1.trans g2)⟩
  · have hn0 : (e != 0) = true := by simp [h0]
    have HR2 : Hid (Ref.valuedR f z = e) := by show _ = _; rw [HR.out, if_neg h0]
    clear h0
    go_enter Try.func50, Try.ntmps50
    go_wp2_with (go_at_call 11; refine (HV.out _ hB0).mono ?_; rintro e w1 ⟨rfl, g1⟩)
    go_ret
    exact ⟨ret_int (by rw [HR2.out]), hB0.trans g1⟩

theorem results_tmp4 {fn : Func} {t u v x : Tmp} (h : fn.results = #[.tmp t, .tmp u, .tmp v, .tmp x]) (tmps : Array Value) (P : Program) (w : World) :
    (results fn tmps).run P w = .ok (.tuple #[tmps.getD t undef, tmps.getD u undef, tmps.getD v undef, tmps.getD x undef]) w := by simp [results, h, go_sem]
/-- What both sides return as the place of a value. -/
def Ref.whereR (f : Fn) (z : Int) : Int × Int × Bool := if Ref.valuedR f z = 0 then (if (Ref.whereIs f z).1 < 0 then (0, 0, false) else ((Ref.whereIs f z).1, (Ref.whereIs f z).2, true)) else (0, 0, false)

set_option maxHeartbeats 2000000 in
theorem rWhere_any (v : Value) (f : Fn) (z : Int) (w : World) (hf : FnAt w.heap.size w v f) (hn : Nice f) (hz1 : -9223372036854775808 ≤ z) (hz2 : z ≤ 9223372036854775807) :
    Calls Try.prog 20 #[v, .int .i64 z] w fun e w' => e = .returned (.tuple #[.int .i64 (Ref.whereR f z).1, .int .i64 (Ref.whereR f z).2.1, .bool (Ref.whereR f z).2.2, .int .i64 (Ref.valuedR f z)]) ∧ Gr w w' := by
  have HV : Hid (∀ w1, Gr w w1 → Calls Try.prog 50 #[v, .int .i64 z] w1 fun e w' => e = .returned (.int .i64 (Ref.valuedR f z)) ∧ Gr w1 w') := fun w1 q => rvalued_any v f z w1 (hf.gr q) hn
  have HW : Hid (∀ w1, Gr w w1 → Calls Try.prog 51 #[v, .int .i64 z] w1 fun e w' => e = .returned (.tuple #[.int .i64 (Ref.whereIs f z).1, .int .i64 (Ref.whereIs f z).2]) ∧ Gr w1 w') := fun w1 q => where_any v f z w1 (hf.gr q) hn.blocks hz1 hz2
  have HR : Hid (Ref.whereR f z = if Ref.valuedR f z = 0 then (if (Ref.whereIs f z).1 < 0 then (0, 0, false) else ((Ref.whereIs f z).1, (Ref.whereIs f z).2, true)) else (0, 0, false)) := by show _ = _; rfl
  obtain ⟨vp, vs, vb, rfl, hp, hsl, hb⟩ := hf
  obtain ⟨Ap, cp, rfl, hp1, hp2, -⟩ := hp
  obtain ⟨As, cs, rfl, hs1, hs2, -⟩ := hsl
  obtain ⟨Ab, cb, rfl, hb1, hb2, -⟩ := hb
  obtain ⟨W, hW⟩ : ∃ W, w.alloc (.cells #[.slice Ap f.params.length cp, .int .i64 f.ret, .slice As f.slots.length cs, .slice Ab f.blocks.length cb] 25) = W := ⟨_, rfl⟩
  have hB0 : Gr w W := by rw [← hW]; exact (Gr.refl w).alloc _
  have g0 : Gr (w.alloc (.cells #[.slice Ap f.params.length cp, .int .i64 f.ret, .slice As f.slots.length cs, .slice Ab f.blocks.length cb] 25)) W := by rw [hW]; exact Gr.refl _
  have hWs : W.heap.size = w.heap.size + 1 := by rw [← hW]; simp
  have B0 : Hid (∀ w', Gr W w' → (w'.cell? ⟨w.heap.size, 0, none⟩ = some (.slice Ap f.params.length cp) ∧ w'.cell? ⟨w.heap.size, 1, none⟩ = some (.int .i64 f.ret) ∧ w'.cell? ⟨w.heap.size, 2, none⟩ = some (.slice As f.slots.length cs) ∧ w'.cell? ⟨w.heap.size, 3, none⟩ = some (.slice Ab f.blocks.length cb))) :=
    fun w' q => ⟨(q.cell _ _ (by omega)).trans (cell_box _ _ 0 g0 rfl), (q.cell _ _ (by omega)).trans (cell_box _ _ 1 g0 rfl), (q.cell _ _ (by omega)).trans (cell_box _ _ 2 g0 rfl), (q.cell _ _ (by omega)).trans (cell_box _ _ 3 g0 rfl)⟩
  obtain ⟨k0, k1, k2, k3⟩ := B0.out W (Gr.refl _)
  obtain ⟨e, he⟩ : ∃ e, Ref.valuedR f z = e := ⟨_, rfl⟩
  obtain ⟨b, hb'⟩ : ∃ b, (Ref.whereIs f z).1 = b := ⟨_, rfl⟩
  obtain ⟨i, hi'⟩ : ∃ i, (Ref.whereIs f z).2 = i := ⟨_, rfl⟩
  rw [he, hb', hi'] at HR
  rw [hb', hi'] at HW
  rw [he] at HV ⊢
  clear he hb' hi' hn g0
  by_cases h0 : e = 0
  · have hn0 : (e != 0) = false := by simp [h0]
    have HE0 := Lib.hid h0
    by_cases hb0 : b < 0
    · have HR2 : Hid (Ref.whereR f z = (0, 0, false)) := by show _ = _; rw [HR.out, if_pos h0, if_pos hb0]
      clear h0
      go_enter Try.func20, Try.ntmps20
      go_wp2_with (first
        | (go_at_call 50; refine (HV.out _ hB0).mono ?_; rintro e w1 ⟨rfl, g1⟩; obtain ⟨l0, l1, l2, l3⟩ := B0.out _ g1)
        | (go_at_call 51; refine (HW.out _ (hB0.trans g1)).mono ?_; rintro e w2 ⟨rfl, g2⟩))
      (try simp only [Exit.inBlock, Exit.then])
      refine bodyPost_ret (results_tmp4 rfl _ _ _) rfl ?_
      exact ⟨by rw [HR2.out, HE0.out]; rfl, hB0.trans (g1.trans g2)⟩
    · have HR2 : Hid (Ref.whereR f z = (b, i, true)) := by show _ = _; rw [HR.out, if_pos h0, if_neg hb0]
      clear h0
      go_enter Try.func20, Try.ntmps20
      go_wp2_with (first
        | (go_at_call 50; refine (HV.out _ hB0).mono ?_; rintro e w1 ⟨rfl, g1⟩; obtain ⟨l0, l1, l2, l3⟩ := B0.out _ g1)
        | (go_at_call 51; refine (HW.out _ (hB0.trans g1)).mono ?_; rintro e w2 ⟨rfl, g2⟩))
      (try simp only [Exit.inBlock, Exit.then])
      refine bodyPost_ret (results_tmp4 rfl _ _ _) rfl ?_
      exact ⟨by rw [HR2.out, HE0.out]; rfl, hB0.trans (g1.trans g2)⟩
  · have hn0 : (e != 0) = true := by simp [h0]
    have HR2 : Hid (Ref.whereR f z = (0, 0, false)) := by show _ = _; rw [HR.out, if_neg h0]
    clear h0
    go_enter Try.func20, Try.ntmps20
    go_wp2_with (go_at_call 50; refine (HV.out _ hB0).mono ?_; rintro e w1 ⟨rfl, g1⟩)
    (try simp only [Exit.inBlock, Exit.then])
    refine bodyPost_ret (results_tmp4 rfl _ _ _) rfl ?_
    exact ⟨by rw [HR2.out]; rfl, hB0.trans g1⟩

set_option maxHeartbeats 2000000 in
theorem rKind_any (v : Value) (f : Fn) (z : Int) (w : World) (hf : FnAt w.heap.size w v f) (hn : Nice f) (hz1 : -9223372036854775808 ≤ z) (hz2 : z ≤ 9223372036854775807) :
    Calls Try.prog 22 #[v, .int .i64 z] w fun e w' => e = .returned (.tuple #[.int .i64 (Ref.kindR f z), .int .i64 (Ref.valuedR f z)]) ∧ Gr w w' := by
  have HV : Hid (∀ w1, Gr w w1 → Calls Try.prog 50 #[v, .int .i64 z] w1 fun e w' => e = .returned (.int .i64 (Ref.valuedR f z)) ∧ Gr w1 w') := fun w1 q => rvalued_any v f z w1 (hf.gr q) hn
  have HK : Hid (∀ w1, Gr w w1 → Calls Try.prog 52 #[v, .int .i64 z] w1 fun e w' => e = .returned (.int .i64 (Ref.kind f z)) ∧ Gr w1 w') := fun w1 q => kind_any v f z w1 (hf.gr q) hn.blocks hz1 hz2
  have HR : Hid (Ref.kindR f z = if Ref.valuedR f z = 0 then Ref.kind f z else 0) := by show _ = _; rfl
  obtain ⟨vp, vs, vb, rfl, hp, hsl, hb⟩ := hf
  obtain ⟨Ap, cp, rfl, hp1, hp2, -⟩ := hp
  obtain ⟨As, cs, rfl, hs1, hs2, -⟩ := hsl
  obtain ⟨Ab, cb, rfl, hb1, hb2, -⟩ := hb
  obtain ⟨W, hW⟩ : ∃ W, w.alloc (.cells #[.slice Ap f.params.length cp, .int .i64 f.ret, .slice As f.slots.length cs, .slice Ab f.blocks.length cb] 25) = W := ⟨_, rfl⟩
  have hB0 : Gr w W := by rw [← hW]; exact (Gr.refl w).alloc _
  have g0 : Gr (w.alloc (.cells #[.slice Ap f.params.length cp, .int .i64 f.ret, .slice As f.slots.length cs, .slice Ab f.blocks.length cb] 25)) W := by rw [hW]; exact Gr.refl _
  have hWs : W.heap.size = w.heap.size + 1 := by rw [← hW]; simp
  have B0 : Hid (∀ w', Gr W w' → (w'.cell? ⟨w.heap.size, 0, none⟩ = some (.slice Ap f.params.length cp) ∧ w'.cell? ⟨w.heap.size, 1, none⟩ = some (.int .i64 f.ret) ∧ w'.cell? ⟨w.heap.size, 2, none⟩ = some (.slice As f.slots.length cs) ∧ w'.cell? ⟨w.heap.size, 3, none⟩ = some (.slice Ab f.blocks.length cb))) :=
    fun w' q => ⟨(q.cell _ _ (by omega)).trans (cell_box _ _ 0 g0 rfl), (q.cell _ _ (by omega)).trans (cell_box _ _ 1 g0 rfl), (q.cell _ _ (by omega)).trans (cell_box _ _ 2 g0 rfl), (q.cell _ _ (by omega)).trans (cell_box _ _ 3 g0 rfl)⟩
  obtain ⟨k0, k1, k2, k3⟩ := B0.out W (Gr.refl _)
  obtain ⟨e, he⟩ : ∃ e, Ref.valuedR f z = e := ⟨_, rfl⟩
  rw [he] at HV HR ⊢
  clear he hn g0
  by_cases h0 : e = 0
  · have hn0 : (e != 0) = false := by simp [h0]
    have HE0 := Lib.hid h0
    have HR2 : Hid (Ref.kindR f z = Ref.kind f z) := by show _ = _; rw [HR.out, if_pos h0]
    clear h0
    go_enter Try.func22, Try.ntmps22
    go_wp2_with (first
      | (go_at_call 50; refine (HV.out _ hB0).mono ?_; rintro e w1 ⟨rfl, g1⟩; obtain ⟨l0, l1, l2, l3⟩ := B0.out _ g1)
      | (go_at_call 52; refine (HK.out _ (hB0.trans g1)).mono ?_; rintro e w2 ⟨rfl, g2⟩))
    go_ret2
    exact ⟨by rw [HR2.out, HE0.out]; rfl, hB0.trans (g1.trans g2)⟩
  · have hn0 : (e != 0) = true := by simp [h0]
    have HR2 : Hid (Ref.kindR f z = 0) := by show _ = _; rw [HR.out, if_neg h0]
    clear h0
    go_enter Try.func22, Try.ntmps22
    go_wp2_with (go_at_call 50; refine (HV.out _ hB0).mono ?_; rintro e w1 ⟨rfl, g1⟩)
    go_ret2
    exact ⟨by rw [HR2.out]; rfl, hB0.trans g1⟩
end Go.Proofs.Ytiadpjhlomhjeaa

namespace Go.Proofs.Ytiadpjhlomhjeaa
open Go.RowKit Go.Shelf

/-- The numbers of the instructions that have a value among their Args. -/
def usersL (z : Int) (l : List It) : List Int := (l.filter fun it => Ref.has it.ins.args z).map fun it => (it.num : Int)
theorem usersL_snoc (z : Int) (l : List It) (it : It) : usersL z (l ++ [it]) = usersL z l ++ (if Ref.has it.ins.args z then [(it.num : Int)] else []) := by
  unfold usersL
  rw [List.filter_append, List.map_append]
  congr 1
  by_cases h : Ref.has it.ins.args z <;> simp [h]
theorem usersL_len (z : Int) (l : List It) : (usersL z l).length ≤ l.length := by
  unfold usersL
  rw [List.length_map]
  exact List.length_filter_le _ _
def Ref.usersR (f : Fn) (z : Int) : List Int := if Ref.valuedR f z = 0 then usersL z (Ir.items f) else []
theorem total_split : ∀ (bs : List (List Ins)) (k : Nat) (l : List Ins), bs[k]? = some l → ((bs.take k).map List.length).sum + l.length ≤ Ref.total bs ∧ ((bs.take (k + 1)).map List.length).sum = ((bs.take k).map List.length).sum + l.length := by
  intro bs
  induction bs with
  | nil => intro k l h; simp at h
  | cons a r ih =>
    intro k l h
    cases k with
    | zero =>
      simp at h; subst h
      refine ⟨?_, by simp⟩
      show _ ≤ (List.map List.length (a :: r)).sum
      simp
    | succ k =>
      obtain ⟨h1, h2⟩ := ih k l (by simpa using h)
      have h1' : ((r.take k).map List.length).sum + l.length ≤ (r.map List.length).sum := h1
      refine ⟨?_, ?_⟩
      · show _ ≤ (List.map List.length (a :: r)).sum
        simp only [List.take_succ_cons, List.map_cons, List.sum_cons]
        omega
      · simp only [List.take_succ_cons, List.map_cons, List.sum_cons]
        omega
theorem valuedR_ok {f : Fn} {z : Int} (h : Ref.valuedR f z = 0) : Ref.validate f = 0 ∧ 0 ≤ z ∧ z < Ref.count f := by
  unfold Ref.valuedR at h
  split at h
  · next h1 =>
    split at h
    · cases h
    · exact ⟨h1, by omega, by omega⟩
  · next h1 => exact absurd h h1
theorem upTo_len (f : Fn) (k j : Nat) (l : List Ins) (hl : f.blocks[k]? = some l) : (upTo f k j).length ≤ (Ir.items f).length := (upTo_prefix f k j l hl).length_le

set_option maxRecDepth 100000 in
set_option maxHeartbeats 4000000 in
theorem rUsers_any (v : Value) (f : Fn) (z : Int) (w : World) (hf : FnAt w.heap.size w v f) (hn : Nice f) :
    Calls Try.prog 24 #[v, .int .i64 z] w fun e w' => ∃ A n c, e = .returned (.tuple #[.slice A n c, .int .i64 (Ref.valuedR f z)]) ∧ Hid (IntsAt w'.heap.size w' (.slice A n c) (Ref.usersR f z)) ∧ Gr w w' := by
  obtain ⟨i0, hi, hz0, hz1, hz2⟩ := info_parts info_int
  have HV : Hid (∀ w1, Gr w w1 → Calls Try.prog 50 #[v, .int .i64 z] w1 fun e w' => e = .returned (.int .i64 (Ref.valuedR f z)) ∧ Gr w1 w') := fun w1 q => rvalued_any v f z w1 (hf.gr q) hn
  have HR : Hid (Ref.usersR f z = if Ref.valuedR f z = 0 then usersL z (Ir.items f) else []) := by show _ = _; rfl
  have HOK := Lib.hid (valuedR_ok (f := f) (z := z))
  obtain ⟨vp, vs, vb, rfl, hp, hsl, hb⟩ := hf
  obtain ⟨Ap, cp, rfl, hp1, hp2, -⟩ := hp
  obtain ⟨As, cs, rfl, hs1, hs2, -⟩ := hsl
  obtain ⟨Ab, cb, rfl, hb1, hb2, hb3⟩ := hb
  have H3 : Hid (0 < f.blocks.length → ∃ b off, Ab = some ⟨b, off, none⟩ ∧ b < w.heap.size ∧ ∀ j l, f.blocks[j]? = some l → ∃ u, w.cell? ⟨b, off + j, none⟩ = some u ∧ BlkAt w.heap.size w u l) := hb3
  obtain ⟨W, hW⟩ : ∃ W, w.alloc (.cells #[.slice Ap f.params.length cp, .int .i64 f.ret, .slice As f.slots.length cs, .slice Ab f.blocks.length cb] 25) = W := ⟨_, rfl⟩
  have hB0 : Gr w W := by rw [← hW]; exact (Gr.refl w).alloc _
  have g0 : Gr (w.alloc (.cells #[.slice Ap f.params.length cp, .int .i64 f.ret, .slice As f.slots.length cs, .slice Ab f.blocks.length cb] 25)) W := by rw [hW]; exact Gr.refl _
  have hWs : W.heap.size = w.heap.size + 1 := by rw [← hW]; simp
  have B0 : Hid (∀ w', Gr W w' → (w'.cell? ⟨w.heap.size, 0, none⟩ = some (.slice Ap f.params.length cp) ∧ w'.cell? ⟨w.heap.size, 1, none⟩ = some (.int .i64 f.ret) ∧ w'.cell? ⟨w.heap.size, 2, none⟩ = some (.slice As f.slots.length cs) ∧ w'.cell? ⟨w.heap.size, 3, none⟩ = some (.slice Ab f.blocks.length cb))) :=
    fun w' q => ⟨(q.cell _ _ (by omega)).trans (cell_box _ _ 0 g0 rfl), (q.cell _ _ (by omega)).trans (cell_box _ _ 1 g0 rfl), (q.cell _ _ (by omega)).trans (cell_box _ _ 2 g0 rfl), (q.cell _ _ (by omega)).trans (cell_box _ _ 3 g0 rfl)⟩
  obtain ⟨k0, k1, k2, k3⟩ := B0.out W (Gr.refl _)
  obtain ⟨e, he⟩ : ∃ e, Ref.valuedR f z = e := ⟨_, rfl⟩
  rw [he] at HV HR HOK ⊢
  clear he hn g0 hb3
  by_cases h0 : e = 0
  · have hn0 : (e != 0) = false := by simp [h0]
    have HR2 : Hid (Ref.usersR f z = usersL z (Ir.items f)) := by show _ = _; rw [HR.out, if_pos h0]
    have hsm := valid_small (HOK.out h0).1
    have HIL : Hid ((Ir.items f).length ≤ 40) := by show _ ≤ _; rw [items_len]; omega
    have HTS : Hid (∀ (k : Nat) (l : List Ins), f.blocks[k]? = some l → ((f.blocks.take k).map List.length).sum + l.length ≤ 40 ∧ ((f.blocks.take (k + 1)).map List.length).sum = ((f.blocks.take k).map List.length).sum + l.length) := fun k l h => by
      obtain ⟨q1, q2⟩ := total_split _ k l h
      exact ⟨by omega, q2⟩
    have HE0 := Lib.hid h0
    obtain ⟨hs1', -, -, hs4, hs5⟩ := hsm
    clear h0 hs5
    go_enter Try.func24, Try.ntmps24
    go_wp2_with (go_at_call 50; refine (HV.out _ hB0).mono ?_; rintro e w1 ⟨rfl, g1⟩; obtain ⟨l0, l1, l2, l3⟩ := B0.out _ g1)
    have hgw1 : Gr w w1 := hB0.trans g1
    clear k0 k1 k2 k3 l0 l1 l2 l3
    go_loopw [7, 8, 9, 10] (fun s n b _ wr => ∃ k N : Nat, k ≤ f.blocks.length ∧ b = .int .i64 k ∧ n = .int .i64 N ∧ Hid (f.params.length + ((f.blocks.take k).map List.length).sum = N) ∧ N ≤ 43 ∧ Own1 w1.heap.size 3 wr s ((usersL z (upTo f k 0)).map (Value.int .i64)) ∧ Gr w1 wr) (fun _ _ b _ _ => f.blocks.length - (intOf b).toNat)
    case atStart => exact ⟨0, f.params.length, Nat.zero_le _, rfl, rfl, by show _ = _; simp, by omega, by simpa [upTo, Ir.itemsFrom, usersL] using Own1.nil _ _ _, Gr.refl _⟩
    case round =>
      obtain ⟨k, N, hk, rfl, rfl, HN, hN3, hown, hgr⟩ := hrel
      obtain ⟨l0, l1, l2, l3⟩ := B0.out _ (g1.trans hgr)
      by_cases hlt : k < f.blocks.length
      · obtain ⟨bb, ob, rfl, hbb, hcells⟩ := H3.out (by omega)
        obtain ⟨l, hl⟩ : ∃ l, f.blocks[k]? = some l := ⟨_, List.getElem?_eq_getElem hlt⟩
        obtain ⟨u, hu0, hul⟩ := hcells k l hl
        obtain ⟨Al, cl, rfl, hl1, hl2, hl3⟩ := hul
        have HU : Hid (∀ wr, Gr w1 wr → wr.cell? ⟨bb, ob + k, none⟩ = some (.slice Al l.length cl)) := fun wr q => ((hgw1.trans q).cell _ _ hbb).trans hu0
        have hu := HU.out _ hgr
        have HL := Lib.hid hl
        obtain ⟨ht1, ht2⟩ := HTS.out k l hl
        have HT2 := Lib.hid ht2
        have hNl : N + l.length ≤ 43 := by have := HN.out; omega
        have z1 : (k : Int) < (f.blocks.length : Int) := by omega
        have H4 : Hid (0 < l.length → ∃ b off, Al = some ⟨b, off, none⟩ ∧ b < w.heap.size ∧ ∀ j x, l[j]? = some x → InsAt w.heap.size w b (off + j * 6) x) := hl3
        have hl40 : l.length ≤ 40 := by omega
        clear hl hcells hu0 ht1 ht2 hl3
        go_wp2
        go_loopw [7, 8, 10] (fun s n i wr => ∃ j : Nat, j ≤ l.length ∧ i = .int .i64 j ∧ n = .int .i64 ((N : Int) + (j : Int)) ∧ Own1 w1.heap.size 3 wr s ((usersL z (upTo f k j)).map (Value.int .i64)) ∧ Gr w1 wr) (fun _ _ i _ => l.length - (intOf i).toNat)
        case atStart => exact ⟨0, Nat.zero_le _, rfl, by simp, hown, hgr⟩
        case round =>
          clear l0 l1 l2 l3 hu hown hgr
          obtain ⟨j, hj, rfl, rfl, hown, hgr⟩ := hrel
          obtain ⟨l0, l1, l2, l3⟩ := B0.out _ (g1.trans hgr)
          have hu := HU.out _ hgr
          by_cases hlt2 : j < l.length
          · obtain ⟨bl, ol, rfl, hbl, hcells2⟩ := H4.out (by omega)
            obtain ⟨x, hx⟩ : ∃ x, l[j]? = some x := ⟨_, List.getElem?_eq_getElem hlt2⟩
            obtain ⟨va, vt, -, -, -, x30, -, -, hxa, -⟩ := hcells2 j x hx
            have x3 := ((hgw1.trans hgr).cell _ _ hbl).trans x30
            have C := has_any va x.args z wr w.heap.size (hxa.below (hgw1.trans hgr))
            have HS : Hid (usersL z (upTo f k (j + 1)) = usersL z (upTo f k j) ++ (if Ref.has x.args z then [((N : Int) + (j : Int))] else [])) := by
              show _ = _
              rw [upTo_succ f k j l x HL.out hx, usersL_snoc, HN.out]
              simp
            have hlen : (usersL z (upTo f k j)).length ≤ 40 := Nat.le_trans (usersL_len _ _) (Nat.le_trans (upTo_len f k j l HL.out) HIL.out)
            have z2 : (j : Int) < (l.length : Int) := by omega
            cases hh : Ref.has x.args z with
            | true =>
              rw [hh] at C HS
              have HC := Lib.hid C
              clear hx hcells2 x30 hxa C hh
              go_wp2_with (first
                | (go_at_call 54; refine HC.out.mono ?_; rintro e w' ⟨rfl, rfl⟩)
                | (at_builtin; refine app1 Try.underlying22 hi hz0 hz1 hz2 rfl (by omega) rfl _ _ rfl rfl hown rfl rfl (by simp; omega) hgr.size ?_; intro A1 c1 w2 hown1 hb1 _))
              go_roundw
              case rel => exact ⟨j + 1, by omega, by go_num, by go_num, by rw [HS.out]; simpa using hown1, hgr.below hb1 (Nat.le_refl _)⟩
              case measure => simp [intOf]; omega
            | false =>
              rw [hh] at C HS
              have HC := Lib.hid C
              clear hx hcells2 x30 hxa C hh
              go_wp2_with (go_at_call 54; refine HC.out.mono ?_; rintro e w' ⟨rfl, rfl⟩)
              go_roundw
              case rel => exact ⟨j + 1, by omega, by go_num, by go_num, by rw [HS.out]; simpa using hown, hgr⟩
              case measure => simp [intOf]; omega
          · obtain rfl : j = l.length := by omega
            have hown2 := hown
            rw [upTo_next f k l HL.out] at hown2
            go_wp2
            go_roundw
            case rel => exact ⟨k + 1, N + l.length, by omega, by go_num, by go_num, by (show _ = _; rw [HT2.out, ← HN.out]; omega), by omega, hown2, hgr⟩
            case measure => simp [intOf]; omega
      · obtain rfl : k = f.blocks.length := by omega
        rw [upTo_end] at hown
        obtain ⟨As', cs', rfl⟩ := hown.form
        go_wp2
        go_ret2
        have HRES : IntsAt wr.heap.size wr (.slice As' ((usersL z (Ir.items f)).map (Value.int .i64)).length cs') (Ref.usersR f z) := by rw [HR2.out]; exact hown.ints (by have := usersL_len z (Ir.items f); have := HIL.out; omega)
        exact ⟨As', _, cs', by rw [HE0.out]; rfl, HRES, hgw1.trans hgr⟩
  · have hn0 : (e != 0) = true := by simp [h0]
    have HR2 : Hid (Ref.usersR f z = []) := by show _ = _; rw [HR.out, if_neg h0]
    clear h0
    go_enter Try.func24, Try.ntmps24
    go_wp2_with (go_at_call 50; refine (HV.out _ hB0).mono ?_; rintro e w1 ⟨rfl, g1⟩)
    go_ret2
    have HNIL : IntsAt w1.heap.size w1 (.slice none 0 0) (Ref.usersR f z) := by rw [HR2.out]; exact ⟨none, 0, rfl, by simp, by simp, by simp⟩
    exact ⟨none, 0, 0, rfl, HNIL, hB0.trans g1⟩
end Go.Proofs.Ytiadpjhlomhjeaa

namespace Go.Proofs.Ytiadpjhlomhjeaa
open Go.RowKit Go.Shelf

theorem whereR_param {f : Fn} {z : Int} (h : z < f.params.length) : Ref.whereR f z = (0, 0, false) := by
  unfold Ref.whereR
  split
  · rw [if_pos]
    rw [Ref.whereIs, Ref.whereFrom_none z _ _ _ h]; decide
  · rfl
theorem whereR_item {f : Fn} {z : Int} {i : Nat} {it : It} (hv : Ref.valuedR f z = 0) (hz : z = ((f.params.length + i : Nat) : Int)) (h : (Ir.items f)[i]? = some it) : Ref.whereR f z = ((it.blk : Int), (it.pos : Int), true) := by
  unfold Ref.whereR
  rw [if_pos hv, hz, (items_get f i it h).1, if_neg (by simp)]
theorem count_total (f : Fn) : Ref.count f = f.params.length + Ref.total f.blocks := by
  unfold Ref.count Ref.number; rw [List.take_length]
theorem valid_rules' {f : Fn} (h : Ref.validate f = 0) : Ref.rules f = true := by
  cases hr : Ref.rules f with
  | true => rfl
  | false =>
    unfold Ref.validate at h
    rw [hr] at h
    repeat (split at h <;> first | (cases h; done) | skip)
    all_goals simp_all

set_option maxRecDepth 100000 in
set_option maxHeartbeats 4000000 in
theorem Where_any (v : Value) (f : Fn) (z : Int) (w : World) (hf : FnAt w.heap.size w v f) (hn : Nice f) :
    Calls Try.prog 19 #[v, .int .i64 z] w fun e w' => e = .returned (.tuple #[.int .i64 (Ref.whereR f z).1, .int .i64 (Ref.whereR f z).2.1, .bool (Ref.whereR f z).2.2, .int .i64 (Ref.valuedR f z)]) ∧ Gr w w' := by
  have HV : Hid (∀ w1, Gr w w1 → Calls Try.prog 48 #[v, .int .i64 z] w1 fun e w' => e = .returned (.int .i64 (Ref.valuedR f z)) ∧ Gr w1 w') := fun w1 q => valued_any v f z w1 (hf.gr q) hn
  have HH : Hid (Ref.validate f = 0 → ∀ w1, Gr w w1 → Calls Try.prog 49 #[v] w1 fun e w' => ∃ Ab cb Aa ca Ag ng cg, e = .returned (.agg #[.int .i64 f.params.length, .slice Ab (Ir.items f).length cb, .slice Aa (Ir.items f).length ca, .slice Ag ng cg]) ∧ Hid (IntsAt w'.heap.size w' (.slice Ab (Ir.items f).length cb) (blks f)) ∧ Hid (IntsAt w'.heap.size w' (.slice Aa (Ir.items f).length ca) (places f)) ∧ Gr w1 w') := by
    intro h w1 q
    have hsm := valid_small h
    refine (homes_any v f w1 (hf.gr q) hn.blocks (by rw [items_len]; omega) (rules_ne (valid_rules' h))).mono ?_
    rintro e w' ⟨vb, va, vg, q1, q2, q3, q4, q5⟩
    have q2' := q2
    have q3' := q3
    obtain ⟨Ab, cb, e2, -, -, -⟩ := q2
    obtain ⟨Aa, ca, e3, -, -, -⟩ := q3
    obtain ⟨Ag, cg, e4, -, -, -⟩ := q4
    have l2 : (blks f).length = (Ir.items f).length := by simp [blks]
    have l3 : (places f).length = (Ir.items f).length := by simp [places]
    rw [l2] at e2
    rw [l3] at e3
    subst e2; subst e3; subst e4
    exact ⟨Ab, cb, Aa, ca, Ag, _, cg, q1, q2', q3', q5⟩
  have HN := Lib.hid (valuedR_ok (f := f) (z := z))
  have HP := Lib.hid (whereR_param (f := f) (z := z))
  have HI := Lib.hid (fun i it => whereR_item (f := f) (z := z) (i := i) (it := it))
  have HNV : Hid (Ref.valuedR f z ≠ 0 → Ref.whereR f z = (0, 0, false)) := by intro h; unfold Ref.whereR; rw [if_neg h]
  have HCT := Lib.hid (count_total f)
  have HIL := Lib.hid (items_len f)
  obtain ⟨vp, vs, vb, rfl, hp, hsl, hb⟩ := hf
  obtain ⟨Ap, cp, rfl, hp1, hp2, -⟩ := hp
  obtain ⟨As, cs, rfl, hs1, hs2, -⟩ := hsl
  obtain ⟨Ab, cb, rfl, hb1, hb2, -⟩ := hb
  obtain ⟨W, hW⟩ : ∃ W, w.alloc (.cells #[.slice Ap f.params.length cp, .int .i64 f.ret, .slice As f.slots.length cs, .slice Ab f.blocks.length cb] 25) = W := ⟨_, rfl⟩
  have hB0 : Gr w W := by rw [← hW]; exact (Gr.refl w).alloc _
  have g0 : Gr (w.alloc (.cells #[.slice Ap f.params.length cp, .int .i64 f.ret, .slice As f.slots.length cs, .slice Ab f.blocks.length cb] 25)) W := by rw [hW]; exact Gr.refl _
  have hWs : W.heap.size = w.heap.size + 1 := by rw [← hW]; simp
  have B0 : Hid (∀ w', Gr W w' → (w'.cell? ⟨w.heap.size, 0, none⟩ = some (.slice Ap f.params.length cp) ∧ w'.cell? ⟨w.heap.size, 1, none⟩ = some (.int .i64 f.ret) ∧ w'.cell? ⟨w.heap.size, 2, none⟩ = some (.slice As f.slots.length cs) ∧ w'.cell? ⟨w.heap.size, 3, none⟩ = some (.slice Ab f.blocks.length cb))) :=
    fun w' q => ⟨(q.cell _ _ (by omega)).trans (cell_box _ _ 0 g0 rfl), (q.cell _ _ (by omega)).trans (cell_box _ _ 1 g0 rfl), (q.cell _ _ (by omega)).trans (cell_box _ _ 2 g0 rfl), (q.cell _ _ (by omega)).trans (cell_box _ _ 3 g0 rfl)⟩
  obtain ⟨k0, k1, k2, k3⟩ := B0.out W (Gr.refl _)
  obtain ⟨e, he⟩ : ∃ e, Ref.valuedR f z = e := ⟨_, rfl⟩
  rw [he] at HV HN HI HNV ⊢
  clear he hn g0
  by_cases h0 : e = 0
  · have hn0 : (e != 0) = false := by simp [h0]
    have HE0 := Lib.hid h0
    obtain ⟨n1, n2, n3⟩ := HN.out h0
    clear h0
    by_cases hlt : z < f.params.length
    · have HR2 := Lib.hid (HP.out hlt)
      go_enter Try.func19, Try.ntmps19
      go_wp2_with (go_at_call 48; refine (HV.out _ hB0).mono ?_; rintro e w1 ⟨rfl, g1⟩; obtain ⟨l0, l1, l2, l3⟩ := B0.out _ g1)
      (try simp only [Exit.inBlock, Exit.then])
      refine bodyPost_ret (results_tmp4 rfl _ _ _) rfl ?_
      exact ⟨by rw [HR2.out, HE0.out]; rfl, hB0.trans g1⟩
    · have hsm := valid_small n1
      obtain ⟨i, hi⟩ : ∃ i : Nat, z = ((f.params.length + i : Nat) : Int) := ⟨(z - f.params.length).toNat, by omega⟩
      have hil : i < (Ir.items f).length := by rw [HIL.out]; have := HCT.out; omega
      obtain ⟨it, hit⟩ : ∃ it, (Ir.items f)[i]? = some it := ⟨(Ir.items f)[i], List.getElem?_eq_getElem hil⟩
      have HR2 := Lib.hid (HI.out i it HE0.out hi hit)
      have hbk : (blks f)[i]? = some (it.blk : Int) := by simp [blks, hit]
      have hpk : (places f)[i]? = some (it.pos : Int) := by simp [places, hit]
      have HH1 : Hid (∀ w1, Gr w w1 → Calls Try.prog 49 #[.agg #[.slice Ap f.params.length cp, .int .i64 f.ret, .slice As f.slots.length cs, .slice Ab f.blocks.length cb]] w1 fun e w' => ∃ b2 o2 c2 b3 o3 c3 A4 n4 c4, e = .returned (.agg #[.int .i64 f.params.length, .slice (some ⟨b2, o2, none⟩) (Ir.items f).length c2, .slice (some ⟨b3, o3, none⟩) (Ir.items f).length c3, .slice A4 n4 c4]) ∧ Hid (w'.cell? ⟨b2, o2 + i, none⟩ = some (.int .i64 it.blk) ∧ w'.cell? ⟨b3, o3 + i, none⟩ = some (.int .i64 it.pos) ∧ b2 < w'.heap.size ∧ b3 < w'.heap.size) ∧ Gr w1 w') := by
        intro w1 q
        refine (HH.out n1 w1 q).mono ?_
        rintro e w' ⟨A2, c2, A3, c3, A4, n4, c4, rfl, I2, I3, g2⟩
        obtain ⟨A2', c2', e2, q1, q2, q3⟩ := I2.out
        obtain ⟨A3', c3', e3, q4, q5, q6⟩ := I3.out
        obtain ⟨b2, o2, e4, hb2', hc2⟩ := q3 (by simp [blks]; omega)
        obtain ⟨b3, o3, e5, hb3', hc3⟩ := q6 (by simp [places]; omega)
        injection e2 with e2 e6 e7
        injection e3 with e3 e8 e9
        subst e2; subst e3; subst e4; subst e5
        exact ⟨b2, o2, c2, b3, o3, c3, A4, n4, c4, rfl, ⟨hc2 i _ hbk, hc3 i _ hpk, hb2', hb3'⟩, g2⟩
      have HBK := Lib.hid hbk
      have HPK := Lib.hid hpk
      have hii : (i : Int) < ((Ir.items f).length : Int) := by omega
      have hm1 : (f.params.length : Int) + (i : Int) - f.params.length = i := by omega
      have hi0 : (0 : Int) ≤ (i : Int) := by omega
      have hp' : (f.params.length : Int) ≤ f.params.length + (i : Int) := by omega
      have hp3 := hsm.1
      have hil2 : (Ir.items f).length ≤ 40 := by rw [items_len]; exact hsm.2.2.2.2
      obtain rfl : z = (f.params.length : Int) + (i : Int) := by omega
      clear hbk hpk hit hsm hi
      go_enter Try.func19, Try.ntmps19
      go_wp2_with (first
        | (go_at_call 48; refine (HV.out _ hB0).mono ?_; rintro e w1 ⟨rfl, g1⟩; obtain ⟨l0, l1, l2, l3⟩ := B0.out _ g1)
        | (go_at_call 49; refine (HH1.out _ (hB0.trans g1)).mono ?_; rintro e w2 ⟨b2, o2, c2, b3, o3, c3, A4, n4, c4, rfl, HC2, g2⟩; obtain ⟨hcb, hca, hb2', hb3'⟩ := HC2.out))
      have hgg := hB0.trans (g1.trans g2)
      have x0 := cell_box (V := w2) (B := w2.heap.size) #[.int .i64 f.params.length, .slice (some ⟨b2, o2, none⟩) (Ir.items f).length c2, .slice (some ⟨b3, o3, none⟩) (Ir.items f).length c3, .slice A4 n4 c4] 65 0 (Gr.refl _) rfl
      have x1 := cell_box (V := w2) (B := w2.heap.size) #[.int .i64 f.params.length, .slice (some ⟨b2, o2, none⟩) (Ir.items f).length c2, .slice (some ⟨b3, o3, none⟩) (Ir.items f).length c3, .slice A4 n4 c4] 65 1 (Gr.refl _) rfl
      have x2 := cell_box (V := w2) (B := w2.heap.size) #[.int .i64 f.params.length, .slice (some ⟨b2, o2, none⟩) (Ir.items f).length c2, .slice (some ⟨b3, o3, none⟩) (Ir.items f).length c3, .slice A4 n4 c4] 65 2 (Gr.refl _) rfl
      have x4 := (((Gr.refl w2).alloc (.cells #[.int .i64 f.params.length, .slice (some ⟨b2, o2, none⟩) (Ir.items f).length c2, .slice (some ⟨b3, o3, none⟩) (Ir.items f).length c3, .slice A4 n4 c4] 65)).cell _ _ hb2').trans hcb
      have x5 := (((Gr.refl w2).alloc (.cells #[.int .i64 f.params.length, .slice (some ⟨b2, o2, none⟩) (Ir.items f).length c2, .slice (some ⟨b3, o3, none⟩) (Ir.items f).length c3, .slice A4 n4 c4] 65)).cell _ _ hb3').trans hca
      have hg9 := hgg.alloc (.cells #[.int .i64 f.params.length, .slice (some ⟨b2, o2, none⟩) (Ir.items f).length c2, .slice (some ⟨b3, o3, none⟩) (Ir.items f).length c3, .slice A4 n4 c4] 65)
      obtain ⟨W3, hW3⟩ : ∃ W3, w2.alloc (.cells #[.int .i64 f.params.length, .slice (some ⟨b2, o2, none⟩) (Ir.items f).length c2, .slice (some ⟨b3, o3, none⟩) (Ir.items f).length c3, .slice A4 n4 c4] 65) = W3 := ⟨_, rfl⟩
      rw [hW3] at x0 x1 x2 x4 x5 hg9 ⊢
      replace x0 : W3.cell? ⟨w2.heap.size, 0, none⟩ = some (.int .i64 f.params.length) := x0
      replace x1 : W3.cell? ⟨w2.heap.size, 1, none⟩ = some (.slice (some ⟨b2, o2, none⟩) (Ir.items f).length c2) := x1
      replace x2 : W3.cell? ⟨w2.heap.size, 2, none⟩ = some (.slice (some ⟨b3, o3, none⟩) (Ir.items f).length c3) := x2
      clear hW3 hcb hca l0 l1 l2 l3 k0 k1 k2 k3 hW
      go_quiet (fail)
      go_wp2
      (try simp only [Exit.inBlock, Exit.then])
      refine bodyPost_ret (results_tmp4 rfl _ _ _) rfl ?_
      exact ⟨by rw [HR2.out, HE0.out]; rfl, hg9.drewN _⟩
  · have hn0 : (e != 0) = true := by simp [h0]
    have HR2 := Lib.hid (HNV.out h0)
    clear h0
    go_enter Try.func19, Try.ntmps19
    go_wp2_with (go_at_call 48; refine (HV.out _ hB0).mono ?_; rintro e w1 ⟨rfl, g1⟩)
    (try simp only [Exit.inBlock, Exit.then])
    refine bodyPost_ret (results_tmp4 rfl _ _ _) rfl ?_
    exact ⟨by rw [HR2.out]; rfl, hB0.trans g1⟩
end Go.Proofs.Ytiadpjhlomhjeaa

namespace Go.Proofs.Ytiadpjhlomhjeaa
open Go.RowKit Go.Shelf

attribute [local go_sem] Oper.semAt_some

set_option maxRecDepth 100000 in
set_option maxHeartbeats 8000000 in
theorem Users_any (v : Value) (f : Fn) (z : Int) (w : World) (hf : FnAt w.heap.size w v f) (hn : Nice f) :
    Calls Try.prog 23 #[v, .int .i64 z] w fun e w' => ∃ A n c, e = .returned (.tuple #[.slice A n c, .int .i64 (Ref.valuedR f z)]) ∧ Hid (IntsAt w'.heap.size w' (.slice A n c) (Ref.usersR f z)) ∧ Gr w w' := by
  obtain ⟨i0, hi, hz0, hz1, hz2⟩ := info_parts info_int
  have HV : Hid (∀ w1, Gr w w1 → Calls Try.prog 48 #[v, .int .i64 z] w1 fun e w' => e = .returned (.int .i64 (Ref.valuedR f z)) ∧ Gr w1 w') := fun w1 q => valued_any v f z w1 (hf.gr q) hn
  have HR : Hid (Ref.usersR f z = if Ref.valuedR f z = 0 then usersL z (Ir.items f) else []) := by show _ = _; rfl
  have HOK := Lib.hid (valuedR_ok (f := f) (z := z))
  have HBL := Lib.hid hn.blocks
  have hf0 := hf
  obtain ⟨vp, vs, vb, rfl, hp, hsl, hb⟩ := hf
  obtain ⟨Ap, cp, rfl, -, -, -⟩ := hp
  obtain ⟨As, cs, rfl, -, -, -⟩ := hsl
  obtain ⟨Ab, cb, rfl, -, -, -⟩ := hb
  obtain ⟨W, hW⟩ : ∃ W, (w.alloc (.cells #[.slice Ap f.params.length cp, .int .i64 f.ret, .slice As f.slots.length cs, .slice Ab f.blocks.length cb] 25)).alloc (.cells #[.int .i64 z] 3) = W := ⟨_, rfl⟩
  have hB0 : Gr w W := by rw [← hW]; exact ((Gr.refl w).alloc _).alloc _
  have g0 : Gr (w.alloc (.cells #[.slice Ap f.params.length cp, .int .i64 f.ret, .slice As f.slots.length cs, .slice Ab f.blocks.length cb] 25)) W := by rw [← hW]; exact (Gr.refl _).alloc _
  have hWs : W.heap.size = w.heap.size + 2 := by rw [← hW]; simp
  have hz : W.cell? ⟨w.heap.size + 1, 0, none⟩ = some (.int .i64 z) := by rw [← hW]; exact cell_of_row _ _ 0 _ _ _ (heap_alloc2_new w _ _)
  have B0 : Hid (∀ w', Gr W w' → (w'.cell? ⟨w.heap.size, 0, none⟩ = some (.slice Ap f.params.length cp) ∧ w'.cell? ⟨w.heap.size, 1, none⟩ = some (.int .i64 f.ret) ∧ w'.cell? ⟨w.heap.size, 2, none⟩ = some (.slice As f.slots.length cs) ∧ w'.cell? ⟨w.heap.size, 3, none⟩ = some (.slice Ab f.blocks.length cb)) ∧ w'.cell? ⟨w.heap.size + 1, 0, none⟩ = some (.int .i64 z)) :=
    fun w' q => ⟨⟨(q.cell _ _ (by omega)).trans (cell_box _ _ 0 g0 rfl), (q.cell _ _ (by omega)).trans (cell_box _ _ 1 g0 rfl), (q.cell _ _ (by omega)).trans (cell_box _ _ 2 g0 rfl), (q.cell _ _ (by omega)).trans (cell_box _ _ 3 g0 rfl)⟩, (q.cell _ _ (by omega)).trans hz⟩
  have HCA : Hid (∀ w1, Calls Try.prog 34 #[.agg #[.slice Ap f.params.length cp, .int .i64 f.ret, .slice As f.slots.length cs, .slice Ab f.blocks.length cb]] w1 fun e w' => e = .returned (.func (.func 67) #[] #[.pointer (some ⟨w1.heap.size, 0, none⟩)]) ∧ w' = w1.alloc (.cells #[.slice Ap f.params.length cp, .int .i64 f.ret, .slice As f.slots.length cs, .slice Ab f.blocks.length cb] 25)) := fun w1 => all_in f Ap As _ _ _ _ cp cs cb w1
  obtain ⟨ev, hev⟩ : ∃ e, Ref.valuedR f z = e := ⟨_, rfl⟩
  rw [hev] at HV HR HOK ⊢
  refine (callsIn_wide (n := 5)).1 ?_
  refine callsIn_of_wp_marks Try.func23 rfl trivial ?_ rfl
  simp only [Try.ntmps23, List.size_toArray, List.length_cons, List.length_nil, Nat.reduceAdd, Nat.reduceSub, Array.replicate_succ, Array.replicate_zero, List.push_toArray, List.append_toArray, List.nil_append, List.cons_append]
  refine wpIn_wide.2 ?_
  obtain ⟨⟨k0, k1, k2, k3⟩, k4⟩ := B0.out W (Gr.refl _)
  clear g0 hn hev hz
  by_cases h0 : ev = 0
  · have hn0 : (ev != 0) = false := by simp [h0]
    have HR2 : Hid (Ref.usersR f z = usersL z (Ir.items f)) := by show _ = _; rw [HR.out, if_pos h0]
    have hsm := valid_small (HOK.out h0).1
    have HIL : Hid ((Ir.items f).length ≤ 40) := by show _ ≤ _; rw [items_len]; omega
    have HE0 := Lib.hid h0
    clear h0 hsm
    go_wp2_with (first
      | (go_at_call 48; refine (HV.out _ hB0).mono ?_; rintro e w1 ⟨rfl, g1⟩; obtain ⟨⟨l0, l1, l2, l3⟩, l4⟩ := B0.out _ g1; obtain ⟨⟨m0, m1, m2, m3⟩, m4⟩ := B0.out _ (g1.alloc (.cells #[.slice none 0 0] 22)))
      | (go_at_call 34; refine (HCA.out _).mono ?_; rintro e w2 ⟨rfl, rfl⟩))
    obtain ⟨W0, hW0⟩ : ∃ W0, (w1.alloc (.cells #[.slice none 0 0] 22)).alloc (.cells #[.slice Ap f.params.length cp, .int .i64 f.ret, .slice As f.slots.length cs, .slice Ab f.blocks.length cb] 25) = W0 := ⟨_, rfl⟩
    have hgw1 : Gr w w1 := hB0.trans g1
    have hg10 : Gr w1 W0 := by rw [← hW0]; exact ((Gr.refl _).alloc _).alloc _
    have hgw0 : Gr w W0 := hgw1.trans hg10
    have hgr0 : Gr W W0 := g1.trans hg10
    have hsz : W0.heap.size = w1.heap.size + 2 := by rw [← hW0]; simp
    have hbx0 : ∀ o, W0.cell? ⟨w1.heap.size + 1, o, none⟩ = (#[.slice Ap f.params.length cp, .int .i64 f.ret, .slice As f.slots.length cs, .slice Ab f.blocks.length cb] : Array Value)[o]? := by
      intro o; rw [← hW0]; exact cell_of_row _ _ _ _ _ _ (heap_alloc2_new w1 _ _)
    have hbo0 : W0.heap[w1.heap.size]? = some (.cells #[.slice none 0 0] 22 (0, 0)) := by
      rw [← hW0]; exact (((Gr.refl _).alloc _).heap _ (by simp)).trans (heap_alloc_new w1 _)
    have hz0' := (B0.out _ hgr0).2
    have hsw := hB0.size
    have hww := hgw0.size
    have hs1 := g1.size
    rw [hW0]
    clear l0 l1 l2 l3 l4 m0 m1 m2 m3 m4 k0 k1 k2 k3 k4 hW0
    obtain ⟨Bo, hBo⟩ : ∃ Bo, w1.heap.size = Bo := ⟨_, rfl⟩
    rw [hBo] at hbo0 hsz hbx0 ⊢
    have hBo1 : w.heap.size + 1 < Bo := by omega
    refine range_all (w := w) (f := f) (q := 8) (Bf := Bo + 1) rfl hf0 hgw0 HBL.out (by omega) (hbx0 0) (hbx0 3)
      (fun pre Wr => (∃ v, Wr.heap[Bo]? = some (.cells #[v] 22 (0, 0)) ∧ Own1 W0.heap.size 3 Wr v ((usersL z pre).map (Value.int .i64))) ∧ (Below w.heap.size w Wr ∧ Frm Bo W0 Wr))
      (fun _ _ _ => False)
      (OwnFrom.and (OwnFrom.ex fun v => OwnFrom.and (cells_own _ _ _) (own1_own _ _ _ _ _)) (OwnFrom.and (ownFrom_below (Nat.le_refl _) (by omega)) (frm_own Bo W0)))
      (fun c => fun _ _ _ _ h _ _ => h) (fun pre Wr h => h.2.2.1) ⟨⟨_, hbo0, Own1.nil _ _ _⟩, hgw0, Frm.refl _ _⟩ ?hassign ?hbody ?hdone ?hstop
    case hassign =>
      intro l it aa ta ca ct Wr K hK
      simp only [List.setIfInBounds_toArray, List.set_cons_succ, List.set_cons_zero, encV, rowV] at hK ⊢
      gi_wp2
      exact hK
    case hbody =>
      rintro l pre it aa ta ca ct Wr Bx ⟨⟨v, hbr, hv⟩, hB, hF⟩ hva hvt hmem hlt hBx hrow
      simp only [List.setIfInBounds_toArray, List.set_cons_succ, List.set_cons_zero, encV]
      have hBxl : Bx < Wr.heap.size := (Array.getElem?_eq_some_iff.1 hrow).1
      have x3 : Wr.cell? ⟨Bx, 3, none⟩ = some (.slice aa it.ins.args.length ca) := cell_of_row _ _ 3 _ _ _ hrow
      have x6 : Wr.cell? ⟨Bx, 6, none⟩ = some (.int .i64 it.num) := cell_of_row _ _ 6 _ _ _ hrow
      have xz : Wr.cell? ⟨w.heap.size + 1, 0, none⟩ = some (.int .i64 z) := by
        have h := hF.2 (w.heap.size + 1) (by omega) (by omega)
        unfold World.cell? at hz0' ⊢
        rw [h]; exact hz0'
      have xo : Wr.cell? ⟨Bo, 0, none⟩ = some v := cell_of_row _ _ 0 _ _ _ hbr
      have C := Contains_any (.slice aa it.ins.args.length ca) it.ins.args z Wr ((hva.below hB).mono hB.size)
      have HS : Hid (usersL z (pre ++ [it]) = usersL z pre ++ (if Ref.has it.ins.args z then [(it.num : Int)] else [])) := usersL_snoc z pre it
      have hlen : (usersL z pre).length ≤ 41 := Nat.le_trans (usersL_len _ _) (by have := HIL.out; omega)
      have hsB := hB.size
      have hsF := hF.1
      have hnx : Bx ≠ Bo := by omega
      clear hmem hlt hrow
      cases hh : Ref.has it.ins.args z with
      | false =>
        rw [hh] at C HS
        have HC := Lib.hid C
        clear C hh
        gi_wp2_with (refine ⟨trivial, ?_⟩; gi_at_call 53; refine (CallsIn.inRound l (callsIn_wide.2 HC.out)).mono ?_; rintro e w' ⟨rfl, rfl⟩)
        refine ⟨(KeepsOthers.refl _).from _, Below.refl _ _, ⟨v, hbr, ?_⟩, hB, hF⟩
        rw [HS.out]; simpa using hv
      | true =>
        rw [hh] at C HS
        have HC := Lib.hid C
        clear C hh
        obtain ⟨L, hL⟩ : ∃ L, (usersL z pre).map (Value.int .i64) = L := ⟨_, rfl⟩
        have HL : Hid ((usersL z (pre ++ [it])).map (Value.int .i64) = L ++ [.int .i64 it.num]) := by show _ = _; rw [HS.out, ← hL]; simp
        have hLl : L.length ≤ 41 := by rw [← hL]; simpa using hlen
        rw [hL] at hv
        clear hL HS
        gi_wp2_with (first
          | (refine ⟨trivial, ?_⟩; gi_at_call 53; refine (CallsIn.inRound l (callsIn_wide.2 HC.out)).mono ?_; rintro e w' ⟨rfl, rfl⟩)
          | (gi_at_builtin; refine wpListIn_append_own_at _ rfl (.tmp 23) (.tmp 26) 22 rfl W0.heap.size 3 i0 (.int .i64 0) 1 8 Try.underlying22 hi hz0 hz1 hz2 rfl (by decide) _ _ _ rfl (hv.alloc _) ⟨Wr.heap.size, 0, none⟩ 1 1 [.int .i64 it.num] rfl rfl (cell_one_new _ _ _) (by simp [Value.oneCell']) (by simp only [maxLen]; omega) (by omega) (by simp; omega) ?_; intro v1 w1 hown1 hgrow1 _ hat1; obtain ⟨g1, cap1, rfl⟩ := ownsRow_succ hown1; obtain ⟨m1, m2, m3, m4, m5, m6, m7, -⟩ := field_append (i := 0) (n₀ := W0.heap.size) (ys := L ++ [.int .i64 it.num]) hbr (by decide) hv (by unfold Own1; rw [List.length_append]; exact hown1) hgrow1 hat1; have c1 := cell_of_row _ _ 0 _ _ _ m1; have f1 := frozen_of_row _ _ 0 _ _ m1))
        refine ⟨m4.from _, m7 w.heap.size (by omega) (by omega) (by omega), ⟨_, m2, ?_⟩, hB.trans (m7 w.heap.size (by omega) (by omega) (by omega)), m5 W0 hF (by omega)⟩
        rw [HL.out]; exact m3
    case hdone =>
      rintro D Wr hD ⟨⟨v, hbr, hv⟩, hB, hF⟩ hK
      have xo : Wr.cell? ⟨Bo, 0, none⟩ = some v := cell_of_row _ _ 0 _ _ _ hbr
      obtain ⟨Av, cv, ev'⟩ := hv.form
      rw [List.length_map] at ev'
      subst ev'
      have hv9 : Own1 W0.heap.size 3 (Wr.putObj D (.deferred none)) _ _ := ownsRow_putObj hv (.deferred none) hK rfl
      have hg9 : Gr w (Wr.putObj D (.deferred none)) := hB.trans (belowK_b (w := w) (Nat.le_refl _) Wr D _ _ (by omega) hK rfl rfl)
      have HRES : IntsAt (Wr.putObj D (.deferred none)).heap.size (Wr.putObj D (.deferred none)) (.slice Av (usersL z (Ir.items f)).length cv) (Ref.usersR f z) := by
        rw [HR2.out]; exact hv9.ints (by have := usersL_len z (Ir.items f); have := HIL.out; omega)
      have HK := Lib.hid hK
      clear hK hbr
      go_wp2
      refine retD rfl HK.out (results_tmp2 rfl _ _ _) ?_
      exact ⟨Av, _, cv, by rw [HE0.out]; rfl, HRES, hg9⟩
    case hstop =>
      rintro D c pre Wr hD hpre h hK
      exact h.elim
  · have hn0 : (ev != 0) = true := by simp [h0]
    have HR2 : Hid (Ref.usersR f z = []) := by show _ = _; rw [HR.out, if_neg h0]
    clear h0
    go_wp2_with (go_at_call 48; refine (HV.out _ hB0).mono ?_; rintro e w1 ⟨rfl, g1⟩; obtain ⟨⟨l0, l1, l2, l3⟩, l4⟩ := B0.out _ g1)
    refine retM rfl (results_tmp2 rfl _ _ _) ?_
    have HNIL : IntsAt w1.heap.size w1 (.slice none 0 0) (Ref.usersR f z) := by rw [HR2.out]; exact ⟨none, 0, rfl, by simp, by simp, by simp⟩
    exact ⟨none, 0, 0, rfl, HNIL, hB0.trans g1⟩
end Go.Proofs.Ytiadpjhlomhjeaa

namespace Go.Proofs.Ytiadpjhlomhjeaa
open Go.RowKit Go.Shelf

set_option maxRecDepth 100000 in
set_option maxHeartbeats 16000000 in
theorem lawValues_any (v : Value) (f : Fn) (z : Int) (w : World) (hf : FnAt w.heap.size w v f) (hn : longFn f = false → Nice f) (hz1 : -9223372036854775808 ≤ z) (hz2 : z ≤ 9223372036854775807) :
    Calls Try.prog 5 #[v, .int .i64 z] w fun e w' => e = .returned (.bool true) ∧ Gr w w' := by
  have HL : Hid (∀ w1, Gr w w1 → Calls Try.prog 8 #[v] w1 fun e w' => e = .returned (.bool (longFn f)) ∧ Gr w1 w') := fun w1 q => Long_any v f w1 (hf.gr q)
  have HC1 : Hid (longFn f = false → ∀ w1, Gr w w1 → Calls Try.prog 17 #[v] w1 fun e w' => e = .returned (.tuple #[.int .i64 (Ref.countR f), .int .i64 (Ref.validate f)]) ∧ Gr w1 w') := fun h w1 q => Count_any v f w1 (hf.gr q) (hn h)
  have HC2 : Hid (longFn f = false → ∀ w1, Gr w w1 → Calls Try.prog 18 #[v] w1 fun e w' => e = .returned (.tuple #[.int .i64 (Ref.countR f), .int .i64 (Ref.validate f)]) ∧ Gr w1 w') := fun h w1 q => rCount_any v f w1 (hf.gr q) (hn h)
  have HW1 : Hid (longFn f = false → ∀ w1, Gr w w1 → Calls Try.prog 19 #[v, .int .i64 z] w1 fun e w' => e = .returned (.tuple #[.int .i64 (Ref.whereR f z).1, .int .i64 (Ref.whereR f z).2.1, .bool (Ref.whereR f z).2.2, .int .i64 (Ref.valuedR f z)]) ∧ Gr w1 w') := fun h w1 q => Where_any v f z w1 (hf.gr q) (hn h)
  have HW2 : Hid (longFn f = false → ∀ w1, Gr w w1 → Calls Try.prog 20 #[v, .int .i64 z] w1 fun e w' => e = .returned (.tuple #[.int .i64 (Ref.whereR f z).1, .int .i64 (Ref.whereR f z).2.1, .bool (Ref.whereR f z).2.2, .int .i64 (Ref.valuedR f z)]) ∧ Gr w1 w') := fun h w1 q => rWhere_any v f z w1 (hf.gr q) (hn h) hz1 hz2
  have HK1 : Hid (longFn f = false → ∀ w1, Gr w w1 → Calls Try.prog 21 #[v, .int .i64 z] w1 fun e w' => e = .returned (.tuple #[.int .i64 (Ref.kindR f z), .int .i64 (Ref.valuedR f z)]) ∧ Gr w1 w') := fun h w1 q => Kind_any v f z w1 (hf.gr q) (hn h)
  have HK2 : Hid (longFn f = false → ∀ w1, Gr w w1 → Calls Try.prog 22 #[v, .int .i64 z] w1 fun e w' => e = .returned (.tuple #[.int .i64 (Ref.kindR f z), .int .i64 (Ref.valuedR f z)]) ∧ Gr w1 w') := fun h w1 q => rKind_any v f z w1 (hf.gr q) (hn h) hz1 hz2
  have HU1 : Hid (longFn f = false → ∀ w1, Gr w w1 → Calls Try.prog 23 #[v, .int .i64 z] w1 fun e w' => ∃ A n c, e = .returned (.tuple #[.slice A n c, .int .i64 (Ref.valuedR f z)]) ∧ Hid (IntsAt w'.heap.size w' (.slice A n c) (Ref.usersR f z)) ∧ Gr w1 w') := fun h w1 q => Users_any v f z w1 (hf.gr q) (hn h)
  have HU2 : Hid (longFn f = false → ∀ w1, Gr w w1 → Calls Try.prog 24 #[v, .int .i64 z] w1 fun e w' => ∃ A n c, e = .returned (.tuple #[.slice A n c, .int .i64 (Ref.valuedR f z)]) ∧ Hid (IntsAt w'.heap.size w' (.slice A n c) (Ref.usersR f z)) ∧ Gr w1 w') := fun h w1 q => rUsers_any v f z w1 (hf.gr q) (hn h)
  have HS : Hid (∀ w1 va vb, IntsAt (World.heap w1).size w1 va (Ref.usersR f z) → IntsAt w1.heap.size w1 vb (Ref.usersR f z) → Calls Try.prog 25 #[va, vb] w1 fun e w' => e = .returned (.bool true) ∧ Gr w1 w') := by
    intro w1 va vb h1 h2
    have := SameInts_any va vb _ _ w1 h1 h2
    simpa using this
  have HKN : Hid (∀ w1, Calls Try.prog 9 #[] w1 fun e w' => e = .returned (.bool true) ∧ Gr w1 w') := known_any
  obtain ⟨vp, vs, vb, rfl, hp, hsl, hb⟩ := hf
  obtain ⟨Ap, cp, rfl, -, -, -⟩ := hp
  obtain ⟨As, cs, rfl, -, -, -⟩ := hsl
  obtain ⟨Ab, cb, rfl, -, -, -⟩ := hb
  obtain ⟨W, hW⟩ : ∃ W, w.alloc (.cells #[.slice Ap f.params.length cp, .int .i64 f.ret, .slice As f.slots.length cs, .slice Ab f.blocks.length cb] 25) = W := ⟨_, rfl⟩
  have hB0 : Gr w W := by rw [← hW]; exact (Gr.refl w).alloc _
  have g0 : Gr (w.alloc (.cells #[.slice Ap f.params.length cp, .int .i64 f.ret, .slice As f.slots.length cs, .slice Ab f.blocks.length cb] 25)) W := by rw [hW]; exact Gr.refl _
  have hWs : W.heap.size = w.heap.size + 1 := by rw [← hW]; simp
  have B0 : Hid (∀ w', Gr W w' → (w'.cell? ⟨w.heap.size, 0, none⟩ = some (.slice Ap f.params.length cp) ∧ w'.cell? ⟨w.heap.size, 1, none⟩ = some (.int .i64 f.ret) ∧ w'.cell? ⟨w.heap.size, 2, none⟩ = some (.slice As f.slots.length cs) ∧ w'.cell? ⟨w.heap.size, 3, none⟩ = some (.slice Ab f.blocks.length cb))) :=
    fun w' q => ⟨(q.cell _ _ (by omega)).trans (cell_box _ _ 0 g0 rfl), (q.cell _ _ (by omega)).trans (cell_box _ _ 1 g0 rfl), (q.cell _ _ (by omega)).trans (cell_box _ _ 2 g0 rfl), (q.cell _ _ (by omega)).trans (cell_box _ _ 3 g0 rfl)⟩
  obtain ⟨k0, k1, k2, k3⟩ := B0.out W (Gr.refl _)
  obtain ⟨e, he⟩ : ∃ e, Ref.validate f = e := ⟨_, rfl⟩
  obtain ⟨vd, hvd⟩ : ∃ e, Ref.valuedR f z = e := ⟨_, rfl⟩
  obtain ⟨ct, hct⟩ : ∃ e, Ref.countR f = e := ⟨_, rfl⟩
  obtain ⟨wa, hwa⟩ : ∃ e, (Ref.whereR f z).1 = e := ⟨_, rfl⟩
  obtain ⟨wb, hwb⟩ : ∃ e, (Ref.whereR f z).2.1 = e := ⟨_, rfl⟩
  obtain ⟨wc, hwc⟩ : ∃ e, (Ref.whereR f z).2.2 = e := ⟨_, rfl⟩
  obtain ⟨kd, hkd⟩ : ∃ e, Ref.kindR f z = e := ⟨_, rfl⟩
  obtain ⟨lg, hlg⟩ : ∃ lg, longFn f = lg := ⟨_, rfl⟩
  rw [he, hct] at HC1 HC2
  rw [hwa, hwb, hwc, hvd] at HW1 HW2
  rw [hkd, hvd] at HK1 HK2
  rw [hvd] at HU1 HU2
  rw [hlg] at HL HC1 HC2 HW1 HW2 HK1 HK2 HU1 HU2
  clear he hlg hn g0 hvd hct hwa hwb hwc hkd
  cases lg with
  | true =>
    go_enter Try.func5, Try.ntmps5
    go_wp2_with (first
      | (go_at_call 8; refine (HL.out _ hB0).mono ?_; rintro e w1 ⟨rfl, g1⟩)
      | (go_at_call 9; refine (HKN.out _).mono ?_; rintro e w2 ⟨rfl, g2⟩))
    go_ret
    exact ⟨rfl, hB0.trans (g1.trans g2)⟩
  | false =>
    have IC1 := Lib.hid (HC1.out rfl)
    have IC2 := Lib.hid (HC2.out rfl)
    have IW1 := Lib.hid (HW1.out rfl)
    have IW2 := Lib.hid (HW2.out rfl)
    have IK1 := Lib.hid (HK1.out rfl)
    have IK2 := Lib.hid (HK2.out rfl)
    have IU1 := Lib.hid (HU1.out rfl)
    have IU2 := Lib.hid (HU2.out rfl)
    have s1 : (e == e) = true := by simp
    have s2 : (vd == vd) = true := by simp
    have s3 : (ct == ct) = true := by simp
    have s4 : (wa == wa) = true := by simp
    have s5 : (wb == wb) = true := by simp
    have s6 : (wc == wc) = true := by simp
    have s7 : (kd == kd) = true := by simp
    clear HC1 HC2 HW1 HW2 HK1 HK2 HU1 HU2
    go_enter Try.func5, Try.ntmps5
    go_wp2_with (first
      | (go_at_call 8; refine (HL.out _ hB0).mono ?_; rintro x1 w1 ⟨rfl, g1⟩; clear k0 k1 k2 k3; obtain ⟨k0, k1, k2, k3⟩ := B0.out _ g1)
      | (go_at_call 17; refine (IC1.out _ (hB0.trans g1)).mono ?_; rintro x2 w2 ⟨rfl, g2⟩; have q2 := g1.trans g2; clear k0 k1 k2 k3; obtain ⟨k0, k1, k2, k3⟩ := B0.out _ q2)
      | (go_at_call 18; refine (IC2.out _ (hB0.trans q2)).mono ?_; rintro x3 w3 ⟨rfl, g3⟩; have q3 := q2.trans g3; clear k0 k1 k2 k3; obtain ⟨k0, k1, k2, k3⟩ := B0.out _ q3)
      | (go_at_call 19; refine (IW1.out _ (hB0.trans q3)).mono ?_; rintro x4 w4 ⟨rfl, g4⟩; have q4 := q3.trans g4; clear k0 k1 k2 k3; obtain ⟨k0, k1, k2, k3⟩ := B0.out _ q4)
      | (go_at_call 20; refine (IW2.out _ (hB0.trans q4)).mono ?_; rintro x5 w5 ⟨rfl, g5⟩; have q5 := q4.trans g5; clear k0 k1 k2 k3; obtain ⟨k0, k1, k2, k3⟩ := B0.out _ q5)
      | (go_at_call 21; refine (IK1.out _ (hB0.trans q5)).mono ?_; rintro x6 w6 ⟨rfl, g6⟩; have q6 := q5.trans g6; clear k0 k1 k2 k3; obtain ⟨k0, k1, k2, k3⟩ := B0.out _ q6)
      | (go_at_call 22; refine (IK2.out _ (hB0.trans q6)).mono ?_; rintro x7 w7 ⟨rfl, g7⟩; have q7 := q6.trans g7; clear k0 k1 k2 k3; obtain ⟨k0, k1, k2, k3⟩ := B0.out _ q7)
      | (go_at_call 23; refine (IU1.out _ (hB0.trans q7)).mono ?_; rintro x8 w8 ⟨A8, n8, c8, rfl, T8, g8⟩; have q8 := q7.trans g8; clear k0 k1 k2 k3; obtain ⟨k0, k1, k2, k3⟩ := B0.out _ q8)
      | (go_at_call 24; refine (IU2.out _ (hB0.trans q8)).mono ?_; rintro x9 w9 ⟨A9, n9, c9, rfl, T9, g9⟩; have q9 := q8.trans g9)
      | (go_at_call 25; refine (HS.out _ _ _ (T8.out.gr g9) T9.out).mono ?_; rintro x10 w10 ⟨rfl, g10⟩; have q10 := q9.trans g10)
      | (go_at_call 9; refine (HKN.out _).mono ?_; rintro x11 w11 ⟨rfl, g11⟩; have q11 := q10.trans g11))
    all_goals go_ret
    all_goals exact ⟨rfl, hB0.trans q11⟩
end Go.Proofs.Ytiadpjhlomhjeaa

namespace Go.Proofs.Ytiadpjhlomhjeaa.values
open Go.ChangeShapes Go.WideShapes Go.ChangeAt Go.RowKit
set_option linter.unusedVariables false

theorem own : ownKnob Try.prog.godebug = none := by kernel_rfl
theorem laidOut : laidOutB Try.prog = true := by kernel_rfl

set_option maxRecDepth 100000 in
theorem lifted (os : Os) (started : os.Started) (H : Type) (enc : TypeId × Value → H) :
    ReturnsInHanded {} Try.checked os 5 .any (Rows.irValuesSpec.pre6 enc Try.prog Try.f5 Rows.irValuesRow.domain false) (Rows.irValuesSpec.post enc Try.prog Try.f5 false true false false) := by
  refine returnsInHanded_of_change_sized (C := Try.checked) own started (by kernel_rfl) Try.func5
    (ChangeSpec.witness6 (enc := enc) (C := Try.checked) false ⟨#[], #[.agg #[.slice none 0 0, .int .i64 0, .slice none 0 0, .slice none 0 0], .int .i64 0], []⟩ 8 (by kernel_rfl) (by kernel_rfl) (by kernel_rfl) (by kernel_rfl)) ?_
  intro W base args ds gs before hval0 hW hcnd0 hsz0 _
  have hval : ∀ (j : Nat) t v, (Try.f5).params[j]? = some t → args[j]? = some v → Value.okWide Try.prog W .any base t v := hval0
  have hsz : (DataW.weightsEach Try.prog ((Try.f5).params.toList ++ Rows.irValuesSpec.plain.varTypes Try.prog) (ds ++ gs)).all (· ≤ reachBytes) = true := hsz0
  have hW' := hW
  obtain ⟨p, q, hA0, hV, rfl, hfz, hnd⟩ := hW
  have hA : DataW.TrodAll enc Try.prog W 0 (fun _ => true) true (Try.f5).params.toList args.toList ds p := hA0
  rw [Try.params5] at hA hval hsz
  obtain ⟨v0, vs0, d0, ds0, p0, q0, hargs, rfl, rfl, h0, r0⟩ := trodAll_cons hA
  obtain ⟨v1, vs1, d1, ds1, p1, q1, rfl, rfl, rfl, h1, r1⟩ := trodAll_cons r0
  obtain ⟨rfl, rfl, rfl⟩ := trodAll_nil r1
  obtain rfl : args = #[v0, v1] := by cases args; simp_all
  obtain ⟨rfl, rfl⟩ := trodVars_none hV
  have k0 := h0
  have lt0 : ∀ x ∈ p0, x.block < W.heap.size := by obtain ⟨m, hm⟩ := k0; exact DataW.trod_lt m _ _ _ hm
  obtain ⟨f, hf, hs⟩ := fn_open (hval 0 25 v0 rfl rfl) h0 (fun m hm => by
    have := List.all_eq_true.1 hsz m (DataW.weights_mem_each (j := 0) (t := 25) rfl rfl m hm)
    simpa using this)
  obtain ⟨a1, rfl, rfl, rfl, w1⟩ := open_int Try.underlying3 (hval 1 3 v1 rfl rfl) h1
  have hb1 := bounds_i64 w1
  clear hA0 hval0 hsz0 hcnd0
  refine (lawValues_any v0 f a1 W hf (nice_of hs) hb1.1 hb1.2).mono fun e W' ⟨he, bel⟩ => ?_
  subst he
  exact ⟨_, rfl, _, _, _, [], _, [], hW', trodAll_mk1 (shut_bool Try.underlying4 _), (trodAll_cons_mk (Below.trod laidOut (by kernel_rfl) (of_decide_eq_true (by kernel_rfl)) k0 bel lt0) (trodAll_cons_mk (shut_int Try.underlying3 w1) trodAll_mk0)), rfl, bel.frame _, fun h => by cases h⟩

theorem over : Rows.irValuesRow.holds Try.pinned (OpenSpec.ofChange Rows.irValuesSpec) :=
  OpenClaim.holds_of_wide 5 Try.f5 rfl rfl rfl rfl rfl rfl rfl ⟨rfl, rfl, rfl, rfl, rfl⟩ rfl rfl rfl rfl rfl (by kernel_rfl) Try.func5 (by kernel_rfl)
    (of_decide_eq_true (by kernel_rfl)) (by unfold Func.isWrapper; first | (rw [if_pos (by decide +kernel)]; kernel_rfl) | (rw [if_neg (by decide +kernel)]; exact ⟨rfl, rfl⟩))
    (fun os started H enc _ => lifted os started H enc)

/-- THE STATEMENT. -/
theorem proved : Rows.IrValuesSaid := over
#print axioms proved
end Go.Proofs.Ytiadpjhlomhjeaa.values

/- Functions in memory of their own. -/
import Derived.Test.YtiadpjhlomhjeaaGreatIrLast
import Derived.Test.YtiadpjhlomhjeaaGreatZb
import Derived.Orders
import Derived.Lib.Hide

namespace Go.Proofs.YtiadpjhlomhjeaaGreat
open Go.RowKit

/-- Rows of numbers and of instructions lie as they lay. -/
def Kt (w w' : World) : Prop := ∀ (k : Nat) (c : Array Value) (t : TypeId), w.heap[k]? = some (Obj.cells c t (0, 0)) → (t = 3 ∨ t = 38) → w'.heap[k]? = some (Obj.cells c t (0, 0))
theorem Kt.refl (w : World) : Kt w w := fun _ _ _ h _ => h
theorem Kt.trans {a b c : World} (h : Kt a b) (k : Kt b c) : Kt a c := fun _ _ _ q t => k _ _ _ (h _ _ _ q t) t
theorem Gr.kt {a b : World} (h : Gr a b) : Kt a b := fun k _ _ q _ => (h.heap k (Array.getElem?_eq_some_iff.1 q).1).trans q

/-- v is a slice of the numbers zs in a row of its own from block n₀ on. -/
def TI (n₀ : Nat) (w : World) (v : Value) (zs : List Int) : Prop :=
  ∃ A c, v = .slice A zs.length c ∧ zs.length ≤ c ∧ zs.length ≤ 17592186044416 ∧ (0 < zs.length → ∃ (b : Nat) (cur : Array Value), A = some ⟨b, 0, none⟩ ∧ n₀ ≤ b ∧ w.heap[b]? = some (.cells cur 3 (0, 0)) ∧ ∀ (j : Nat) (z : Int), zs[j]? = some z → cur[j]? = some (.int .i64 z))
theorem TI.kt {n₀ : Nat} {w w' : World} {v : Value} {zs : List Int} (h : TI n₀ w v zs) (k : Kt w w') : TI n₀ w' v zs := by
  obtain ⟨A, c, rfl, h1, h2, h3⟩ := h
  refine ⟨A, c, rfl, h1, h2, fun hp => ?_⟩
  obtain ⟨b, cur, e, hb, hc, hz⟩ := h3 hp
  exact ⟨b, cur, e, hb, k _ _ _ hc (.inl rfl), hz⟩
theorem TI.gr {n₀ : Nat} {w w' : World} {v : Value} {zs : List Int} (h : TI n₀ w v zs) (k : Gr w w') : TI n₀ w' v zs := h.kt k.kt
theorem TI.lower {n₀ n₁ : Nat} {w : World} {v : Value} {zs : List Int} (h : TI n₁ w v zs) (k : n₀ ≤ n₁) : TI n₀ w v zs := by
  obtain ⟨A, c, rfl, h1, h2, h3⟩ := h
  refine ⟨A, c, rfl, h1, h2, fun hp => ?_⟩
  obtain ⟨b, cur, e, hb, hc⟩ := h3 hp
  exact ⟨b, cur, e, Nat.le_trans k hb, hc⟩
theorem TI.ints {n₀ : Nat} {w : World} {v : Value} {zs : List Int} (h : TI n₀ w v zs) : IntsAt w.heap.size w v zs := by
  obtain ⟨A, c, rfl, h1, h2, h3⟩ := h
  refine ⟨A, c, rfl, h1, h2, fun hp => ?_⟩
  obtain ⟨b, cur, rfl, hb, hc, hz⟩ := h3 hp
  exact ⟨b, 0, rfl, (Array.getElem?_eq_some_iff.1 hc).1, fun j z hj => by rw [Nat.zero_add, cell_of_row w b j cur _ _ hc]; exact hz j z hj⟩
theorem take_get {cur : Array Value} {n j : Nat} {xs : List Value} (h : cur.toList.take n = xs) (hj : j < n) : cur[j]? = xs[j]? := by
  rw [← h, List.getElem?_take, if_pos hj]; simp
theorem Own1.ti {B : Nat} {w : World} {v : Value} {zs : List Int} (h : Own1 B 3 w v (zs.map (Value.int .i64))) (hn : zs.length ≤ 17592186044416) : TI B w v zs := by
  rcases h.2 with ⟨rfl, h0⟩ | ⟨g, cap, cur, rfl, hb, hg, hnc, _, _, ht⟩
  · rw [List.length_map] at h0
    obtain rfl := List.eq_nil_of_length_eq_zero h0
    exact ⟨none, 0, rfl, by simp, by simp, by simp⟩
  · rw [List.length_map] at hnc ht
    refine ⟨_, cap, by rw [List.length_map], hnc, hn, fun hp => ⟨g, cur, rfl, hb, hg, fun j z hj => ?_⟩⟩
    have hjl := (List.getElem?_eq_some_iff.1 hj).1
    rw [take_get ht (by omega), List.getElem?_map, hj]; rfl

/-- The six cells of an instruction in a row. -/
def Six (n₀ : Nat) (w : World) (g : Nat → Option Value) (x : Ins) : Prop :=
  ∃ va vt, g 0 = some (.int .i64 x.op) ∧ g 1 = some (.int .i64 x.width) ∧ g 2 = some (.int .i64 x.flags) ∧ g 3 = some va ∧ g 4 = some (.int .u32 x.imm) ∧ g 5 = some vt ∧ TI n₀ w va x.args ∧ TI n₀ w vt x.to
theorem Six.kt {n₀ : Nat} {w w' : World} {g : Nat → Option Value} {x : Ins} (h : Six n₀ w g x) (k : Kt w w') : Six n₀ w' g x := by
  obtain ⟨va, vt, h0, h1, h2, h3, h4, h5, ha, ht⟩ := h
  exact ⟨va, vt, h0, h1, h2, h3, h4, h5, ha.kt k, ht.kt k⟩
theorem Six.lower {n₀ n₁ : Nat} {w : World} {g : Nat → Option Value} {x : Ins} (h : Six n₁ w g x) (k : n₀ ≤ n₁) : Six n₀ w g x := by
  obtain ⟨va, vt, h0, h1, h2, h3, h4, h5, ha, ht⟩ := h
  exact ⟨va, vt, h0, h1, h2, h3, h4, h5, ha.lower k, ht.lower k⟩
theorem Six.to {n₀ : Nat} {w : World} {g g' : Nat → Option Value} {x : Ins} (h : Six n₀ w g x) (k : ∀ i, i < 6 → g' i = g i) : Six n₀ w g' x := by
  obtain ⟨va, vt, h0, h1, h2, h3, h4, h5, ha, ht⟩ := h
  exact ⟨va, vt, (k 0 (by omega)).trans h0, (k 1 (by omega)).trans h1, (k 2 (by omega)).trans h2, (k 3 (by omega)).trans h3, (k 4 (by omega)).trans h4, (k 5 (by omega)).trans h5, ha, ht⟩

/-- v is a block of instructions in a row of its own from block n₀ on. -/
def TB (n₀ : Nat) (w : World) (v : Value) (l : List Ins) : Prop :=
  ∃ A c, v = .slice A l.length c ∧ l.length ≤ c ∧ l.length ≤ 17592186044416 ∧ (0 < l.length → ∃ (b : Nat) (cur : Array Value), A = some ⟨b, 0, none⟩ ∧ n₀ ≤ b ∧ w.heap[b]? = some (.cells cur 38 (0, 0)) ∧ ∀ (j : Nat) (x : Ins), l[j]? = some x → Six n₀ w (fun i => cur[j * 6 + i]?) x)
theorem TB.kt {n₀ : Nat} {w w' : World} {v : Value} {l : List Ins} (h : TB n₀ w v l) (k : Kt w w') : TB n₀ w' v l := by
  obtain ⟨A, c, rfl, h1, h2, h3⟩ := h
  refine ⟨A, c, rfl, h1, h2, fun hp => ?_⟩
  obtain ⟨b, cur, e, hb, hc, hz⟩ := h3 hp
  exact ⟨b, cur, e, hb, k _ _ _ hc (.inr rfl), fun j x hj => (hz j x hj).kt k⟩
theorem TB.gr {n₀ : Nat} {w w' : World} {v : Value} {l : List Ins} (h : TB n₀ w v l) (k : Gr w w') : TB n₀ w' v l := h.kt k.kt
theorem TB.lower {n₀ n₁ : Nat} {w : World} {v : Value} {l : List Ins} (h : TB n₁ w v l) (k : n₀ ≤ n₁) : TB n₀ w v l := by
  obtain ⟨A, c, rfl, h1, h2, h3⟩ := h
  refine ⟨A, c, rfl, h1, h2, fun hp => ?_⟩
  obtain ⟨b, cur, e, hb, hc, hz⟩ := h3 hp
  exact ⟨b, cur, e, Nat.le_trans k hb, hc, fun j x hj => (hz j x hj).lower k⟩
theorem TB.blk {n₀ : Nat} {w : World} {v : Value} {l : List Ins} (h : TB n₀ w v l) : BlkAt w.heap.size w v l := by
  obtain ⟨A, c, rfl, h1, h2, h3⟩ := h
  refine ⟨A, c, rfl, h1, h2, fun hp => ?_⟩
  obtain ⟨b, cur, rfl, hb, hc, hz⟩ := h3 hp
  refine ⟨b, 0, rfl, (Array.getElem?_eq_some_iff.1 hc).1, fun j x hj => ?_⟩
  obtain ⟨va, vt, q0, q1, q2, q3, q4, q5, ha, ht⟩ := hz j x hj
  have hcell : ∀ i, w.cell? ⟨b, 0 + j * 6 + i, none⟩ = cur[j * 6 + i]? := fun i => by rw [Nat.zero_add]; exact cell_of_row w b _ cur _ _ hc
  exact ⟨va, vt, (hcell 0).trans q0, (hcell 1).trans q1, (hcell 2).trans q2, (hcell 3).trans q3, (hcell 4).trans q4, (hcell 5).trans q5, ha.ints, ht.ints⟩

/-- v owns, in a row from block B on, the instructions l, whose own rows lie from block n₀ on. -/
def OwnI (n₀ B : Nat) (w : World) (v : Value) (l : List Ins) : Prop :=
  ∃ rows : List Value, w.ownsRow B 38 6 v l.length rows ∧ ∀ (j : Nat) (x : Ins), l[j]? = some x → Six n₀ w (fun i => rows[j * 6 + i]?) x
theorem OwnI.nil (n₀ B : Nat) (w : World) : OwnI n₀ B w (.slice none 0 0) [] := ⟨[], World.ownsRow_nil _ _ _ _, fun j x h => by simp at h⟩
theorem OwnI.gr {n₀ B : Nat} {w w' : World} {v : Value} {l : List Ins} (h : OwnI n₀ B w v l) (g : Gr w w') : OwnI n₀ B w' v l := by
  obtain ⟨rows, h1, h2⟩ := h
  exact ⟨rows, own_gr h1 g, fun j x hj => (h2 j x hj).kt g.kt⟩
theorem OwnI.tb {n₀ B : Nat} {w : World} {v : Value} {l : List Ins} (h : OwnI n₀ B w v l) (hn : l.length ≤ 17592186044416) (hB : n₀ ≤ B) : TB n₀ w v l := by
  obtain ⟨rows, h1, h2⟩ := h
  rcases h1.2 with ⟨rfl, h0⟩ | ⟨g, cap, cur, rfl, hb, hg, hnc, _, _, ht⟩
  · obtain rfl := List.eq_nil_of_length_eq_zero h0
    exact ⟨none, 0, rfl, by simp, by simp, by simp⟩
  · refine ⟨_, cap, rfl, hnc, hn, fun hp => ⟨g, cur, rfl, Nat.le_trans hB hb, hg, fun j x hj => ?_⟩⟩
    have hjl := (List.getElem?_eq_some_iff.1 hj).1
    exact (h2 j x hj).to fun i hi => take_get ht (by omega)
theorem OwnI.form {n₀ B : Nat} {w : World} {v : Value} {l : List Ins} (h : OwnI n₀ B w v l) : ∃ A c, v = .slice A l.length c := by
  obtain ⟨rows, h1, -⟩ := h
  obtain ⟨A, c, hv, _⟩ := own_form h1
  exact ⟨A, c, hv⟩
/-- One instruction more: what the append's law says, in these words. -/
theorem OwnI.snoc {n₀ B : Nat} {w w' : World} {v v' : Value} {l : List Ins} {x : Ins} {va vt : Value} {tmp : Obj} {rows : List Value} (h : OwnI n₀ B w v l) (hr : w.ownsRow B 38 6 v l.length rows) (h2 : ∀ (j : Nat) (x : Ins), l[j]? = some x → Six n₀ w (fun i => rows[j * 6 + i]?) x)
    (hown : w'.ownsRow B 38 6 v' (l.length + 1) (rows ++ [.int .i64 x.op, .int .i64 x.width, .int .i64 x.flags, va, .int .u32 x.imm, vt])) (hg : (w.alloc tmp).grownBy w' v.ownBlock) (ha : TI n₀ w va x.args) (ht : TI n₀ w vt x.to) (hB : B ≤ w.heap.size) :
    OwnI n₀ B w' v' (l ++ [x]) ∧ Below B w w' := by
  have hk : ∀ (k : Nat) (c : Array Value), w.heap[k]? = some (Obj.cells c 3 (0, 0)) → w'.heap[k]? = some (Obj.cells c 3 (0, 0)) := by
    intro k c hc
    have hlt := (Array.getElem?_eq_some_iff.1 hc).1
    refine (hg.block k (by simp; omega) (fun e => ?_)).trans ((((Gr.refl w).alloc tmp).heap k hlt).trans hc)
    rcases hr.2 with ⟨rfl, _⟩ | ⟨g, cap, cur, rfl, hb, hgg, _⟩
    · simp [Value.ownBlock] at e
    · simp [Value.ownBlock] at e; subst e
      rw [hgg] at hc; simp at hc
  have hti : ∀ {v : Value} {zs : List Int}, TI n₀ w v zs → TI n₀ w' v zs := by
    intro v zs q
    obtain ⟨A, c, rfl, q1, q2, q3⟩ := q
    refine ⟨A, c, rfl, q1, q2, fun hp => ?_⟩
    obtain ⟨b, cur, e, hb, hc, hz⟩ := q3 hp
    exact ⟨b, cur, e, hb, hk _ _ hc, hz⟩
  have hrl : rows.length = l.length * 6 := hr.1
  refine ⟨⟨_, by rw [List.length_append]; exact hown, fun j y hj => ?_⟩, ?_⟩
  · rcases Nat.lt_trichotomy j l.length with hjl | hjl | hjl
    · rw [List.getElem?_append_left hjl] at hj
      obtain ⟨ua, ut, q0, q1, q2, q3, q4, q5, qa, qt⟩ := h2 j y hj
      have : ∀ i, i < 6 → (rows ++ [Value.int .i64 x.op, .int .i64 x.width, .int .i64 x.flags, va, .int .u32 x.imm, vt])[j * 6 + i]? = rows[j * 6 + i]? := fun i hi => List.getElem?_append_left (by omega)
      exact Six.to ⟨ua, ut, q0, q1, q2, q3, q4, q5, hti qa, hti qt⟩ this
    · subst hjl
      simp at hj; subst hj
      have : ∀ i, i < 6 → (rows ++ [Value.int .i64 x.op, .int .i64 x.width, .int .i64 x.flags, va, .int .u32 x.imm, vt])[l.length * 6 + i]? = [Value.int .i64 x.op, .int .i64 x.width, .int .i64 x.flags, va, .int .u32 x.imm, vt][i]? := fun i hi => by
        rw [List.getElem?_append_right (by omega), hrl]; congr 1; omega
      exact Six.to ⟨va, vt, rfl, rfl, rfl, rfl, rfl, rfl, hti ha, hti ht⟩ this
    · rw [List.getElem?_eq_none (by simp; omega)] at hj; cases hj
  · have hb : ∀ k, v.ownBlock = some k → B ≤ k := fun k hk => (own_block_lt hr k hk).1
    exact (((Below.refl B w).alloc hB tmp)).grown hg (by simp; omega) (fun k hk => hb k hk)
end Go.Proofs.YtiadpjhlomhjeaaGreat

namespace Go.Proofs.YtiadpjhlomhjeaaGreat
open Go.RowKit

theorem heap_setCell_ne' {W : World} {B i C : Nat} (v : Value) (h : B ≠ C) : (W.setCell ⟨B, i, none⟩ v).heap[C]? = W.heap[C]? := by
  show (W.heap.modify B _)[C]? = _
  rw [Array.getElem?_modify, if_neg h]
theorem results_inst (fn : Func) (tmps : Array Value) (t : Nat) (w : World) (B : Nat) (v0 v1 v2 v3 v4 v5 : Value) (fr : Nat × Nat) (h : fn.results = #[.cell t 38]) (ht : tmps[t]?.getD undef = .pointer (some ⟨B, 0, none⟩)) (hb : w.heap[B]? = some (.cells #[v0, v1, v2, v3, v4, v5] 38 fr))
    (o0 : ∃ z, v0 = .int .i64 z) (o1 : ∃ z, v1 = .int .i64 z) (o2 : ∃ z, v2 = .int .i64 z) (o3 : ∃ a n c, v3 = .slice a n c) (o4 : ∃ z, v4 = .int .u32 z) (o5 : ∃ a n c, v5 = .slice a n c) :
    (results fn tmps).run Tryz.prog w = .ok (.agg #[v0, v1, v2, v3, v4, v5]) w := by
  have k0 := cell_of_row _ _ 0 _ _ _ hb
  have k1 := cell_of_row _ _ 1 _ _ _ hb
  have k2 := cell_of_row _ _ 2 _ _ _ hb
  have k3 := cell_of_row _ _ 3 _ _ _ hb
  have k4 := cell_of_row _ _ 4 _ _ _ hb
  have k5 := cell_of_row _ _ 5 _ _ _ hb
  obtain ⟨z0, rfl⟩ := o0
  obtain ⟨z1, rfl⟩ := o1
  obtain ⟨z2, rfl⟩ := o2
  obtain ⟨a3, n3, c3, rfl⟩ := o3
  obtain ⟨z4, rfl⟩ := o4
  obtain ⟨a5, n5, c5, rfl⟩ := o5
  simp [results, h, ht, go_sem, k0, k1, k2, k3, k4, k5]
/-- Six stores into a row of six. -/
theorem six_stores {W : World} {B : Nat} {u0 u1 u2 u3 u4 u5 : Value} {T : TypeId} {fr : Nat × Nat} (h : W.heap[B]? = some (.cells #[u0, u1, u2, u3, u4, u5] T fr)) (v0 v1 v2 v3 v4 v5 : Value) :
    ((((((W.setCell ⟨B, 0, none⟩ v0).setCell ⟨B, 1, none⟩ v1).setCell ⟨B, 2, none⟩ v2).setCell ⟨B, 3, none⟩ v3).setCell ⟨B, 4, none⟩ v4).setCell ⟨B, 5, none⟩ v5).heap[B]? = some (.cells #[v0, v1, v2, v3, v4, v5] T fr) := by
  have := heap_setCell_at (i := 5) v5 (heap_setCell_at (i := 4) v4 (heap_setCell_at (i := 3) v3 (heap_setCell_at (i := 2) v2 (heap_setCell_at (i := 1) v1 (heap_setCell_at (i := 0) v0 h)))))
  simpa using this
theorem six_kt {W : World} {B : Nat} {n₀ : Nat} {row : Array Value} {T : TypeId} {fr : Nat × Nat} {v : Value} {zs : List Int} (hb : W.heap[B]? = some (.cells row T fr)) (h : TI n₀ W v zs) (hT : T ≠ 3) (v0 v1 v2 v3 v4 v5 : Value) :
    TI n₀ ((((((W.setCell ⟨B, 0, none⟩ v0).setCell ⟨B, 1, none⟩ v1).setCell ⟨B, 2, none⟩ v2).setCell ⟨B, 3, none⟩ v3).setCell ⟨B, 4, none⟩ v4).setCell ⟨B, 5, none⟩ v5) v zs := by
  obtain ⟨A, c, rfl, h1, h2, h3⟩ := h
  refine ⟨A, c, rfl, h1, h2, fun hp => ?_⟩
  obtain ⟨b, cur, e, hb', hc, hz⟩ := h3 hp
  have hne : B ≠ b := fun e' => by rw [e', hc] at hb; cases hb; exact hT rfl
  refine ⟨b, cur, e, hb', ?_, hz⟩
  rw [heap_setCell_ne' _ hne, heap_setCell_ne' _ hne, heap_setCell_ne' _ hne, heap_setCell_ne' _ hne, heap_setCell_ne' _ hne, heap_setCell_ne' _ hne]
  exact hc
/-- A row of numbers lies as it lay behind a store into a block of another type. -/
theorem TI.cell_inst {n₀ : Nat} {W : World} {B : Nat} {row : Array Value} {T : TypeId} {fr : Nat × Nat} {v : Value} {zs : List Int} (hb : W.heap[B]? = some (.cells row T fr)) (h : TI n₀ W v zs) (hT : T ≠ 3) (i : Nat) (u : Value) : TI n₀ (W.setCell ⟨B, i, none⟩ u) v zs := by
  obtain ⟨A, c, rfl, h1, h2, h3⟩ := h
  refine ⟨A, c, rfl, h1, h2, fun hp => ?_⟩
  obtain ⟨b, cur, e, hb', hc, hz⟩ := h3 hp
  refine ⟨b, cur, e, hb', (heap_setCell_ne' u (fun e' => ?_)).trans hc, hz⟩
  rw [e', hc] at hb; cases hb; exact hT rfl

end Go.Proofs.YtiadpjhlomhjeaaGreat

namespace Go.Proofs.YtiadpjhlomhjeaaGreat
open Go.RowKit

theorem info_inst : (Tryz.prog.info? 38).map (fun i => (i.zero, i.size, i.bytes)) = some (some (.agg #[.int .i64 0, .int .i64 0, .int .i64 0, .slice none 0 0, .int .u32 0, .slice none 0 0]), 6, 80) := by kernel_rfl
theorem info_blk : (Tryz.prog.info? 35).map (fun i => (i.zero, i.size, i.bytes)) = some (some (.slice none 0 0), 1, 24) := by kernel_rfl

/-- One instruction more, which has just been laid in a block of its own. -/
theorem app6 {P : Program} {w : World} {ops : Array Oper} {rest : List Oper} {o : Oper} {a : Act} {Q : Exit → Act → World → Prop} {B : Nat} {t e : TypeId} {i : TypeInfo} {z : Value} {bytes : Nat}
    (ht : P.underlying t = some (.slice e)) (hi : P.info? e = some i) (hz : i.zero = some z) (hsize : i.size = 6) (hby : i.bytes = bytes) (hzs : z.cells.size = 6) (hbb : bytes ≤ 128)
    (hgd : o.guard = none) (s x : Operand) (ho : o.op = .call { callee := .builtin .append, args := #[s, x], argTypes := #[t, t] })
    {v : Value} {n : Nat} {rows : List Value} (hs : a.eval s = v) (hown : w.ownsRow B e 6 v n rows) {y0 y1 y2 y3 y4 y5 : Value} {e' : TypeId} (hy : ∀ y ∈ [y0, y1, y2, y3, y4, y5], y.oneCell' = true) (hx : a.eval x = .slice (some ⟨w.heap.size, 0, none⟩) 1 1) (hlt : n < 1099511627776) (hB : B ≤ w.heap.size)
    (h : ∀ A c w', w'.ownsRow B e 6 (.slice A (n + 1) c) (n + 1) (rows ++ [y0, y1, y2, y3, y4, y5]) → (w.alloc (.cells #[y0, y1, y2, y3, y4, y5] e')).grownBy w' v.ownBlock → wpList P ops Q rest (a.put o.dst (.slice A (n + 1) c)) w') :
    wpList P ops Q (o :: rest) a (w.alloc (.cells #[y0, y1, y2, y3, y4, y5] e')) := by
  refine wpList_append_src hgd s x t ho B e i z 6 bytes ht hi hz hsize hby hzs (by omega) v n rows hs (own_gr hown ((Gr.refl _).alloc _)) _ 1 [y0, y1, y2, y3, y4, y5] hx (Src.newN w [y0, y1, y2, y3, y4, y5] e') hy ?_ ?_ ?_ ?_
  · simp only [maxLen]; omega
  · have : (n + 1) * bytes ≤ (n + 1) * 128 := Nat.mul_le_mul_left _ hbb
    omega
  · simp; omega
  · intro v' w' hown' hg _
    obtain ⟨A, c, hv, _⟩ := own_form hown'
    subst hv
    exact h A c w' hown' hg

/-- What the loop over the blocks keeps: of the first k blocks a copy lies in the box Bo; the boxes of the function and of the result lie as they lay. -/
def CInv (w wb : World) (Bo : Nat) (f : Fn) (vp vs : Value) (row : Array Value) (k : Nat) (vb : Value) (wr : World) : Prop :=
  ∃ us : List Value, wr.heap[Bo]? = some (.cells #[vp, .int .i64 f.ret, vs, vb] 25 (0, 0)) ∧ Own1 wb.heap.size 35 wr vb us ∧ us.length = k ∧ (∀ (j : Nat) (l : List Ins), j < k → f.blocks[j]? = some l → ∃ u, us[j]? = some u ∧ TB w.heap.size wr u l) ∧
    TI w.heap.size wr vp f.params ∧ TI w.heap.size wr vs f.slots ∧ Gr w wr ∧ wr.heap[w.heap.size]? = some (.cells row 25 (0, 0)) ∧ wr.heap[w.heap.size + 1]? = some (.cells #[.slice none 0 0, .int .i64 0, .slice none 0 0, .slice none 0 0] 25 (0, 0)) ∧
    wb.heap.size ≤ wr.heap.size ∧ w.heap.size + 1 < Bo ∧ w.heap.size ≤ wb.heap.size
section
variable {w wb wr wr' : World} {Bo : Nat} {f : Fn} {vp vs vb : Value} {row : Array Value} {k : Nat}
theorem CInv.gr (h : CInv w wb Bo f vp vs row k vb wr) (g : Gr wr wr') : CInv w wb Bo f vp vs row k vb wr' := by
  obtain ⟨us, h1, h2, h3, h4, h5, h6, h7, h8, h9, h10, h11, h12⟩ := h
  have hh : ∀ {b : Nat} {o : Obj}, wr.heap[b]? = some o → wr'.heap[b]? = some o := fun q => (g.heap _ (Array.getElem?_eq_some_iff.1 q).1).trans q
  refine ⟨us, hh h1, h2.gr g, h3, fun j l hj hl => ?_, h5.gr g, h6.gr g, h7.trans g, hh h8, hh h9, Nat.le_trans h10 g.size, h11, h12⟩
  obtain ⟨u, q1, q2⟩ := h4 j l hj hl
  exact ⟨u, q1, q2.gr g⟩
theorem CInv.box (h : CInv w wb Bo f vp vs row k vb wr) : wr.heap[Bo]? = some (.cells #[vp, .int .i64 f.ret, vs, vb] 25 (0, 0)) := h.choose_spec.1
theorem CInv.toGr (h : CInv w wb Bo f vp vs row k vb wr) : Gr w wr := by obtain ⟨us, -, -, -, -, -, -, h7, -⟩ := h; exact h7
theorem CInv.src (h : CInv w wb Bo f vp vs row k vb wr) : wr.heap[w.heap.size]? = some (.cells row 25 (0, 0)) := by obtain ⟨us, -, -, -, -, -, -, -, h8, -⟩ := h; exact h8
theorem CInv.res (h : CInv w wb Bo f vp vs row k vb wr) : wr.heap[w.heap.size + 1]? = some (.cells #[.slice none 0 0, .int .i64 0, .slice none 0 0, .slice none 0 0] 25 (0, 0)) := by obtain ⟨us, -, -, -, -, -, -, -, -, h9, -⟩ := h; exact h9
theorem CInv.form (h : CInv w wb Bo f vp vs row k vb wr) : ∃ A c, vb = .slice A k c := by
  obtain ⟨us, -, h2, h3, -⟩ := h
  obtain ⟨A, c, e⟩ := h2.form
  exact ⟨A, c, by rw [e, h3]⟩
/-- 'out.Blocks = append(out.Blocks, block)'. -/
theorem CInv.append {ops : Array Oper} {rest : List Oper} {o : Oper} {a : Act} {Q : Exit → Act → World → Prop} {i : TypeInfo} {z u : Value} {l : List Ins} (h : CInv w wb Bo f vp vs row k vb wr) (hu : TB w.heap.size wr u l) (hl : f.blocks[k]? = some l) (hk : k < 1000000000)
    (hi : Tryz.prog.info? 35 = some i) (hz : i.zero = some z) (hsize : i.size = 1) (hby : i.bytes = 24) (hzs : z.cells.size = 1)
    (hgd : o.guard = none) (s x : Operand) (ho : o.op = .call { callee := .builtin .append, args := #[s, x], argTypes := #[23, 23] }) (hs : a.eval s = vb) (hx : a.eval x = .slice (some ⟨wr.heap.size, 0, none⟩) 1 1) {e' : TypeId}
    (hK : ∀ g c w1, w1.heap[Bo]? = some (.cells #[vp, .int .i64 f.ret, vs, vb] 25 (0, 0)) → CInv w wb Bo f vp vs row (k + 1) (.slice (some ⟨g, 0, none⟩) (k + 1) c) (w1.setCell ⟨Bo, 3, none⟩ (.slice (some ⟨g, 0, none⟩) (k + 1) c)) → wpList Tryz.prog ops Q rest (a.put o.dst (.slice (some ⟨g, 0, none⟩) (k + 1) c)) w1) :
    wpList Tryz.prog ops Q (o :: rest) a (wr.alloc (.cells #[u] e')) := by
  obtain ⟨us, h1, h2, h3, h4, h5, h6, h7, h8, h9, h10, h11, h12⟩ := h
  have hu0 := hu
  obtain ⟨Au, cu, rfl, -, -, -⟩ := hu
  refine wpList_append_src hgd s x 23 ho wb.heap.size 35 i z 1 24 Tryz.underlying23 hi hz hsize hby hzs (by omega) vb us.length us hs (own_gr h2 ((Gr.refl _).alloc _)) _ 1 [.slice Au l.length cu] hx (Src.new1 _ _ _) ?_ ?_ ?_ ?_ ?_
  · intro y hy; simp at hy; subst hy; rfl
  · simp only [maxLen]; omega
  · omega
  · simp; omega
  · intro v' w1 hown' hg hat
    obtain ⟨g, c, rfl⟩ := ownsRow_succ hown'
    have hown2 : Own1 wb.heap.size 35 w1 (.slice (some ⟨g, 0, none⟩) (us.length + 1) c) (us ++ [.slice Au l.length cu]) := by unfold Own1; rw [List.length_append]; exact hown'
    obtain ⟨m1, m2, m3, m4, m5, m6, m7, m8⟩ := field_append (i := 3) (n₀ := wb.heap.size) (ys := us ++ [.slice Au l.length cu]) h1 (by decide) h2 hown2 hg hat
    rw [h3] at hown2 m2 m3 m7 m8 ⊢
    have hsz1 : wr.heap.size ≤ w1.heap.size := by have := hg.size; simp at this; omega
    have hkt : Kt wr (w1.setCell ⟨Bo, 3, none⟩ (.slice (some ⟨g, 0, none⟩) (k + 1) c)) := fun b cc t hb ht => m8 b cc t hb (by rcases ht with rfl | rfl <;> decide) (fun e => by
      rw [e, h1] at hb; rcases ht with rfl | rfl <;> cases hb)
    refine hK g c w1 m1 ⟨us ++ [.slice Au l.length cu], m2, m3, by simp [h3], fun j l' hj hl' => ?_, h5.kt hkt, h6.kt hkt, h7.below (m7 w.heap.size h12 (by omega) h7.size) (Nat.le_refl _), m8 _ _ _ h8 (by decide) (by omega), m8 _ _ _ h9 (by decide) (by omega), ?_, h11, h12⟩
    · rcases Nat.lt_or_ge j k with hjk | hjk
      · obtain ⟨u', q1, q2⟩ := h4 j l' hjk hl'
        exact ⟨u', by rw [List.getElem?_append_left (by omega)]; exact q1, q2.kt hkt⟩
      · obtain rfl : j = k := by omega
        rw [hl] at hl'; cases hl'
        exact ⟨_, by rw [← h3]; simp, hu0.kt hkt⟩
    · have := (KeepsWalks.setCell w1 ⟨Bo, 3, none⟩ (.slice (some ⟨g, 0, none⟩) (k + 1) c)).size
      omega

/-- v is a copy of f: in rows of its own from block n₀ on. -/
def CpAt (n₀ : Nat) (w : World) (v : Value) (f : Fn) : Prop :=
  ∃ vp vs vb us, v = .agg #[vp, .int .i64 f.ret, vs, vb] ∧ TI n₀ w vp f.params ∧ TI n₀ w vs f.slots ∧ Own1 n₀ 35 w vb us ∧ us.length = f.blocks.length ∧ ∀ (j : Nat) (l : List Ins), f.blocks[j]? = some l → ∃ u, us[j]? = some u ∧ TB n₀ w u l
theorem Own1.lower' {B B' : Nat} {e : TypeId} {w : World} {v : Value} {xs : List Value} (h : Own1 B' e w v xs) (hB : B ≤ B') : Own1 B e w v xs := h.lower hB
theorem CpAt.fn {n₀ : Nat} {v : Value} (h : CpAt n₀ w v f) (hn : f.blocks.length ≤ 17592186044416) : FnAt w.heap.size w v f := by
  obtain ⟨vp, vs, vb, us, rfl, h1, h2, h3, h4, h5⟩ := h
  refine ⟨vp, vs, vb, rfl, h1.ints, h2.ints, ?_⟩
  obtain ⟨A, c, hv, hc, _, _⟩ := own_form h3
  refine ⟨A, c, by rw [hv, h4], by omega, hn, fun hp => ?_⟩
  obtain ⟨b, rfl, hb, _, hcell⟩ := own_cells h3 hv (by omega)
  refine ⟨b, 0, rfl, hb, fun j l hl => ?_⟩
  obtain ⟨u, q1, q2⟩ := h5 j l hl
  have hj := (List.getElem?_eq_some_iff.1 hl).1
  exact ⟨u, by rw [Nat.zero_add, hcell j (by omega), q1], q2.blk⟩
end
end Go.Proofs.YtiadpjhlomhjeaaGreat

namespace Go.Proofs.YtiadpjhlomhjeaaGreat
open Go.RowKit

theorem results_fn (fn : Func) (tmps : Array Value) (t : Nat) (w : World) (B : Nat) (v0 v1 v2 v3 : Value) (fr : Nat × Nat) (h : fn.results = #[.cell t 25]) (ht : tmps[t]?.getD undef = .pointer (some ⟨B, 0, none⟩)) (hb : w.heap[B]? = some (.cells #[v0, v1, v2, v3] 25 fr))
    (o0 : ∃ a n c, v0 = .slice a n c) (o1 : ∃ z, v1 = .int .i64 z) (o2 : ∃ a n c, v2 = .slice a n c) (o3 : ∃ a n c, v3 = .slice a n c) :
    (results fn tmps).run Tryz.prog w = .ok (.agg #[v0, v1, v2, v3]) w := by
  have k0 := cell_of_row _ _ 0 _ _ _ hb
  have k1 := cell_of_row _ _ 1 _ _ _ hb
  have k2 := cell_of_row _ _ 2 _ _ _ hb
  have k3 := cell_of_row _ _ 3 _ _ _ hb
  obtain ⟨a0, n0, c0, rfl⟩ := o0
  obtain ⟨z1, rfl⟩ := o1
  obtain ⟨a2, n2, c2, rfl⟩ := o2
  obtain ⟨a3, n3, c3, rfl⟩ := o3
  simp [results, h, ht, go_sem, k0, k1, k2, k3]
theorem four_stores {W : World} {B : Nat} {u0 u1 u2 u3 : Value} {T : TypeId} {fr : Nat × Nat} (h : W.heap[B]? = some (.cells #[u0, u1, u2, u3] T fr)) (v0 v1 v2 v3 : Value) :
    ((((W.setCell ⟨B, 0, none⟩ v0).setCell ⟨B, 1, none⟩ v1).setCell ⟨B, 2, none⟩ v2).setCell ⟨B, 3, none⟩ v3).heap[B]? = some (.cells #[v0, v1, v2, v3] T fr) := by
  have := heap_setCell_at (i := 3) v3 (heap_setCell_at (i := 2) v2 (heap_setCell_at (i := 1) v1 (heap_setCell_at (i := 0) v0 h)))
  simpa using this
theorem four_other {W : World} {B k : Nat} (v0 v1 v2 v3 : Value) (h : B ≠ k) : ((((W.setCell ⟨B, 0, none⟩ v0).setCell ⟨B, 1, none⟩ v1).setCell ⟨B, 2, none⟩ v2).setCell ⟨B, 3, none⟩ v3).heap[k]? = W.heap[k]? := by
  rw [heap_setCell_ne' _ h, heap_setCell_ne' _ h, heap_setCell_ne' _ h, heap_setCell_ne' _ h]
theorem four_kt {W : World} {B : Nat} {row : Array Value} {fr : Nat × Nat} (hb : W.heap[B]? = some (.cells row 25 fr)) (v0 v1 v2 v3 : Value) : Kt W ((((W.setCell ⟨B, 0, none⟩ v0).setCell ⟨B, 1, none⟩ v1).setCell ⟨B, 2, none⟩ v2).setCell ⟨B, 3, none⟩ v3) := by
  intro k c t hk ht
  rw [four_other _ _ _ _ (fun e => by rw [e, hk] at hb; rcases ht with rfl | rfl <;> cases hb)]
  exact hk
theorem four_gr {w W : World} {B : Nat} (h : Gr w W) (hB : w.heap.size ≤ B) (v0 v1 v2 v3 : Value) : Gr w ((((W.setCell ⟨B, 0, none⟩ v0).setCell ⟨B, 1, none⟩ v1).setCell ⟨B, 2, none⟩ v2).setCell ⟨B, 3, none⟩ v3) := by
  iterate 4 refine Gr.setCell ?_ hB _
  exact h
theorem four_size (W : World) (B : Nat) (v0 v1 v2 v3 : Value) : ((((W.setCell ⟨B, 0, none⟩ v0).setCell ⟨B, 1, none⟩ v1).setCell ⟨B, 2, none⟩ v2).setCell ⟨B, 3, none⟩ v3).heap.size = W.heap.size := by simp

section
variable {w W wl : World} {Bo : Nat} {f : Fn} {vp vs : Value} {row : Array Value}
/-- The box has been laid ahead of the last of the calls, and written behind them. -/
theorem CInv.start (hB0 : Gr w W) (hr0 : W.heap[w.heap.size]? = some (.cells row 25 (0, 0))) (hr1 : W.heap[w.heap.size + 1]? = some (.cells #[.slice none 0 0, .int .i64 0, .slice none 0 0, .slice none 0 0] 25 (0, 0))) (gl : Gr W wl)
    (hbx : wl.heap[Bo]? = some (.cells #[.slice none 0 0, .int .i64 0, .slice none 0 0, .slice none 0 0] 25 (0, 0))) (hBo : w.heap.size + 1 < Bo) (ta : TI w.heap.size wl vp f.params) (tt : TI w.heap.size wl vs f.slots) :
    CInv w ((((wl.setCell ⟨Bo, 0, none⟩ vp).setCell ⟨Bo, 1, none⟩ (.int .i64 f.ret)).setCell ⟨Bo, 2, none⟩ vs).setCell ⟨Bo, 3, none⟩ (.slice none 0 0)) Bo f vp vs row 0 (.slice none 0 0) ((((wl.setCell ⟨Bo, 0, none⟩ vp).setCell ⟨Bo, 1, none⟩ (.int .i64 f.ret)).setCell ⟨Bo, 2, none⟩ vs).setCell ⟨Bo, 3, none⟩ (.slice none 0 0)) := by
  have hk := four_kt hbx vp (.int .i64 f.ret) vs (.slice none 0 0)
  have hg := four_gr (hB0.trans gl) (B := Bo) (by omega) vp (.int .i64 f.ret) vs (.slice none 0 0)
  exact ⟨[], four_stores hbx _ _ _ _, Own1.nil _ _ _, rfl, fun j l h => by omega, ta.kt hk, tt.kt hk, hg,
    (four_other _ _ _ _ (by omega)).trans ((gl.heap _ (Array.getElem?_eq_some_iff.1 hr0).1).trans hr0), (four_other _ _ _ _ (by omega)).trans ((gl.heap _ (Array.getElem?_eq_some_iff.1 hr1).1).trans hr1), Nat.le_refl _, hBo, hg.size⟩
/-- The box is laid last. -/
theorem CInv.start' (hB0 : Gr w W) (hr0 : W.heap[w.heap.size]? = some (.cells row 25 (0, 0))) (hr1 : W.heap[w.heap.size + 1]? = some (.cells #[.slice none 0 0, .int .i64 0, .slice none 0 0, .slice none 0 0] 25 (0, 0))) (gl : Gr W wl)
    (ta : TI w.heap.size wl vp f.params) (tt : TI w.heap.size wl vs f.slots) :
    CInv w (wl.alloc (.cells #[vp, .int .i64 f.ret, vs, .slice none 0 0] 25)) wl.heap.size f vp vs row 0 (.slice none 0 0) (wl.alloc (.cells #[vp, .int .i64 f.ret, vs, .slice none 0 0] 25)) := by
  have ga : Gr wl (wl.alloc (.cells #[vp, .int .i64 f.ret, vs, .slice none 0 0] 25)) := (Gr.refl _).alloc _
  have hg := hB0.trans (gl.trans ga)
  have h1 := (Array.getElem?_eq_some_iff.1 hr1).1
  have h2 := gl.size
  exact ⟨[], heap_alloc_new _ _, Own1.nil _ _ _, rfl, fun j l h => by omega, ta.gr ga, tt.gr ga, hg,
    ((gl.trans ga).heap _ (Array.getElem?_eq_some_iff.1 hr0).1).trans hr0, ((gl.trans ga).heap _ (Array.getElem?_eq_some_iff.1 hr1).1).trans hr1, Nat.le_refl _, by omega, hg.size⟩
/-- The copy is handed on through the result's box. -/
theorem CInv.done {wb wr : World} {vb : Value} (h : CInv w wb Bo f vp vs row f.blocks.length vb wr) :
    CpAt w.heap.size ((((wr.setCell ⟨w.heap.size + 1, 0, none⟩ vp).setCell ⟨w.heap.size + 1, 1, none⟩ (.int .i64 f.ret)).setCell ⟨w.heap.size + 1, 2, none⟩ vs).setCell ⟨w.heap.size + 1, 3, none⟩ vb) (.agg #[vp, .int .i64 f.ret, vs, vb]) f ∧
    Gr w ((((wr.setCell ⟨w.heap.size + 1, 0, none⟩ vp).setCell ⟨w.heap.size + 1, 1, none⟩ (.int .i64 f.ret)).setCell ⟨w.heap.size + 1, 2, none⟩ vs).setCell ⟨w.heap.size + 1, 3, none⟩ vb) := by
  obtain ⟨us, h1, h2, h3, h4, h5, h6, h7, h8, h9, h10, h11, h12⟩ := h
  have hk := four_kt h9 vp (.int .i64 f.ret) vs vb
  refine ⟨⟨vp, vs, vb, us, rfl, h5.kt hk, h6.kt hk, ?_, h3, fun j l hl => ?_⟩, four_gr h7 (by omega) _ _ _ _⟩
  · refine (h2.lower h12).keep fun k hk => four_other _ _ _ _ (fun e => ?_)
    obtain ⟨-, -, cur, hc⟩ := h2.typed hk
    rw [← e, h9] at hc; cases hc
  · obtain ⟨u, q1, q2⟩ := h4 j l (List.getElem?_eq_some_iff.1 hl).1 hl
    exact ⟨u, q1, q2.kt hk⟩
end

end Go.Proofs.YtiadpjhlomhjeaaGreat

namespace Go.Proofs.YtiadpjhlomhjeaaGreat
open Go.RowKit

/-- Each operation waits for earlier ones alone. -/
def backB (l : List Oper) : Bool := (List.range l.length).all fun i => ((l[i]?).map fun o => o.after.all fun e => !Region.binds .any e || decide (e.on < i)).getD true
theorem backB_spec {l : List Oper} (h : backB l = true) {i : Nat} {o : Oper} (hi : l[i]? = some o) : ∀ e ∈ o.after, Region.binds .any e = true → e.on < i := by
  intro e he hb
  have hlt := (List.getElem?_eq_some_iff.1 hi).1
  have h1 := List.all_eq_true.1 h i (List.mem_range.2 hlt)
  rw [hi] at h1
  simp only [Option.map_some, Option.getD_some] at h1
  rw [Array.all_eq_true_iff_forall_mem] at h1
  have := h1 e he
  rw [hb] at this
  simpa using this
theorem getD_tt {listed : Array Bool} {i : Nat} (hi : i < listed.size) : (listed.getD i true = false ↔ listed.getD i false = false) := by
  simp [hi]

section
variable {P : Program} {Q : Exit → Act → World → Prop}
theorem wpAny_inv {l : List Oper} (hdep : backB l = true) (J : Array Bool → Act → World → Prop)
    (hstep : ∀ (i : Nat) (o : Oper) (listed : Array Bool) (a : Act) (w : World), l[i]? = some o → listed.size = l.length → listed.getD i false = false → (∀ e ∈ o.after, Region.binds .any e = true → listed.getD e.on false = true) → J listed a w →
      if Region.wanted o (yielded l.toArray a.tmps) = true then o.wp P a w (J (listed.setIfInBounds i true)) Q else J (listed.setIfInBounds i true) (a.put o.dst undef) w)
    (hdone : ∀ (listed : Array Bool) (a : Act) (w : World), (∀ i, i < l.length → listed.getD i false = true) → J listed a w → Q .normal a w) :
    ∀ (fuel : Nat) (listed : Array Bool) (a : Act) (w : World), listed.size = l.length → listed.toList.count false = fuel → J listed a w → wpAny P .any l.toArray Q fuel listed a w := by
  have hall : ∀ (listed : Array Bool), listed.size = l.length → Region.ready .any l.toArray listed = [] → ∀ i, i < l.length → listed.getD i false = true := by
    intro listed hsz hr i
    induction i using Nat.strongRecOn with
    | ind i ih =>
      intro hi
      cases hb : listed.getD i false with
      | true => rfl
      | false =>
        obtain ⟨o, ho⟩ : ∃ o, l[i]? = some o := ⟨_, List.getElem?_eq_getElem hi⟩
        have hm : i ∈ Region.ready .any l.toArray listed := mem_ready.2 ⟨(getD_tt (by omega)).2 hb, o, by simpa using ho, fun e he hbd => by
          have hlt := backB_spec hdep ho e he hbd
          exact ih e.on hlt (by omega)⟩
        rw [hr] at hm; cases hm
  intro fuel
  induction fuel with
  | zero =>
    intro listed a w hsz hc hJ
    have hr : Region.ready .any l.toArray listed = [] := by
      apply List.eq_nil_iff_forall_not_mem.2
      intro i hi
      obtain ⟨h1, -⟩ := mem_ready.1 hi
      have hlt : i < listed.size := by
        rcases Nat.lt_or_ge i listed.size with h | h
        · exact h
        · simp [Array.getElem?_eq_none h] at h1
      have : false ∈ listed.toList := by
        have e : listed[i] = false := by simpa [hlt] using h1
        rw [← e]; simp
      exact absurd this (List.count_eq_zero.1 hc)
    exact ⟨hr, hdone _ _ _ (hall _ hsz hr) hJ⟩
  | succ fuel ih =>
    intro listed a w hsz hc hJ
    refine ⟨fun hr => hdone _ _ _ (hall _ hsz hr) hJ, fun i hi => ?_⟩
    obtain ⟨h1, o, ho, hafter⟩ := mem_ready.1 hi
    have hlt : i < listed.size := by
      rcases Nat.lt_or_ge i listed.size with h | h
      · exact h
      · simp [Array.getElem?_eq_none h] at h1
    have he : listed[i] = false := by simpa [hlt] using h1
    have hc' : (listed.setIfInBounds i true).toList.count false = fuel := by
      rw [Array.toList_setIfInBounds, List.count_set (by simpa using hlt)]
      simp [he, hc]
    have hs := hstep i o listed a w (by simpa using ho) hsz ((getD_tt hlt).1 h1) hafter hJ
    unfold wpOp
    rw [ho]
    dsimp only
    split
    · next hw =>
      rw [if_pos hw] at hs
      exact .inl (Oper.wp_mono (fun a' w' h => ih _ a' w' (by simpa using hsz) hc' h) hs)
    · next hw =>
      rw [if_neg hw] at hs
      exact ih _ _ _ (by simpa using hsz) hc' hs
/-- THE REGION, by its invariant. -/
theorem wp_region_inv {id : Nat} {a : Act} {w : World} {l : List Oper} (hm : P.follows .mixedOrders = true) (hdep : backB l = true) (J : Array Bool → Act → World → Prop) (h0 : J (Array.replicate l.length false) a w.drew)
    (hstep : ∀ (i : Nat) (o : Oper) (listed : Array Bool) (a : Act) (w : World), l[i]? = some o → listed.size = l.length → listed.getD i false = false → (∀ e ∈ o.after, Region.binds .any e = true → listed.getD e.on false = true) → J listed a w →
      if Region.wanted o (yielded l.toArray a.tmps) = true then o.wp P a w (J (listed.setIfInBounds i true)) Q else J (listed.setIfInBounds i true) (a.put o.dst undef) w)
    (hdone : ∀ (listed : Array Bool) (a : Act) (w : World), (∀ i, i < l.length → listed.getD i false = true) → J listed a w → Q .normal a w) : (Code.region id l.toArray true).wp P Q a w := by
  refine wp_region_any hm ?_
  exact wpAny_inv hdep J hstep hdone _ _ _ _ (by simp) (by simp) h0
end
end Go.Proofs.YtiadpjhlomhjeaaGreat

namespace Go.Proofs.YtiadpjhlomhjeaaGreat
open Go.RowKit

section
variable {P : Program} {w : World}
theorem run_append_empty (t ty e : TypeId) (i : TypeInfo) (z : Value) (ht : P.underlying t = some (.slice e)) (hi : P.info? e = some i) (hz : i.zero = some z) (hsize : i.size = 1) (hzs : z.cells.size = 1)
    (g : Nat) (u : Value) (ys : List Value) (hu : Src w u 1 ys.length ys) (hn : ys.length ≤ 17592186044416) (hb : ys.length * i.bytes ≤ 140737488355328) (h1 : ∀ y ∈ ys, y.oneCell' = true) :
    ∃ A c w', (Builtin.append_ #[t, t] ty #[.slice (some ⟨g, 0, none⟩) 0 0, u]).run P w = .ok (.slice A ys.length c) w' ∧ Gr w w' ∧ ys.length ≤ c ∧ (0 < ys.length → Own1 w.heap.size e w' (.slice A ys.length c) ys) := by
  obtain ⟨A, c, rfl, hl, hc⟩ := hu
  rcases Nat.eq_zero_or_pos ys.length with h0 | h0
  · refine ⟨some ⟨g, 0, none⟩, 0, w, ?_, Gr.refl w, by omega, by omega⟩
    rw [h0]
    cases A with
    | none => simp [Builtin.append_, run_underlying ht, sizeOf, typeInfo, hi, Builtin.lenOf, Builtin.firstCells, storeCells]
    | some ad => simp [Builtin.append_, run_underlying ht, sizeOf, typeInfo, hi, Builtin.lenOf, Builtin.firstCells, loadCells, loadCellsFrom, storeCells]
  · obtain ⟨ad, rfl, hcell⟩ := hc h0
    have hown : w.ownsRow w.heap.size e i.size (.slice none 0 0) 0 [] := World.ownsRow_nil _ _ _ _
    obtain ⟨v', w', hr, q1, q2, -, q4⟩ := run_append_own_at (P := P) w w.heap.size t ty e i z 1 i.bytes ht hi hz hsize rfl (by rw [hzs]) (by omega) (.slice none 0 0) 0 [] (World.ownsRow_nil _ _ _ _) ad ys.length c ys hl hcell h1 (by simp only [maxLen]; omega) (by rw [Nat.zero_add]; exact hb) (Nat.le_refl _)
    have hg := run_append_grow (P := P) w t ty e i z ht hi hz ⟨g, 0, none⟩ 0 0 [] (by simp) (by simp) ad ys.length c ys (by rw [hsize]; exact hl) hcell (by omega) (by omega) (by rw [Nat.zero_add, nextslicecap_zero h0]; omega)
    have hnil := run_append_nil (P := P) w t ty e i z ht hi hz ad ys.length c ys (by rw [hsize]; exact hl) hcell (by omega) (by omega) (by omega)
    rw [hnil] at hr
    injection hr with hv hw
    subst hv; subst hw
    refine ⟨_, _, _, ?_, ?_, ?_, fun _ => by unfold Own1; simpa using q1⟩
    · rw [hg]
      simp
    · exact (Gr.drew (Gr.refl w)).alloc _
    · have := grownCap_ge w ys.length 0 e
      omega

/-- The numbers of a slice, appended to a fresh empty one. -/
theorem wp_appE {o : Oper} {a : Act} {K : Act → World → Prop} {Q : Exit → Act → World → Prop} {t : TypeId} {i : TypeInfo} {z : Value} {C : Nat}
    (ht : P.underlying t = some (.slice 3)) (hi : P.info? 3 = some i) (hz : i.zero = some z) (hsize : i.size = 1) (hby : i.bytes = 8) (hzs : z.cells.size = 1)
    (s x : Operand) (ho : o.op = .call { callee := .builtin .append, args := #[s, x], argTypes := #[t, t] }) {g : Nat} (hs : a.eval s = .slice (some ⟨g, 0, none⟩) 0 0) {u : Value} {ys : List Int} (hu : IntsAt C w u ys) (hx : a.eval x = u)
    (h : ∀ A c w', TI w.heap.size w' (.slice A ys.length c) ys → Gr w w' → K (a.put o.dst (.slice A ys.length c)) w') : o.wp P a w K Q := by
  have hl : (ys.map (Value.int .i64)).length = ys.length := List.length_map _
  have hn : ys.length ≤ 17592186044416 := by obtain ⟨_, _, _, _, q, _⟩ := hu; exact q
  obtain ⟨A, c, w', hr, q1, q2, q3⟩ := run_append_empty (P := P) (w := w) t o.type 3 i z ht hi hz hsize hzs g u (ys.map (Value.int .i64)) (by rw [hl]; exact Src.ints hu) (by rw [hl]; exact hn) (by rw [hl, hby]; omega) (oneCell_int _ _)
  rw [hl] at hr q2 q3
  unfold Oper.wp execOp
  simp only [ho, resolve, invoke, builtin, Sem.run_bind, Sem.run_pure, Result.andThen_ok, List.map_toArray, List.map_cons, List.map_nil, hs, hx, hr]
  refine h A c w' ?_ q1
  rcases Nat.eq_zero_or_pos ys.length with h0 | h0
  · exact ⟨A, c, rfl, q2, hn, fun hp => absurd hp (by omega)⟩
  · exact (q3 h0).ti hn
theorem wpList_appE {ops : Array Oper} {rest : List Oper} {o : Oper} {a : Act} {Q : Exit → Act → World → Prop} {t : TypeId} {i : TypeInfo} {z : Value} {C : Nat}
    (ht : P.underlying t = some (.slice 3)) (hi : P.info? 3 = some i) (hz : i.zero = some z) (hsize : i.size = 1) (hby : i.bytes = 8) (hzs : z.cells.size = 1)
    (hgd : o.guard = none) (s x : Operand) (ho : o.op = .call { callee := .builtin .append, args := #[s, x], argTypes := #[t, t] }) {g : Nat} (hs : a.eval s = .slice (some ⟨g, 0, none⟩) 0 0) {u : Value} {ys : List Int} (hu : IntsAt C w u ys) (hx : a.eval x = u)
    (h : ∀ A c w', TI w.heap.size w' (.slice A ys.length c) ys → Gr w w' → wpList P ops Q rest (a.put o.dst (.slice A ys.length c)) w') : wpList P ops Q (o :: rest) a w :=
  wpList_plain hgd fun _ hK => wp_appE ht hi hz hsize hby hzs s x ho hs hu hx fun A c w' h1 h2 => hK _ _ (h A c w' h1 h2)
end
end Go.Proofs.YtiadpjhlomhjeaaGreat

namespace Go.Proofs.YtiadpjhlomhjeaaGreat
open Go.RowKit

/-- What is known while the region of the first text of Copy is carried out: L says which operations have come up. -/
def CopyJ (w W : World) (f : Fn) (Ap As : Option Addr) (cp cs : Nat) (row : Array Value) (L : Nat → Bool) (v3 v8 v9 v10 v11 v12 v13 v14 v15 v16 v17 v18 : Value) (w' : World) : Prop :=
  Gr W w' ∧ (L 0 = true → ∃ g : Nat, v8 = .slice (some ⟨g, 0, none⟩) 0 0) ∧
    (L 1 = true → v9 = .pointer (some ⟨w.heap.size, 0, none⟩)) ∧
    (L 2 = true → v10 = .slice Ap f.params.length cp) ∧
    (L 3 = true → ∃ (A : Option Addr) (c : Nat), v11 = .slice A f.params.length c ∧ TI w.heap.size w' (.slice A f.params.length c) f.params) ∧
    (L 4 = true → v12 = .pointer (some ⟨w.heap.size, 1, none⟩)) ∧
    (L 5 = true → v13 = .int .i64 f.ret) ∧
    (L 6 = true → ∃ g : Nat, v14 = .slice (some ⟨g, 0, none⟩) 0 0) ∧
    (L 7 = true → v15 = .pointer (some ⟨w.heap.size, 2, none⟩)) ∧
    (L 8 = true → v16 = .slice As f.slots.length cs) ∧
    (L 9 = true → ∃ (A : Option Addr) (c : Nat), v17 = .slice A f.slots.length c ∧ TI w.heap.size w' (.slice A f.slots.length c) f.slots) ∧
    (L 10 = true → (L 3 = true ∧ L 5 = true ∧ L 9 = true) ∧ v18 = .agg #[v11, v13, v17, .slice none 0 0]) ∧
    (L 11 = true → L 12 = false → ∃ Bo : Nat, v3 = .pointer (some ⟨Bo, 0, none⟩) ∧ W.heap.size ≤ Bo ∧ w'.heap[Bo]? = some (Obj.cells #[.slice none 0 0, .int .i64 0, .slice none 0 0, .slice none 0 0] 25 (0, 0))) ∧
    (L 12 = true → (∀ j, j < 12 → L j = true) ∧ ∃ (Bo : Nat) (A1 : Option Addr) (c1 : Nat) (A2 : Option Addr) (c2 : Nat), v3 = .pointer (some ⟨Bo, 0, none⟩) ∧ CInv w w' Bo f (.slice A1 f.params.length c1) (.slice A2 f.slots.length c2) row 0 (.slice none 0 0) w')
section
variable {w W w' w'' : World} {f : Fn} {Ap As : Option Addr} {cp cs : Nat} {row : Array Value} {L L' : Nat → Bool} {v3 v8 v9 v10 v11 v12 v13 v14 v15 v16 v17 v18 : Value}
theorem CopyJ.s0 (h : CopyJ w W f Ap As cp cs row L v3 v8 v9 v10 v11 v12 v13 v14 v15 v16 v17 v18 w') (g' : Gr w' w'') (hun : L 0 = false) (hL : ∀ j, j ≠ 0 → L' j = L j) (g : Nat) : CopyJ w W f Ap As cp cs row L' v3 (.slice (some ⟨g, 0, none⟩) 0 0) v9 v10 v11 v12 v13 v14 v15 v16 v17 v18 w'' := by
  obtain ⟨hG, h0, h1, h2, h3, h4, h5, h6, h7, h8, h9, h10, h11, h12⟩ := h
  refine ⟨hG.trans g', ?_, ?_, ?_, ?_, ?_, ?_, ?_, ?_, ?_, ?_, ?_, ?_, ?_⟩
  · intro _; exact ⟨g, rfl⟩
  · rw [hL 1 (by decide)]; exact h1
  · rw [hL 2 (by decide)]; exact h2
  · rw [hL 3 (by decide)]; intro hl; obtain ⟨A, c, e, t⟩ := h3 hl; exact ⟨A, c, e, t.gr g'⟩
  · rw [hL 4 (by decide)]; exact h4
  · rw [hL 5 (by decide)]; exact h5
  · rw [hL 6 (by decide)]; exact h6
  · rw [hL 7 (by decide)]; exact h7
  · rw [hL 8 (by decide)]; exact h8
  · rw [hL 9 (by decide)]; intro hl; obtain ⟨A, c, e, t⟩ := h9 hl; exact ⟨A, c, e, t.gr g'⟩
  · rw [hL 10 (by decide), hL 3 (by decide), hL 5 (by decide), hL 9 (by decide)]; exact h10
  · rw [hL 11 (by decide), hL 12 (by decide)]; intro q1 q2; obtain ⟨Bo, e, q3, q4⟩ := h11 q1 q2; exact ⟨Bo, e, q3, (g'.heap _ (Array.getElem?_eq_some_iff.1 q4).1).trans q4⟩
  · rw [hL 12 (by decide)]; intro hl; exact absurd ((h12 hl).1 0 (by decide)) (by rw [hun]; decide)
theorem CopyJ.s1 (h : CopyJ w W f Ap As cp cs row L v3 v8 v9 v10 v11 v12 v13 v14 v15 v16 v17 v18 w') (g' : Gr w' w'') (hun : L 1 = false) (hL : ∀ j, j ≠ 1 → L' j = L j)  : CopyJ w W f Ap As cp cs row L' v3 v8 (.pointer (some ⟨w.heap.size, 0, none⟩)) v10 v11 v12 v13 v14 v15 v16 v17 v18 w'' := by
  obtain ⟨hG, h0, h1, h2, h3, h4, h5, h6, h7, h8, h9, h10, h11, h12⟩ := h
  refine ⟨hG.trans g', ?_, ?_, ?_, ?_, ?_, ?_, ?_, ?_, ?_, ?_, ?_, ?_, ?_⟩
  · rw [hL 0 (by decide)]; exact h0
  · intro _; exact rfl
  · rw [hL 2 (by decide)]; exact h2
  · rw [hL 3 (by decide)]; intro hl; obtain ⟨A, c, e, t⟩ := h3 hl; exact ⟨A, c, e, t.gr g'⟩
  · rw [hL 4 (by decide)]; exact h4
  · rw [hL 5 (by decide)]; exact h5
  · rw [hL 6 (by decide)]; exact h6
  · rw [hL 7 (by decide)]; exact h7
  · rw [hL 8 (by decide)]; exact h8
  · rw [hL 9 (by decide)]; intro hl; obtain ⟨A, c, e, t⟩ := h9 hl; exact ⟨A, c, e, t.gr g'⟩
  · rw [hL 10 (by decide), hL 3 (by decide), hL 5 (by decide), hL 9 (by decide)]; exact h10
  · rw [hL 11 (by decide), hL 12 (by decide)]; intro q1 q2; obtain ⟨Bo, e, q3, q4⟩ := h11 q1 q2; exact ⟨Bo, e, q3, (g'.heap _ (Array.getElem?_eq_some_iff.1 q4).1).trans q4⟩
  · rw [hL 12 (by decide)]; intro hl; exact absurd ((h12 hl).1 1 (by decide)) (by rw [hun]; decide)
theorem CopyJ.s2 (h : CopyJ w W f Ap As cp cs row L v3 v8 v9 v10 v11 v12 v13 v14 v15 v16 v17 v18 w') (g' : Gr w' w'') (hun : L 2 = false) (hL : ∀ j, j ≠ 2 → L' j = L j)  : CopyJ w W f Ap As cp cs row L' v3 v8 v9 (.slice Ap f.params.length cp) v11 v12 v13 v14 v15 v16 v17 v18 w'' := by
  obtain ⟨hG, h0, h1, h2, h3, h4, h5, h6, h7, h8, h9, h10, h11, h12⟩ := h
  refine ⟨hG.trans g', ?_, ?_, ?_, ?_, ?_, ?_, ?_, ?_, ?_, ?_, ?_, ?_, ?_⟩
  · rw [hL 0 (by decide)]; exact h0
  · rw [hL 1 (by decide)]; exact h1
  · intro _; exact rfl
  · rw [hL 3 (by decide)]; intro hl; obtain ⟨A, c, e, t⟩ := h3 hl; exact ⟨A, c, e, t.gr g'⟩
  · rw [hL 4 (by decide)]; exact h4
  · rw [hL 5 (by decide)]; exact h5
  · rw [hL 6 (by decide)]; exact h6
  · rw [hL 7 (by decide)]; exact h7
  · rw [hL 8 (by decide)]; exact h8
  · rw [hL 9 (by decide)]; intro hl; obtain ⟨A, c, e, t⟩ := h9 hl; exact ⟨A, c, e, t.gr g'⟩
  · rw [hL 10 (by decide), hL 3 (by decide), hL 5 (by decide), hL 9 (by decide)]; exact h10
  · rw [hL 11 (by decide), hL 12 (by decide)]; intro q1 q2; obtain ⟨Bo, e, q3, q4⟩ := h11 q1 q2; exact ⟨Bo, e, q3, (g'.heap _ (Array.getElem?_eq_some_iff.1 q4).1).trans q4⟩
  · rw [hL 12 (by decide)]; intro hl; exact absurd ((h12 hl).1 2 (by decide)) (by rw [hun]; decide)
theorem CopyJ.s3 (h : CopyJ w W f Ap As cp cs row L v3 v8 v9 v10 v11 v12 v13 v14 v15 v16 v17 v18 w') (g' : Gr w' w'') (hun : L 3 = false) (hL : ∀ j, j ≠ 3 → L' j = L j) (A : Option Addr) (c : Nat) (ht : TI w.heap.size w'' (.slice A f.params.length c) f.params) : CopyJ w W f Ap As cp cs row L' v3 v8 v9 v10 (.slice A f.params.length c) v12 v13 v14 v15 v16 v17 v18 w'' := by
  obtain ⟨hG, h0, h1, h2, h3, h4, h5, h6, h7, h8, h9, h10, h11, h12⟩ := h
  refine ⟨hG.trans g', ?_, ?_, ?_, ?_, ?_, ?_, ?_, ?_, ?_, ?_, ?_, ?_, ?_⟩
  · rw [hL 0 (by decide)]; exact h0
  · rw [hL 1 (by decide)]; exact h1
  · rw [hL 2 (by decide)]; exact h2
  · intro _; exact ⟨A, c, rfl, ht⟩
  · rw [hL 4 (by decide)]; exact h4
  · rw [hL 5 (by decide)]; exact h5
  · rw [hL 6 (by decide)]; exact h6
  · rw [hL 7 (by decide)]; exact h7
  · rw [hL 8 (by decide)]; exact h8
  · rw [hL 9 (by decide)]; intro hl; obtain ⟨A, c, e, t⟩ := h9 hl; exact ⟨A, c, e, t.gr g'⟩
  · rw [hL 10 (by decide)]; intro hl; exact absurd (h10 hl).1.1 (by rw [hun]; decide)
  · rw [hL 11 (by decide), hL 12 (by decide)]; intro q1 q2; obtain ⟨Bo, e, q3, q4⟩ := h11 q1 q2; exact ⟨Bo, e, q3, (g'.heap _ (Array.getElem?_eq_some_iff.1 q4).1).trans q4⟩
  · rw [hL 12 (by decide)]; intro hl; exact absurd ((h12 hl).1 3 (by decide)) (by rw [hun]; decide)
theorem CopyJ.s4 (h : CopyJ w W f Ap As cp cs row L v3 v8 v9 v10 v11 v12 v13 v14 v15 v16 v17 v18 w') (g' : Gr w' w'') (hun : L 4 = false) (hL : ∀ j, j ≠ 4 → L' j = L j)  : CopyJ w W f Ap As cp cs row L' v3 v8 v9 v10 v11 (.pointer (some ⟨w.heap.size, 1, none⟩)) v13 v14 v15 v16 v17 v18 w'' := by
  obtain ⟨hG, h0, h1, h2, h3, h4, h5, h6, h7, h8, h9, h10, h11, h12⟩ := h
  refine ⟨hG.trans g', ?_, ?_, ?_, ?_, ?_, ?_, ?_, ?_, ?_, ?_, ?_, ?_, ?_⟩
  · rw [hL 0 (by decide)]; exact h0
  · rw [hL 1 (by decide)]; exact h1
  · rw [hL 2 (by decide)]; exact h2
  · rw [hL 3 (by decide)]; intro hl; obtain ⟨A, c, e, t⟩ := h3 hl; exact ⟨A, c, e, t.gr g'⟩
  · intro _; exact rfl
  · rw [hL 5 (by decide)]; exact h5
  · rw [hL 6 (by decide)]; exact h6
  · rw [hL 7 (by decide)]; exact h7
  · rw [hL 8 (by decide)]; exact h8
  · rw [hL 9 (by decide)]; intro hl; obtain ⟨A, c, e, t⟩ := h9 hl; exact ⟨A, c, e, t.gr g'⟩
  · rw [hL 10 (by decide), hL 3 (by decide), hL 5 (by decide), hL 9 (by decide)]; exact h10
  · rw [hL 11 (by decide), hL 12 (by decide)]; intro q1 q2; obtain ⟨Bo, e, q3, q4⟩ := h11 q1 q2; exact ⟨Bo, e, q3, (g'.heap _ (Array.getElem?_eq_some_iff.1 q4).1).trans q4⟩
  · rw [hL 12 (by decide)]; intro hl; exact absurd ((h12 hl).1 4 (by decide)) (by rw [hun]; decide)
theorem CopyJ.s5 (h : CopyJ w W f Ap As cp cs row L v3 v8 v9 v10 v11 v12 v13 v14 v15 v16 v17 v18 w') (g' : Gr w' w'') (hun : L 5 = false) (hL : ∀ j, j ≠ 5 → L' j = L j)  : CopyJ w W f Ap As cp cs row L' v3 v8 v9 v10 v11 v12 (.int .i64 f.ret) v14 v15 v16 v17 v18 w'' := by
  obtain ⟨hG, h0, h1, h2, h3, h4, h5, h6, h7, h8, h9, h10, h11, h12⟩ := h
  refine ⟨hG.trans g', ?_, ?_, ?_, ?_, ?_, ?_, ?_, ?_, ?_, ?_, ?_, ?_, ?_⟩
  · rw [hL 0 (by decide)]; exact h0
  · rw [hL 1 (by decide)]; exact h1
  · rw [hL 2 (by decide)]; exact h2
  · rw [hL 3 (by decide)]; intro hl; obtain ⟨A, c, e, t⟩ := h3 hl; exact ⟨A, c, e, t.gr g'⟩
  · rw [hL 4 (by decide)]; exact h4
  · intro _; exact rfl
  · rw [hL 6 (by decide)]; exact h6
  · rw [hL 7 (by decide)]; exact h7
  · rw [hL 8 (by decide)]; exact h8
  · rw [hL 9 (by decide)]; intro hl; obtain ⟨A, c, e, t⟩ := h9 hl; exact ⟨A, c, e, t.gr g'⟩
  · rw [hL 10 (by decide)]; intro hl; exact absurd (h10 hl).1.2.1 (by rw [hun]; decide)
  · rw [hL 11 (by decide), hL 12 (by decide)]; intro q1 q2; obtain ⟨Bo, e, q3, q4⟩ := h11 q1 q2; exact ⟨Bo, e, q3, (g'.heap _ (Array.getElem?_eq_some_iff.1 q4).1).trans q4⟩
  · rw [hL 12 (by decide)]; intro hl; exact absurd ((h12 hl).1 5 (by decide)) (by rw [hun]; decide)
theorem CopyJ.s6 (h : CopyJ w W f Ap As cp cs row L v3 v8 v9 v10 v11 v12 v13 v14 v15 v16 v17 v18 w') (g' : Gr w' w'') (hun : L 6 = false) (hL : ∀ j, j ≠ 6 → L' j = L j) (g : Nat) : CopyJ w W f Ap As cp cs row L' v3 v8 v9 v10 v11 v12 v13 (.slice (some ⟨g, 0, none⟩) 0 0) v15 v16 v17 v18 w'' := by
  obtain ⟨hG, h0, h1, h2, h3, h4, h5, h6, h7, h8, h9, h10, h11, h12⟩ := h
  refine ⟨hG.trans g', ?_, ?_, ?_, ?_, ?_, ?_, ?_, ?_, ?_, ?_, ?_, ?_, ?_⟩
  · rw [hL 0 (by decide)]; exact h0
  · rw [hL 1 (by decide)]; exact h1
  · rw [hL 2 (by decide)]; exact h2
  · rw [hL 3 (by decide)]; intro hl; obtain ⟨A, c, e, t⟩ := h3 hl; exact ⟨A, c, e, t.gr g'⟩
  · rw [hL 4 (by decide)]; exact h4
  · rw [hL 5 (by decide)]; exact h5
  · intro _; exact ⟨g, rfl⟩
  · rw [hL 7 (by decide)]; exact h7
  · rw [hL 8 (by decide)]; exact h8
  · rw [hL 9 (by decide)]; intro hl; obtain ⟨A, c, e, t⟩ := h9 hl; exact ⟨A, c, e, t.gr g'⟩
  · rw [hL 10 (by decide), hL 3 (by decide), hL 5 (by decide), hL 9 (by decide)]; exact h10
  · rw [hL 11 (by decide), hL 12 (by decide)]; intro q1 q2; obtain ⟨Bo, e, q3, q4⟩ := h11 q1 q2; exact ⟨Bo, e, q3, (g'.heap _ (Array.getElem?_eq_some_iff.1 q4).1).trans q4⟩
  · rw [hL 12 (by decide)]; intro hl; exact absurd ((h12 hl).1 6 (by decide)) (by rw [hun]; decide)
theorem CopyJ.s7 (h : CopyJ w W f Ap As cp cs row L v3 v8 v9 v10 v11 v12 v13 v14 v15 v16 v17 v18 w') (g' : Gr w' w'') (hun : L 7 = false) (hL : ∀ j, j ≠ 7 → L' j = L j)  : CopyJ w W f Ap As cp cs row L' v3 v8 v9 v10 v11 v12 v13 v14 (.pointer (some ⟨w.heap.size, 2, none⟩)) v16 v17 v18 w'' := by
  obtain ⟨hG, h0, h1, h2, h3, h4, h5, h6, h7, h8, h9, h10, h11, h12⟩ := h
  refine ⟨hG.trans g', ?_, ?_, ?_, ?_, ?_, ?_, ?_, ?_, ?_, ?_, ?_, ?_, ?_⟩
  · rw [hL 0 (by decide)]; exact h0
  · rw [hL 1 (by decide)]; exact h1
  · rw [hL 2 (by decide)]; exact h2
  · rw [hL 3 (by decide)]; intro hl; obtain ⟨A, c, e, t⟩ := h3 hl; exact ⟨A, c, e, t.gr g'⟩
  · rw [hL 4 (by decide)]; exact h4
  · rw [hL 5 (by decide)]; exact h5
  · rw [hL 6 (by decide)]; exact h6
  · intro _; exact rfl
  · rw [hL 8 (by decide)]; exact h8
  · rw [hL 9 (by decide)]; intro hl; obtain ⟨A, c, e, t⟩ := h9 hl; exact ⟨A, c, e, t.gr g'⟩
  · rw [hL 10 (by decide), hL 3 (by decide), hL 5 (by decide), hL 9 (by decide)]; exact h10
  · rw [hL 11 (by decide), hL 12 (by decide)]; intro q1 q2; obtain ⟨Bo, e, q3, q4⟩ := h11 q1 q2; exact ⟨Bo, e, q3, (g'.heap _ (Array.getElem?_eq_some_iff.1 q4).1).trans q4⟩
  · rw [hL 12 (by decide)]; intro hl; exact absurd ((h12 hl).1 7 (by decide)) (by rw [hun]; decide)
theorem CopyJ.s8 (h : CopyJ w W f Ap As cp cs row L v3 v8 v9 v10 v11 v12 v13 v14 v15 v16 v17 v18 w') (g' : Gr w' w'') (hun : L 8 = false) (hL : ∀ j, j ≠ 8 → L' j = L j)  : CopyJ w W f Ap As cp cs row L' v3 v8 v9 v10 v11 v12 v13 v14 v15 (.slice As f.slots.length cs) v17 v18 w'' := by
  obtain ⟨hG, h0, h1, h2, h3, h4, h5, h6, h7, h8, h9, h10, h11, h12⟩ := h
  refine ⟨hG.trans g', ?_, ?_, ?_, ?_, ?_, ?_, ?_, ?_, ?_, ?_, ?_, ?_, ?_⟩
  · rw [hL 0 (by decide)]; exact h0
  · rw [hL 1 (by decide)]; exact h1
  · rw [hL 2 (by decide)]; exact h2
  · rw [hL 3 (by decide)]; intro hl; obtain ⟨A, c, e, t⟩ := h3 hl; exact ⟨A, c, e, t.gr g'⟩
  · rw [hL 4 (by decide)]; exact h4
  · rw [hL 5 (by decide)]; exact h5
  · rw [hL 6 (by decide)]; exact h6
  · rw [hL 7 (by decide)]; exact h7
  · intro _; exact rfl
  · rw [hL 9 (by decide)]; intro hl; obtain ⟨A, c, e, t⟩ := h9 hl; exact ⟨A, c, e, t.gr g'⟩
  · rw [hL 10 (by decide), hL 3 (by decide), hL 5 (by decide), hL 9 (by decide)]; exact h10
  · rw [hL 11 (by decide), hL 12 (by decide)]; intro q1 q2; obtain ⟨Bo, e, q3, q4⟩ := h11 q1 q2; exact ⟨Bo, e, q3, (g'.heap _ (Array.getElem?_eq_some_iff.1 q4).1).trans q4⟩
  · rw [hL 12 (by decide)]; intro hl; exact absurd ((h12 hl).1 8 (by decide)) (by rw [hun]; decide)
theorem CopyJ.s9 (h : CopyJ w W f Ap As cp cs row L v3 v8 v9 v10 v11 v12 v13 v14 v15 v16 v17 v18 w') (g' : Gr w' w'') (hun : L 9 = false) (hL : ∀ j, j ≠ 9 → L' j = L j) (A : Option Addr) (c : Nat) (ht : TI w.heap.size w'' (.slice A f.slots.length c) f.slots) : CopyJ w W f Ap As cp cs row L' v3 v8 v9 v10 v11 v12 v13 v14 v15 v16 (.slice A f.slots.length c) v18 w'' := by
  obtain ⟨hG, h0, h1, h2, h3, h4, h5, h6, h7, h8, h9, h10, h11, h12⟩ := h
  refine ⟨hG.trans g', ?_, ?_, ?_, ?_, ?_, ?_, ?_, ?_, ?_, ?_, ?_, ?_, ?_⟩
  · rw [hL 0 (by decide)]; exact h0
  · rw [hL 1 (by decide)]; exact h1
  · rw [hL 2 (by decide)]; exact h2
  · rw [hL 3 (by decide)]; intro hl; obtain ⟨A, c, e, t⟩ := h3 hl; exact ⟨A, c, e, t.gr g'⟩
  · rw [hL 4 (by decide)]; exact h4
  · rw [hL 5 (by decide)]; exact h5
  · rw [hL 6 (by decide)]; exact h6
  · rw [hL 7 (by decide)]; exact h7
  · rw [hL 8 (by decide)]; exact h8
  · intro _; exact ⟨A, c, rfl, ht⟩
  · rw [hL 10 (by decide)]; intro hl; exact absurd (h10 hl).1.2.2 (by rw [hun]; decide)
  · rw [hL 11 (by decide), hL 12 (by decide)]; intro q1 q2; obtain ⟨Bo, e, q3, q4⟩ := h11 q1 q2; exact ⟨Bo, e, q3, (g'.heap _ (Array.getElem?_eq_some_iff.1 q4).1).trans q4⟩
  · rw [hL 12 (by decide)]; intro hl; exact absurd ((h12 hl).1 9 (by decide)) (by rw [hun]; decide)
theorem CopyJ.s10 (h : CopyJ w W f Ap As cp cs row L v3 v8 v9 v10 v11 v12 v13 v14 v15 v16 v17 v18 w') (g' : Gr w' w'') (hun : L 10 = false) (hL : ∀ j, j ≠ 10 → L' j = L j) (d3 : L 3 = true) (d5 : L 5 = true) (d9 : L 9 = true) : CopyJ w W f Ap As cp cs row L' v3 v8 v9 v10 v11 v12 v13 v14 v15 v16 v17 (.agg #[v11, v13, v17, .slice none 0 0]) w'' := by
  obtain ⟨hG, h0, h1, h2, h3, h4, h5, h6, h7, h8, h9, h10, h11, h12⟩ := h
  refine ⟨hG.trans g', ?_, ?_, ?_, ?_, ?_, ?_, ?_, ?_, ?_, ?_, ?_, ?_, ?_⟩
  · rw [hL 0 (by decide)]; exact h0
  · rw [hL 1 (by decide)]; exact h1
  · rw [hL 2 (by decide)]; exact h2
  · rw [hL 3 (by decide)]; intro hl; obtain ⟨A, c, e, t⟩ := h3 hl; exact ⟨A, c, e, t.gr g'⟩
  · rw [hL 4 (by decide)]; exact h4
  · rw [hL 5 (by decide)]; exact h5
  · rw [hL 6 (by decide)]; exact h6
  · rw [hL 7 (by decide)]; exact h7
  · rw [hL 8 (by decide)]; exact h8
  · rw [hL 9 (by decide)]; intro hl; obtain ⟨A, c, e, t⟩ := h9 hl; exact ⟨A, c, e, t.gr g'⟩
  · intro _; exact ⟨⟨(hL 3 (by decide)).trans d3, (hL 5 (by decide)).trans d5, (hL 9 (by decide)).trans d9⟩, rfl⟩
  · rw [hL 11 (by decide), hL 12 (by decide)]; intro q1 q2; obtain ⟨Bo, e, q3, q4⟩ := h11 q1 q2; exact ⟨Bo, e, q3, (g'.heap _ (Array.getElem?_eq_some_iff.1 q4).1).trans q4⟩
  · rw [hL 12 (by decide)]; intro hl; exact absurd ((h12 hl).1 10 (by decide)) (by rw [hun]; decide)
theorem CopyJ.s11 (h : CopyJ w W f Ap As cp cs row L v3 v8 v9 v10 v11 v12 v13 v14 v15 v16 v17 v18 w') (g' : Gr w' w'') (hun : L 11 = false) (hL : ∀ j, j ≠ 11 → L' j = L j) (Bo : Nat) (hBo : W.heap.size ≤ Bo) (hb : w''.heap[Bo]? = some (Obj.cells #[.slice none 0 0, .int .i64 0, .slice none 0 0, .slice none 0 0] 25 (0, 0))) : CopyJ w W f Ap As cp cs row L' (.pointer (some ⟨Bo, 0, none⟩)) v8 v9 v10 v11 v12 v13 v14 v15 v16 v17 v18 w'' := by
  obtain ⟨hG, h0, h1, h2, h3, h4, h5, h6, h7, h8, h9, h10, h11, h12⟩ := h
  refine ⟨hG.trans g', ?_, ?_, ?_, ?_, ?_, ?_, ?_, ?_, ?_, ?_, ?_, ?_, ?_⟩
  · rw [hL 0 (by decide)]; exact h0
  · rw [hL 1 (by decide)]; exact h1
  · rw [hL 2 (by decide)]; exact h2
  · rw [hL 3 (by decide)]; intro hl; obtain ⟨A, c, e, t⟩ := h3 hl; exact ⟨A, c, e, t.gr g'⟩
  · rw [hL 4 (by decide)]; exact h4
  · rw [hL 5 (by decide)]; exact h5
  · rw [hL 6 (by decide)]; exact h6
  · rw [hL 7 (by decide)]; exact h7
  · rw [hL 8 (by decide)]; exact h8
  · rw [hL 9 (by decide)]; intro hl; obtain ⟨A, c, e, t⟩ := h9 hl; exact ⟨A, c, e, t.gr g'⟩
  · rw [hL 10 (by decide), hL 3 (by decide), hL 5 (by decide), hL 9 (by decide)]; exact h10
  · intro _ _; exact ⟨Bo, rfl, hBo, hb⟩
  · rw [hL 12 (by decide)]; intro hl; exact absurd ((h12 hl).1 11 (by decide)) (by rw [hun]; decide)
theorem CopyJ.s12 (h : CopyJ w W f Ap As cp cs row L v3 v8 v9 v10 v11 v12 v13 v14 v15 v16 v17 v18 w') (hall : ∀ j, j < 12 → L j = true) (hun : L 12 = false) (hL : ∀ j, j ≠ 12 → L' j = L j) (hL12 : L' 12 = true) (hB0 : Gr w W) (hr0 : W.heap[w.heap.size]? = some (.cells row 25 (0, 0))) (hr1 : W.heap[w.heap.size + 1]? = some (.cells #[.slice none 0 0, .int .i64 0, .slice none 0 0, .slice none 0 0] 25 (0, 0))) (hWs : w.heap.size + 2 ≤ W.heap.size) :
    ∃ (Bo : Nat) (A1 : Option Addr) (c1 : Nat) (A2 : Option Addr) (c2 : Nat), v3 = .pointer (some ⟨Bo, 0, none⟩) ∧ v18 = .agg #[.slice A1 f.params.length c1, .int .i64 f.ret, .slice A2 f.slots.length c2, .slice none 0 0] ∧ w'.heap[Bo]? = some (Obj.cells #[.slice none 0 0, .int .i64 0, .slice none 0 0, .slice none 0 0] 25 (0, 0)) ∧
      CopyJ w W f Ap As cp cs row L' v3 v8 v9 v10 v11 v12 v13 v14 v15 v16 v17 v18 ((((w'.setCell ⟨Bo, 0, none⟩ (.slice A1 f.params.length c1)).setCell ⟨Bo, 1, none⟩ (.int .i64 f.ret)).setCell ⟨Bo, 2, none⟩ (.slice A2 f.slots.length c2)).setCell ⟨Bo, 3, none⟩ (.slice none 0 0)) := by
  obtain ⟨hG, h0, h1, h2, h3, h4, h5, h6, h7, h8, h9, h10, h11, h12⟩ := h
  obtain ⟨A1, c1, rfl, t1⟩ := h3 (hall 3 (by decide))
  obtain ⟨A2, c2, rfl, t2⟩ := h9 (hall 9 (by decide))
  obtain rfl := h5 (hall 5 (by decide))
  obtain ⟨-, e10⟩ := h10 (hall 10 (by decide))
  obtain ⟨Bo, rfl, hBo, hb⟩ := h11 (hall 11 (by decide)) hun
  have hk := four_kt hb (.slice A1 f.params.length c1) (.int .i64 f.ret) (.slice A2 f.slots.length c2) (.slice none 0 0)
  refine ⟨Bo, A1, c1, A2, c2, rfl, e10, hb, four_gr hG hBo _ _ _ _, ?_, ?_, ?_, ?_, ?_, ?_, ?_, ?_, ?_, ?_, ?_, ?_, ?_⟩
  · rw [hL 0 (by decide)]; exact h0
  · rw [hL 1 (by decide)]; exact h1
  · rw [hL 2 (by decide)]; exact h2
  · intro _; exact ⟨A1, c1, rfl, t1.kt hk⟩
  · rw [hL 4 (by decide)]; exact h4
  · rw [hL 5 (by decide)]; exact h5
  · rw [hL 6 (by decide)]; exact h6
  · rw [hL 7 (by decide)]; exact h7
  · rw [hL 8 (by decide)]; exact h8
  · intro _; exact ⟨A2, c2, rfl, t2.kt hk⟩
  · rw [hL 10 (by decide), hL 3 (by decide), hL 5 (by decide), hL 9 (by decide)]; exact h10
  · intro _ q; rw [hL12] at q; cases q
  · intro _; exact ⟨fun j hj => (hL j (by omega)).trans (hall j hj), Bo, A1, c1, A2, c2, rfl, CInv.start hB0 hr0 hr1 hG hb (by omega) t1 t2⟩
end

theorem CInv.turn {w wb wr : World} {Bo : Nat} {f f' : Fn} {vp vs vb : Value} {row : Array Value} (h : CInv w wb Bo f vp vs row 0 vb wr) (h1 : f'.params = f.params) (h2 : f'.ret = f.ret) (h3 : f'.slots = f.slots) : CInv w wb Bo f' vp vs row 0 vb wr := by
  obtain ⟨us, q1, q2, q3, q4, q5, q6, q7⟩ := h
  exact ⟨us, by rw [h2]; exact q1, q2, q3, fun j l hj => by omega, by rw [h1]; exact q5, by rw [h3]; exact q6, q7⟩
end Go.Proofs.YtiadpjhlomhjeaaGreat

namespace Go.Proofs.YtiadpjhlomhjeaaGreat
open Go.RowKit

/-- In the box Bx lies an instruction whose Args and To are rows of the call's own: As, Ts. -/
structure YI (w : World) (Bx : Nat) (op wd fl im : Int) (va vt : Value) (As Ts : List Int) (W : World) : Prop where
  box : W.heap[Bx]? = some (.cells #[.int .i64 op, .int .i64 wd, .int .i64 fl, va, .int .u32 im, vt] 38 (0, 0))
  own3 : Own1 w.heap.size 3 W va (As.map (Value.int .i64))
  own5 : Own1 w.heap.size 3 W vt (Ts.map (Value.int .i64))
  apart : Apart va vt
  gr : Gr w W
  lx : w.heap.size ≤ Bx
section
variable {w wr wr' : World} {Bx : Nat} {op wd fl im : Int} {va vt : Value} {As Ts : List Int}
theorem YI.grow (h : YI w Bx op wd fl im va vt As Ts wr) (g : Gr wr wr') : YI w Bx op wd fl im va vt As Ts wr' :=
  ⟨(g.heap _ (Array.getElem?_eq_some_iff.1 h.box).1).trans h.box, h.own3.gr g, h.own5.gr g, h.apart, h.gr.trans g, h.lx⟩
theorem YI.form3 (h : YI w Bx op wd fl im va vt As Ts wr) : ∃ A c, va = .slice A As.length c := by obtain ⟨A, c, e⟩ := h.own3.form; exact ⟨A, c, by rw [e, List.length_map]⟩
theorem YI.form5 (h : YI w Bx op wd fl im va vt As Ts wr) : ∃ A c, vt = .slice A Ts.length c := by obtain ⟨A, c, e⟩ := h.own5.form; exact ⟨A, c, by rw [e, List.length_map]⟩
theorem YI.cells (h : YI w Bx op wd fl im va vt As Ts wr) : (wr.cell? ⟨Bx, 0, none⟩ = some (.int .i64 op) ∧ wr.cell? ⟨Bx, 1, none⟩ = some (.int .i64 wd) ∧ wr.cell? ⟨Bx, 2, none⟩ = some (.int .i64 fl) ∧ wr.cell? ⟨Bx, 3, none⟩ = some va ∧ wr.cell? ⟨Bx, 4, none⟩ = some (.int .u32 im) ∧ wr.cell? ⟨Bx, 5, none⟩ = some vt) ∧
    wr.frozen? ⟨Bx, 3, none⟩ = false ∧ wr.frozen? ⟨Bx, 5, none⟩ = false :=
  ⟨⟨cell_of_row _ _ 0 _ _ _ h.box, cell_of_row _ _ 1 _ _ _ h.box, cell_of_row _ _ 2 _ _ _ h.box, cell_of_row _ _ 3 _ _ _ h.box, cell_of_row _ _ 4 _ _ _ h.box, cell_of_row _ _ 5 _ _ _ h.box⟩, frozen_of_row _ _ 3 _ _ h.box, frozen_of_row _ _ 5 _ _ h.box⟩
theorem YI.start (g : Gr w wr) (h : wr.heap[Bx]? = some (.cells #[.int .i64 op, .int .i64 wd, .int .i64 fl, .slice none 0 0, .int .u32 im, .slice none 0 0] 38 (0, 0))) (hB : w.heap.size ≤ Bx) : YI w Bx op wd fl im (.slice none 0 0) (.slice none 0 0) [] [] wr :=
  ⟨h, Own1.nil _ _ _, Own1.nil _ _ _, fun k hk => by simp [Value.ownBlock] at hk, g, hB⟩
theorem own_snoc {B : Nat} {e : TypeId} {W : World} {v : Value} {L : List Int} {z : Int} (h : W.ownsRow B e 1 v (L.length + 1) (L.map (Value.int .i64) ++ [.int .i64 z])) : Own1 B e W v ((L ++ [z]).map (Value.int .i64)) := by
  unfold Own1
  rw [List.length_map, List.length_append, List.map_append]
  exact h
/-- 'y.Args = append(y.Args, z)'. -/
theorem YI.wp3 {o : Oper} {a : Act} {K : Act → World → Prop} {Q : Exit → Act → World → Prop} (h : YI w Bx op wd fl im va vt As Ts wr) (z : Int)
    (s x : Operand) (ho : o.op = .call { callee := .builtin .append, args := #[s, x], argTypes := #[22, 22] }) (hs : a.eval s = va) (hx : a.eval x = .slice (some ⟨wr.heap.size, 0, none⟩) 1 1) (hlt : As.length ≤ 1000000) {e' : TypeId}
    (hK : ∀ g c w1, w1.heap[Bx]? = some (.cells #[.int .i64 op, .int .i64 wd, .int .i64 fl, va, .int .u32 im, vt] 38 (0, 0)) → YI w Bx op wd fl im (.slice (some ⟨g, 0, none⟩) (As.length + 1) c) vt (As ++ [z]) Ts (w1.setCell ⟨Bx, 3, none⟩ (.slice (some ⟨g, 0, none⟩) (As.length + 1) c)) → K (a.put o.dst (.slice (some ⟨g, 0, none⟩) (As.length + 1) c)) w1) :
    o.wp Tryz.prog a (wr.alloc (.cells #[.int .i64 z] e')) K Q := by
  obtain ⟨i0, hi, hz0, hz1, hz2⟩ := info_parts info_int
  have hl : (As.map (Value.int .i64)).length = As.length := List.length_map _
  have hsz := h.gr.size
  have h3 := h.own3
  unfold Own1 at h3
  rw [hl] at h3
  refine wp_append_src s x 22 ho w.heap.size 3 i0 (.int .i64 0) 1 8 Tryz.underlying22 hi hz0 hz1 hz2 rfl (by omega) va As.length (As.map (Value.int .i64)) hs (own_gr h3 ((Gr.refl _).alloc _)) _ 1 [.int .i64 z] hx (Src.new1 _ _ _) ?_ ?_ ?_ ?_ ?_
  · intro y hy; simp at hy; subst hy; rfl
  · simp only [maxLen]; omega
  · omega
  · simp; omega
  · intro v' w1 hown' hg hat
    obtain ⟨g, c, rfl⟩ := ownsRow_succ hown'
    obtain ⟨m1, m2, m3, m4, m5, m6, m7, m8⟩ := field_append (i := 3) (n₀ := w.heap.size) (ys := (As ++ [z]).map (Value.int .i64)) h.box (by decide) h.own3 (own_snoc hown') hg hat
    obtain ⟨n1, n2⟩ := m6 _ _ h.own5 h.apart
    exact hK g c w1 m1 ⟨m2, m3, n1, n2, h.gr.below (m7 w.heap.size (Nat.le_refl _) h.lx hsz) (Nat.le_refl _), h.lx⟩
theorem YI.app3 {ops : Array Oper} {rest : List Oper} {o : Oper} {a : Act} {Q : Exit → Act → World → Prop} (h : YI w Bx op wd fl im va vt As Ts wr) (z : Int)
    (hgd : o.guard = none) (s x : Operand) (ho : o.op = .call { callee := .builtin .append, args := #[s, x], argTypes := #[22, 22] }) (hs : a.eval s = va) (hx : a.eval x = .slice (some ⟨wr.heap.size, 0, none⟩) 1 1) (hlt : As.length ≤ 1000000) {e' : TypeId}
    (hK : ∀ g c w1, w1.heap[Bx]? = some (.cells #[.int .i64 op, .int .i64 wd, .int .i64 fl, va, .int .u32 im, vt] 38 (0, 0)) → YI w Bx op wd fl im (.slice (some ⟨g, 0, none⟩) (As.length + 1) c) vt (As ++ [z]) Ts (w1.setCell ⟨Bx, 3, none⟩ (.slice (some ⟨g, 0, none⟩) (As.length + 1) c)) → wpList Tryz.prog ops Q rest (a.put o.dst (.slice (some ⟨g, 0, none⟩) (As.length + 1) c)) w1) :
    wpList Tryz.prog ops Q (o :: rest) a (wr.alloc (.cells #[.int .i64 z] e')) :=
  wpList_plain hgd fun _ hK' => YI.wp3 h z s x ho hs hx hlt fun g c w1 h1 h2 => hK' _ _ (hK g c w1 h1 h2)
theorem YI.step3 {ops : Array Oper} {F : Prop} {o : Oper} {a : Act} {K : Act → World → Prop} {Q : Exit → Act → World → Prop} (h : YI w Bx op wd fl im va vt As Ts wr) (z : Int)
    (hgd : o.guard = none) (s x : Operand) (ho : o.op = .call { callee := .builtin .append, args := #[s, x], argTypes := #[22, 22] }) (hs : a.eval s = va) (hx : a.eval x = .slice (some ⟨wr.heap.size, 0, none⟩) 1 1) (hlt : As.length ≤ 1000000) {e' : TypeId}
    (hK : ∀ g c w1, w1.heap[Bx]? = some (.cells #[.int .i64 op, .int .i64 wd, .int .i64 fl, va, .int .u32 im, vt] 38 (0, 0)) → YI w Bx op wd fl im (.slice (some ⟨g, 0, none⟩) (As.length + 1) c) vt (As ++ [z]) Ts (w1.setCell ⟨Bx, 3, none⟩ (.slice (some ⟨g, 0, none⟩) (As.length + 1) c)) → K (a.put o.dst (.slice (some ⟨g, 0, none⟩) (As.length + 1) c)) w1) :
    if Region.wanted o (yielded ops a.tmps) = true then Oper.wp Tryz.prog o a (wr.alloc (.cells #[.int .i64 z] e')) K Q else F := by
  have hw : Region.wanted o (yielded ops a.tmps) = true := by simp [Region.wanted, hgd]
  rw [if_pos hw]
  exact YI.wp3 h z s x ho hs hx hlt hK
/-- 'y.To = append(y.To, z)'. -/
theorem YI.wp5 {o : Oper} {a : Act} {K : Act → World → Prop} {Q : Exit → Act → World → Prop} (h : YI w Bx op wd fl im va vt As Ts wr) (z : Int)
    (s x : Operand) (ho : o.op = .call { callee := .builtin .append, args := #[s, x], argTypes := #[22, 22] }) (hs : a.eval s = vt) (hx : a.eval x = .slice (some ⟨wr.heap.size, 0, none⟩) 1 1) (hlt : Ts.length ≤ 1000000) {e' : TypeId}
    (hK : ∀ g c w1, w1.heap[Bx]? = some (.cells #[.int .i64 op, .int .i64 wd, .int .i64 fl, va, .int .u32 im, vt] 38 (0, 0)) → YI w Bx op wd fl im va (.slice (some ⟨g, 0, none⟩) (Ts.length + 1) c) As (Ts ++ [z]) (w1.setCell ⟨Bx, 5, none⟩ (.slice (some ⟨g, 0, none⟩) (Ts.length + 1) c)) → K (a.put o.dst (.slice (some ⟨g, 0, none⟩) (Ts.length + 1) c)) w1) :
    o.wp Tryz.prog a (wr.alloc (.cells #[.int .i64 z] e')) K Q := by
  obtain ⟨i0, hi, hz0, hz1, hz2⟩ := info_parts info_int
  have hl : (Ts.map (Value.int .i64)).length = Ts.length := List.length_map _
  have hsz := h.gr.size
  have h3 := h.own5
  unfold Own1 at h3
  rw [hl] at h3
  refine wp_append_src s x 22 ho w.heap.size 3 i0 (.int .i64 0) 1 8 Tryz.underlying22 hi hz0 hz1 hz2 rfl (by omega) vt Ts.length (Ts.map (Value.int .i64)) hs (own_gr h3 ((Gr.refl _).alloc _)) _ 1 [.int .i64 z] hx (Src.new1 _ _ _) ?_ ?_ ?_ ?_ ?_
  · intro y hy; simp at hy; subst hy; rfl
  · simp only [maxLen]; omega
  · omega
  · simp; omega
  · intro v' w1 hown' hg hat
    obtain ⟨g, c, rfl⟩ := ownsRow_succ hown'
    obtain ⟨m1, m2, m3, m4, m5, m6, m7, m8⟩ := field_append (i := 5) (n₀ := w.heap.size) (ys := (Ts ++ [z]).map (Value.int .i64)) h.box (by decide) h.own5 (own_snoc hown') hg hat
    obtain ⟨n1, n2⟩ := m6 _ _ h.own3 h.apart.symm
    exact hK g c w1 m1 ⟨m2, n1, m3, n2.symm, h.gr.below (m7 w.heap.size (Nat.le_refl _) h.lx hsz) (Nat.le_refl _), h.lx⟩
theorem YI.app5 {ops : Array Oper} {rest : List Oper} {o : Oper} {a : Act} {Q : Exit → Act → World → Prop} (h : YI w Bx op wd fl im va vt As Ts wr) (z : Int)
    (hgd : o.guard = none) (s x : Operand) (ho : o.op = .call { callee := .builtin .append, args := #[s, x], argTypes := #[22, 22] }) (hs : a.eval s = vt) (hx : a.eval x = .slice (some ⟨wr.heap.size, 0, none⟩) 1 1) (hlt : Ts.length ≤ 1000000) {e' : TypeId}
    (hK : ∀ g c w1, w1.heap[Bx]? = some (.cells #[.int .i64 op, .int .i64 wd, .int .i64 fl, va, .int .u32 im, vt] 38 (0, 0)) → YI w Bx op wd fl im va (.slice (some ⟨g, 0, none⟩) (Ts.length + 1) c) As (Ts ++ [z]) (w1.setCell ⟨Bx, 5, none⟩ (.slice (some ⟨g, 0, none⟩) (Ts.length + 1) c)) → wpList Tryz.prog ops Q rest (a.put o.dst (.slice (some ⟨g, 0, none⟩) (Ts.length + 1) c)) w1) :
    wpList Tryz.prog ops Q (o :: rest) a (wr.alloc (.cells #[.int .i64 z] e')) :=
  wpList_plain hgd fun _ hK' => YI.wp5 h z s x ho hs hx hlt fun g c w1 h1 h2 => hK' _ _ (hK g c w1 h1 h2)
theorem YI.step5 {ops : Array Oper} {F : Prop} {o : Oper} {a : Act} {K : Act → World → Prop} {Q : Exit → Act → World → Prop} (h : YI w Bx op wd fl im va vt As Ts wr) (z : Int)
    (hgd : o.guard = none) (s x : Operand) (ho : o.op = .call { callee := .builtin .append, args := #[s, x], argTypes := #[22, 22] }) (hs : a.eval s = vt) (hx : a.eval x = .slice (some ⟨wr.heap.size, 0, none⟩) 1 1) (hlt : Ts.length ≤ 1000000) {e' : TypeId}
    (hK : ∀ g c w1, w1.heap[Bx]? = some (.cells #[.int .i64 op, .int .i64 wd, .int .i64 fl, va, .int .u32 im, vt] 38 (0, 0)) → YI w Bx op wd fl im va (.slice (some ⟨g, 0, none⟩) (Ts.length + 1) c) As (Ts ++ [z]) (w1.setCell ⟨Bx, 5, none⟩ (.slice (some ⟨g, 0, none⟩) (Ts.length + 1) c)) → K (a.put o.dst (.slice (some ⟨g, 0, none⟩) (Ts.length + 1) c)) w1) :
    if Region.wanted o (yielded ops a.tmps) = true then Oper.wp Tryz.prog o a (wr.alloc (.cells #[.int .i64 z] e')) K Q else F := by
  have hw : Region.wanted o (yielded ops a.tmps) = true := by simp [Region.wanted, hgd]
  rw [if_pos hw]
  exact YI.wp5 h z s x ho hs hx hlt hK
theorem YI.ti (h : YI w Bx op wd fl im va vt As Ts wr) (h3 : As.length ≤ 17592186044416) (h5 : Ts.length ≤ 17592186044416) : TI w.heap.size wr va As ∧ TI w.heap.size wr vt Ts := ⟨h.own3.ti h3, h.own5.ti h5⟩
end
end Go.Proofs.YtiadpjhlomhjeaaGreat

namespace Go.Proofs.YtiadpjhlomhjeaaGreat
open Go.RowKit

/-- A row of n numbers of the call's own, at the head of block hb. -/
def NRow (B hb n : Nat) (w : World) (ns : List Int) : Prop := w.ownsRow B 3 1 (.slice (some ⟨hb, 0, none⟩) n n) n (ns.map (Value.int .i64))
section
variable {B hb n : Nat} {w w' : World} {ns : List Int}
theorem NRow.len (h : NRow B hb n w ns) : ns.length = n := by have := h.1; simpa using this
theorem NRow.cell (h : NRow B hb n w ns) (j : Nat) (z : Int) (hj : ns[j]? = some z) : w.cell? ⟨hb, j, none⟩ = some (.int .i64 z) := by
  have hl := h.len
  have hlt := (List.getElem?_eq_some_iff.1 hj).1
  rw [World.ownsRow.cellAt h j (by omega), List.getElem?_map, hj]; rfl
theorem NRow.frozen (h : NRow B hb n w ns) (j : Nat) : w.frozen? ⟨hb, j, none⟩ = false := World.ownsRow.frozenAt h j
theorem NRow.set_ (h : NRow B hb n w ns) (j : Nat) (z : Int) : NRow B hb n (w.setCell ⟨hb, j, none⟩ (.int .i64 z)) (ns.set j z) := by
  have := (World.ownsRow.stored h j (.int .i64 z)).1
  unfold NRow; rw [List.map_set]; exact this
theorem NRow.gr (h : NRow B hb n w ns) (g : Gr w w') : NRow B hb n w' ns := own_gr h g
theorem NRow.own (h : NRow B hb n w ns) : Own1 B 3 w (.slice (some ⟨hb, 0, none⟩) n n) (ns.map (Value.int .i64)) := by
  have hl := h.len
  unfold Own1
  rw [List.length_map, hl]
  exact h
theorem NRow.lt (h : NRow B hb n w ns) : B ≤ hb ∧ hb < w.heap.size := by
  have := h.own.typed (k := hb) rfl
  exact ⟨this.1, this.2.1⟩
theorem NRow.ti (h : NRow B hb n w ns) (hn : n ≤ 17592186044416) : TI B w (.slice (some ⟨hb, 0, none⟩) n n) ns := h.own.ti (by rw [h.len]; exact hn)
end
/-- 'make([]int, n)'. -/
theorem make_ints {w : World} {ops : Array Oper} {rest : List Oper} {o : Oper} {a : Act} {Q : Exit → Act → World → Prop} (hg : o.guard = none) (l c : Operand) (hop : o.op = Op.makeSlice 22 l c)
    (B n : Nat) (hl : a.eval l = .int .i64 n) (hc : a.eval c = .int .i64 n) (hn : n ≤ 17592186044) (hB : B ≤ w.heap.size)
    (hK : ∀ w', NRow B w.heap.size n w' (List.replicate n 0) → Gr w w' → wpList Tryz.prog ops Q rest (a.put o.dst (.slice (some ⟨w.heap.size, 0, none⟩) n n)) w') :
    wpList Tryz.prog ops Q (o :: rest) a w := by
  obtain ⟨i0, hi, hz0, hz1, hz2⟩ := info_parts info_int
  refine wpList_make_full _ hg l c 22 hop B 3 i0 _ 1 Tryz.underlying22 hi hz0 hz1 _ _ _ _ n hl hc rfl rfl (by rw [hz2]; omega) (by simp only [maxLen]; omega) hB ?_
  intro w1 hown hg1
  rw [Nat.mul_one, show (Value.int .i64 0).cells = #[Value.int .i64 0] from rfl, toList_madeCells_one] at hown
  exact hK w1 (by unfold NRow; rw [List.map_replicate]; exact hown) ((Gr.refl w).grown hg1 (fun k hk => by cases hk))
/-- 'l = append(l, x)'. -/
theorem OwnI.wp {n₀ B : Nat} {wr : World} {o : Oper} {a : Act} {K : Act → World → Prop} {Q : Exit → Act → World → Prop} {v va vt : Value} {l : List Ins} {x : Ins} (h : OwnI n₀ B wr v l) (ha : TI n₀ wr va x.args) (ht : TI n₀ wr vt x.to) (hB : B ≤ wr.heap.size) (hlt : l.length ≤ 1000000)
    (s y : Operand) (ho : o.op = .call { callee := .builtin .append, args := #[s, y], argTypes := #[35, 35] }) (hs : a.eval s = v) (hy : a.eval y = .slice (some ⟨wr.heap.size, 0, none⟩) 1 1) {e' : TypeId}
    (hK : ∀ A c w', OwnI n₀ B w' (.slice A (l.length + 1) c) (l ++ [x]) → Below B wr w' → K (a.put o.dst (.slice A (l.length + 1) c)) w') :
    o.wp Tryz.prog a (wr.alloc (.cells #[.int .i64 x.op, .int .i64 x.width, .int .i64 x.flags, va, .int .u32 x.imm, vt] e')) K Q := by
  obtain ⟨i0, hi, hz0, hz1, hz2⟩ := info_parts info_inst
  obtain ⟨rows, hr, h2⟩ := id h
  have fa := ha
  have ft := ht
  obtain ⟨A3, c3, rfl, -, -, -⟩ := fa
  obtain ⟨A5, c5, rfl, -, -, -⟩ := ft
  refine wp_append_src s y 35 ho B 38 i0 _ 6 80 Tryz.underlying35 hi hz0 hz1 hz2 rfl (by omega) v l.length rows hs (own_gr hr ((Gr.refl _).alloc _)) _ 1 [.int .i64 x.op, .int .i64 x.width, .int .i64 x.flags, .slice A3 x.args.length c3, .int .u32 x.imm, .slice A5 x.to.length c5] hy (Src.newN wr [.int .i64 x.op, .int .i64 x.width, .int .i64 x.flags, .slice A3 x.args.length c3, .int .u32 x.imm, .slice A5 x.to.length c5] e') ?_ ?_ ?_ ?_ ?_
  · intro u hu; simp at hu; rcases hu with rfl | rfl | rfl | rfl | rfl | rfl <;> rfl
  · simp only [maxLen]; omega
  · omega
  · simp; omega
  · intro v' w' hown' hg _
    obtain ⟨A, c, hv, _⟩ := own_form hown'
    subst hv
    obtain ⟨s1, s2⟩ := OwnI.snoc h hr h2 hown' hg ha ht hB
    exact hK A c w' s1 s2
theorem OwnI.app {n₀ B : Nat} {wr : World} {ops : Array Oper} {rest : List Oper} {o : Oper} {a : Act} {Q : Exit → Act → World → Prop} {v va vt : Value} {l : List Ins} {x : Ins} (h : OwnI n₀ B wr v l) (ha : TI n₀ wr va x.args) (ht : TI n₀ wr vt x.to) (hB : B ≤ wr.heap.size) (hlt : l.length ≤ 1000000)
    (hgd : o.guard = none) (s y : Operand) (ho : o.op = .call { callee := .builtin .append, args := #[s, y], argTypes := #[35, 35] }) (hs : a.eval s = v) (hy : a.eval y = .slice (some ⟨wr.heap.size, 0, none⟩) 1 1) {e' : TypeId}
    (hK : ∀ A c w', OwnI n₀ B w' (.slice A (l.length + 1) c) (l ++ [x]) → Below B wr w' → wpList Tryz.prog ops Q rest (a.put o.dst (.slice A (l.length + 1) c)) w') :
    wpList Tryz.prog ops Q (o :: rest) a (wr.alloc (.cells #[.int .i64 x.op, .int .i64 x.width, .int .i64 x.flags, va, .int .u32 x.imm, vt] e')) :=
  wpList_plain hgd fun _ hK' => OwnI.wp h ha ht hB hlt s y ho hs hy fun A c w' h1 h2 => hK' _ _ (hK A c w' h1 h2)
theorem OwnI.step {n₀ B : Nat} {wr : World} {ops : Array Oper} {F : Prop} {o : Oper} {a : Act} {K : Act → World → Prop} {Q : Exit → Act → World → Prop} {v va vt : Value} {l : List Ins} {x : Ins} (h : OwnI n₀ B wr v l) (ha : TI n₀ wr va x.args) (ht : TI n₀ wr vt x.to) (hB : B ≤ wr.heap.size) (hlt : l.length ≤ 1000000)
    (hgd : o.guard = none) (s y : Operand) (ho : o.op = .call { callee := .builtin .append, args := #[s, y], argTypes := #[35, 35] }) (hs : a.eval s = v) (hy : a.eval y = .slice (some ⟨wr.heap.size, 0, none⟩) 1 1) {e' : TypeId}
    (hK : ∀ A c w', OwnI n₀ B w' (.slice A (l.length + 1) c) (l ++ [x]) → Below B wr w' → K (a.put o.dst (.slice A (l.length + 1) c)) w') :
    if Region.wanted o (yielded ops a.tmps) = true then Oper.wp Tryz.prog o a (wr.alloc (.cells #[.int .i64 x.op, .int .i64 x.width, .int .i64 x.flags, va, .int .u32 x.imm, vt] e')) K Q else F := by
  have hw : Region.wanted o (yielded ops a.tmps) = true := by simp [Region.wanted, hgd]
  rw [if_pos hw]
  exact OwnI.wp h ha ht hB hlt s y ho hs hy hK
section
variable {w wb wr wr' : World} {Bo : Nat} {f : Fn} {vp vs vb : Value} {row : Array Value} {k : Nat}
/-- 'out.Blocks = append(out.Blocks, block)': and rows of numbers and of instructions lie as they lay. -/
theorem CInv.append2 {ops : Array Oper} {rest : List Oper} {o : Oper} {a : Act} {Q : Exit → Act → World → Prop} {u : Value} {l : List Ins} (h : CInv w wb Bo f vp vs row k vb wr) (hu : TB w.heap.size wr u l) (hl : f.blocks[k]? = some l) (hk : k < 1000000000)
    (hgd : o.guard = none) (s x : Operand) (ho : o.op = .call { callee := .builtin .append, args := #[s, x], argTypes := #[23, 23] }) (hs : a.eval s = vb) (hx : a.eval x = .slice (some ⟨wr.heap.size, 0, none⟩) 1 1) {e' : TypeId}
    (hK : ∀ g c w1, w1.heap[Bo]? = some (.cells #[vp, .int .i64 f.ret, vs, vb] 25 (0, 0)) → CInv w wb Bo f vp vs row (k + 1) (.slice (some ⟨g, 0, none⟩) (k + 1) c) (w1.setCell ⟨Bo, 3, none⟩ (.slice (some ⟨g, 0, none⟩) (k + 1) c)) → Kt wr (w1.setCell ⟨Bo, 3, none⟩ (.slice (some ⟨g, 0, none⟩) (k + 1) c)) → wpList Tryz.prog ops Q rest (a.put o.dst (.slice (some ⟨g, 0, none⟩) (k + 1) c)) w1) :
    wpList Tryz.prog ops Q (o :: rest) a (wr.alloc (.cells #[u] e')) := by
  obtain ⟨i, hi, hz, hsize, hby⟩ := info_parts info_blk
  obtain ⟨us, h1, h2, h3, h4, h5, h6, h7, h8, h9, h10, h11, h12⟩ := h
  have hu0 := hu
  obtain ⟨Au, cu, rfl, -, -, -⟩ := hu
  refine wpList_append_src hgd s x 23 ho wb.heap.size 35 i _ 1 24 Tryz.underlying23 hi hz hsize hby rfl (by omega) vb us.length us hs (own_gr h2 ((Gr.refl _).alloc _)) _ 1 [.slice Au l.length cu] hx (Src.new1 _ _ _) ?_ ?_ ?_ ?_ ?_
  · intro y hy; simp at hy; subst hy; rfl
  · simp only [maxLen]; omega
  · omega
  · simp; omega
  · intro v' w1 hown' hg hat
    obtain ⟨g, c, rfl⟩ := ownsRow_succ hown'
    have hown2 : Own1 wb.heap.size 35 w1 (.slice (some ⟨g, 0, none⟩) (us.length + 1) c) (us ++ [.slice Au l.length cu]) := by unfold Own1; rw [List.length_append]; exact hown'
    obtain ⟨m1, m2, m3, m4, m5, m6, m7, m8⟩ := field_append (i := 3) (n₀ := wb.heap.size) (ys := us ++ [.slice Au l.length cu]) h1 (by decide) h2 hown2 hg hat
    rw [h3] at hown2 m2 m3 m7 m8 ⊢
    have hsz1 : wr.heap.size ≤ w1.heap.size := by have := hg.size; simp at this; omega
    have hkt : Kt wr (w1.setCell ⟨Bo, 3, none⟩ (.slice (some ⟨g, 0, none⟩) (k + 1) c)) := fun b cc t hb ht => m8 b cc t hb (by rcases ht with rfl | rfl <;> decide) (fun e => by
      rw [e, h1] at hb; rcases ht with rfl | rfl <;> cases hb)
    refine hK g c w1 m1 ⟨us ++ [.slice Au l.length cu], m2, m3, by simp [h3], fun j l' hj hl' => ?_, h5.kt hkt, h6.kt hkt, h7.below (m7 w.heap.size h12 (by omega) h7.size) (Nat.le_refl _), m8 _ _ _ h8 (by decide) (by omega), m8 _ _ _ h9 (by decide) (by omega), ?_, h11, h12⟩ hkt
    · rcases Nat.lt_or_ge j k with hjk | hjk
      · obtain ⟨u', q1, q2⟩ := h4 j l' hjk hl'
        exact ⟨u', by rw [List.getElem?_append_left (by omega)]; exact q1, q2.kt hkt⟩
      · obtain rfl : j = k := by omega
        rw [hl] at hl'; cases hl'
        exact ⟨_, by rw [← h3]; simp, hu0.kt hkt⟩
    · have := (KeepsWalks.setCell w1 ⟨Bo, 3, none⟩ (.slice (some ⟨g, 0, none⟩) (k + 1) c)).size
      omega
end
end Go.Proofs.YtiadpjhlomhjeaaGreat

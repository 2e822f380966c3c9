/- Slices that a function itself makes: appends of whatever source; what is owned can be read. -/
import Derived.Test.YtiadpjhlomhjeaaGr
import Derived.Maps.AppendAt
namespace Go.Proofs.Ytiadpjhlomhjeaa
open Go.RowKit

theorem addr_add (b o j : Nat) : Addr.add ⟨b, o, none⟩ j = ⟨b, o + j, none⟩ := by
  unfold Addr.add
  split <;> simp_all

/-- The slice value u holds m elements, the cells news. -/
def Src (w : World) (u : Value) (size m : Nat) (news : List Value) : Prop :=
  ∃ A c, u = .slice A m c ∧ news.length = m * size ∧ (0 < m → ∃ ad, A = some ad ∧ ∀ j x, news[j]? = some x → w.cell? (ad.add j) = some x)

section
variable {P : Program} {w : World}

theorem run_append_src (base : Nat) (t ty e : TypeId) (i : TypeInfo) (z : Value) (size bytes : Nat) (ht : P.underlying t = some (.slice e)) (hi : P.info? e = some i) (hz : i.zero = some z)
    (hsize : i.size = size) (hby : i.bytes = bytes) (hzs : z.cells.size = size) (hsz : 0 < size) (v : Value) (n : Nat) (xs : List Value) (hown : w.ownsRow base e size v n xs)
    (u : Value) (m : Nat) (news : List Value) (hu : Src w u size m news) (h1 : ∀ x ∈ news, x.oneCell' = true) (h63 : n + m ≤ maxLen) (hbytes : (n + m) * bytes ≤ 140737488355328) (hbase : base ≤ w.heap.size) :
    ∃ v' w', (Builtin.append_ #[t, t] ty #[v, u]).run P w = .ok v' w' ∧ w'.ownsRow base e size v' (n + m) (xs ++ news) ∧ w.grownBy w' v.ownBlock ∧ (v'.ownBlock = v.ownBlock ∨ v'.ownBlock = some w.heap.size) := by
  obtain ⟨A, c, rfl, hlen, hcell⟩ := hu
  cases A with
  | none =>
    have hm : m = 0 := by
      rcases Nat.eq_zero_or_pos m with h | h
      · exact h
      · obtain ⟨_, h', _⟩ := hcell h; cases h'
    subst hm
    have hn : news = [] := List.eq_nil_of_length_eq_zero (by simpa using hlen)
    subst hn
    refine ⟨v, w, ?_, by simpa using hown, World.grownBy.refl w _, .inl rfl⟩
    rcases hown.2 with ⟨rfl, rfl⟩ | ⟨g, cap, cur, rfl, _, _, hnc, _⟩
    · simp [Builtin.append_, run_underlying ht, sizeOf, typeInfo, hi, Builtin.lenOf, Builtin.firstCells]
    · simp [Builtin.append_, run_underlying ht, sizeOf, typeInfo, hi, Builtin.lenOf, Builtin.firstCells, hnc, storeCells]
  | some ad =>
    have hc : ∀ j x, news[j]? = some x → w.cell? (ad.add j) = some x := by
      intro j x hx
      rcases Nat.eq_zero_or_pos m with h | h
      · subst h
        have hn : news = [] := List.eq_nil_of_length_eq_zero (by simpa using hlen)
        subst hn; simp at hx
      · obtain ⟨ad', e', hc⟩ := hcell h
        cases e'
        exact hc j x hx
    obtain ⟨v', w', hr, h2, h3, _, h5⟩ := run_append_own_at (P := P) w base t ty e i z size bytes ht hi hz hsize hby hzs hsz v n xs hown ad m c news hlen hc h1 h63 hbytes hbase
    exact ⟨v', w', hr, h2, h3, h5⟩

theorem wp_append_src {o : Oper} {a : Act} {K : Act → World → Prop} {Q : Exit → Act → World → Prop} (s x : Operand) (t : TypeId)
    (ho : o.op = .call { callee := .builtin .append, args := #[s, x], argTypes := #[t, t] })
    (base : Nat) (e : TypeId) (i : TypeInfo) (z : Value) (size bytes : Nat) (ht : P.underlying t = some (.slice e)) (hi : P.info? e = some i) (hz : i.zero = some z)
    (hsize : i.size = size) (hby : i.bytes = bytes) (hzs : z.cells.size = size) (hsz : 0 < size) (v : Value) (n : Nat) (xs : List Value) (hs : a.eval s = v) (hown : w.ownsRow base e size v n xs)
    (u : Value) (m : Nat) (news : List Value) (hx : a.eval x = u) (hu : Src w u size m news) (h1 : ∀ x ∈ news, x.oneCell' = true) (h63 : n + m ≤ maxLen) (hbytes : (n + m) * bytes ≤ 140737488355328) (hbase : base ≤ w.heap.size)
    (h : ∀ v' w', w'.ownsRow base e size v' (n + m) (xs ++ news) → w.grownBy w' v.ownBlock → (v'.ownBlock = v.ownBlock ∨ v'.ownBlock = some w.heap.size) → K (a.put o.dst v') w') : o.wp P a w K Q := by
  obtain ⟨v', w', hr, h2, h3, h5⟩ := run_append_src (P := P) (w := w) base t o.type e i z size bytes ht hi hz hsize hby hzs hsz v n xs hown u m news hu h1 h63 hbytes hbase
  unfold Oper.wp execOp
  simp only [ho, resolve, invoke, builtin, Sem.run_bind, Sem.run_pure, Result.andThen_ok, List.map_toArray, List.map_cons, List.map_nil, hs, hx, hr]
  exact h v' w' h2 h3 h5

theorem wpList_append_src {ops : Array Oper} {rest : List Oper} {o : Oper} {a : Act} {Q : Exit → Act → World → Prop} (hgd : o.guard = none) (s x : Operand) (t : TypeId)
    (ho : o.op = .call { callee := .builtin .append, args := #[s, x], argTypes := #[t, t] })
    (base : Nat) (e : TypeId) (i : TypeInfo) (z : Value) (size bytes : Nat) (ht : P.underlying t = some (.slice e)) (hi : P.info? e = some i) (hz : i.zero = some z)
    (hsize : i.size = size) (hby : i.bytes = bytes) (hzs : z.cells.size = size) (hsz : 0 < size) (v : Value) (n : Nat) (xs : List Value) (hs : a.eval s = v) (hown : w.ownsRow base e size v n xs)
    (u : Value) (m : Nat) (news : List Value) (hx : a.eval x = u) (hu : Src w u size m news) (h1 : ∀ x ∈ news, x.oneCell' = true) (h63 : n + m ≤ maxLen) (hbytes : (n + m) * bytes ≤ 140737488355328) (hbase : base ≤ w.heap.size)
    (h : ∀ v' w', w'.ownsRow base e size v' (n + m) (xs ++ news) → w.grownBy w' v.ownBlock → (v'.ownBlock = v.ownBlock ∨ v'.ownBlock = some w.heap.size) → wpList P ops Q rest (a.put o.dst v') w') : wpList P ops Q (o :: rest) a w :=
  wpList_plain hgd fun _ hK => wp_append_src s x t ho base e i z size bytes ht hi hz hsize hby hzs hsz v n xs hs hown u m news hx hu h1 h63 hbytes hbase fun v' w' h2 h3 h5 => hK _ _ (h v' w' h2 h3 h5)
end

section
variable {w w' : World} {base : Nat} {e : TypeId} {size n : Nat} {v : Value} {xs : List Value}

theorem Src.ints {B : Nat} {u : Value} {zs : List Int} (h : IntsAt B w u zs) : Src w u 1 zs.length (zs.map (Value.int .i64)) := by
  obtain ⟨A, c, rfl, _, _, h3⟩ := h
  refine ⟨A, c, rfl, by simp, fun hp => ?_⟩
  obtain ⟨b, off, rfl, _, hc⟩ := h3 hp
  refine ⟨_, rfl, fun j x hx => ?_⟩
  rw [List.getElem?_map] at hx
  obtain ⟨z, hz, rfl⟩ := Option.map_eq_some_iff.1 hx
  rw [addr_add]
  exact hc j z hz

/-- The slice of one element that an append lays first. -/
theorem Src.new1 (w : World) (x : Value) (t : TypeId) : Src (w.alloc (.cells #[x] t)) (.slice (some ⟨w.heap.size, 0, none⟩) 1 1) 1 1 [x] := by
  refine ⟨_, _, rfl, rfl, fun _ => ⟨_, rfl, fun j y hy => ?_⟩⟩
  match j, hy with
  | 0, hy => simp at hy; subst hy; simp [Addr.add]
/-- .. of one element of whatever size. -/
theorem Src.newN (w : World) (cs : List Value) (t : TypeId) : Src (w.alloc (.cells cs.toArray t)) (.slice (some ⟨w.heap.size, 0, none⟩) 1 1) cs.length 1 cs := by
  refine ⟨_, _, rfl, by simp, fun _ => ⟨_, rfl, fun j y hy => ?_⟩⟩
  have := cell_of_row (w.alloc (.cells cs.toArray t)) w.heap.size j cs.toArray t (0, 0) (heap_alloc_new w _)
  rw [addr_add, Nat.zero_add, this]; simpa using hy

theorem oneCell_int (k : IntKind) (zs : List Int) : ∀ u ∈ zs.map (Value.int k), u.oneCell' = true := by
  intro u hu; obtain ⟨z, _, rfl⟩ := List.mem_map.1 hu; rfl

theorem own_nil (w : World) (base : Nat) (e : TypeId) (size : Nat) : w.ownsRow base e size (.slice none 0 0) 0 [] := World.ownsRow_nil _ _ _ _

/-- What a value looks like that owns a row. -/
theorem own_form (h : w.ownsRow base e size v n xs) : ∃ A cap, v = .slice A n cap ∧ n ≤ cap ∧ (∀ g, A = some g → base ≤ g.block ∧ g.block < w.heap.size ∧ g.off = 0 ∧ g.spot = none) ∧ (A = none → n = 0) := by
  rcases h.2 with ⟨rfl, rfl⟩ | ⟨g, cap, cur, rfl, hb, hg, hn, _⟩
  · exact ⟨none, 0, rfl, Nat.le_refl _, fun _ e => (by cases e), fun _ => rfl⟩
  · exact ⟨_, cap, rfl, hn, fun _ e => (by cases e; exact ⟨hb, (Array.getElem?_eq_some_iff.1 hg).1, rfl, rfl⟩), fun e => (by cases e)⟩
theorem own_block_lt (h : w.ownsRow base e size v n xs) : ∀ k, v.ownBlock = some k → base ≤ k ∧ k < w.heap.size := by
  intro k hk
  rcases h.2 with ⟨rfl, _⟩ | ⟨g, cap, cur, rfl, hb, hg, _⟩
  · simp [Value.ownBlock] at hk
  · simp [Value.ownBlock] at hk; subst hk; exact ⟨hb, (Array.getElem?_eq_some_iff.1 hg).1⟩
theorem own_gr (h : w.ownsRow base e size v n xs) (g : Gr w w') : w'.ownsRow base e size v n xs := by
  obtain ⟨h1, h2⟩ := h
  refine ⟨h1, ?_⟩
  rcases h2 with h2 | ⟨k, cap, cur, hv, hb, hg, r⟩
  · exact .inl h2
  · exact .inr ⟨k, cap, cur, hv, hb, (g.heap k (Array.getElem?_eq_some_iff.1 hg).1).trans hg, r⟩
/-- What is owned stays owned while another row is appended to. -/
theorem own_other {row : Option Nat} (h : w.ownsRow base e size v n xs) (g : w.grownBy w' row) (hne : ∀ k, v.ownBlock = some k → row ≠ some k) : w'.ownsRow base e size v n xs := by
  obtain ⟨h1, h2⟩ := h
  refine ⟨h1, ?_⟩
  rcases h2 with h2 | ⟨k, cap, cur, hv, hb, hg, r⟩
  · exact .inl h2
  · exact .inr ⟨k, cap, cur, hv, hb, (g.block k (Array.getElem?_eq_some_iff.1 hg).1 (fun e' => hne k (by rw [hv]; rfl) e'.symm)).trans hg, r⟩
theorem own_cells (h : w.ownsRow base e size v n xs) {A : Option Addr} {c : Nat} (hv : v = .slice A n c) (hn : 0 < n) : ∃ b, A = some ⟨b, 0, none⟩ ∧ b < w.heap.size ∧ base ≤ b ∧ ∀ j, j < n * size → w.cell? ⟨b, j, none⟩ = xs[j]? := by
  subst hv
  rcases h.2 with ⟨_, h0⟩ | ⟨g, cap, cur, hv, hb, hg, _⟩
  · omega
  · injection hv with h1 h2 h3
    subst h1; subst h3
    exact ⟨g, rfl, (Array.getElem?_eq_some_iff.1 hg).1, hb, fun j hj => World.ownsRow.cellAt h j hj⟩
theorem own_ints {zs : List Int} (h : w.ownsRow base e 1 v zs.length (zs.map (Value.int .i64))) (hn : zs.length ≤ 17592186044416) : IntsAt w.heap.size w v zs := by
  obtain ⟨A, cap, hv, hc, _, _⟩ := own_form h
  refine ⟨A, cap, hv, hc, hn, fun hp => ?_⟩
  obtain ⟨b, rfl, hb, _, hcell⟩ := own_cells h hv hp
  refine ⟨b, 0, rfl, hb, fun j z hz => ?_⟩
  have hj : j < zs.length := (List.getElem?_eq_some_iff.1 hz).1
  rw [Nat.zero_add, hcell j (by omega), List.getElem?_map, hz]; rfl
theorem own_bools {zs : List Bool} (h : w.ownsRow base e 1 v zs.length (zs.map Value.bool)) (hn : zs.length ≤ 17592186044416) : BoolsAt w.heap.size w v zs := by
  obtain ⟨A, cap, hv, hc, _, _⟩ := own_form h
  refine ⟨A, cap, hv, hc, hn, fun hp => ?_⟩
  obtain ⟨b, rfl, hb, _, hcell⟩ := own_cells h hv hp
  refine ⟨b, 0, rfl, hb, fun j z hz => ?_⟩
  have hj : j < zs.length := (List.getElem?_eq_some_iff.1 hz).1
  rw [Nat.zero_add, hcell j (by omega), List.getElem?_map, hz]; rfl
/-- A row of slices of numbers is a table. -/
theorem own_tab {us : List Value} {t : List (List Int)} (h : w.ownsRow base e 1 v t.length us) (hn : t.length ≤ 17592186044416)
    (hu : ∀ (j : Nat) (l : List Int), t[j]? = some l → ∃ u, us[j]? = some u ∧ IntsAt w.heap.size w u l) : TabAt w.heap.size w v t := by
  obtain ⟨A, cap, hv, hc, _, _⟩ := own_form h
  refine ⟨A, cap, hv, hc, hn, fun hp => ?_⟩
  obtain ⟨b, rfl, hb, _, hcell⟩ := own_cells h hv hp
  refine ⟨b, 0, rfl, hb, fun j l hl => ?_⟩
  have hj : j < t.length := (List.getElem?_eq_some_iff.1 hl).1
  obtain ⟨u, hu1, hu2⟩ := hu j l hl
  exact ⟨u, by rw [Nat.zero_add, hcell j (by omega), hu1], hu2⟩
end

/-- v owns a row of one-cell elements xs, in a block from B on. -/
def Own1 (B : Nat) (e : TypeId) (w : World) (v : Value) (xs : List Value) : Prop := w.ownsRow B e 1 v xs.length xs
theorem Own1.nil (B : Nat) (e : TypeId) (w : World) : Own1 B e w (.slice none 0 0) [] := World.ownsRow_nil _ _ _ _
theorem Own1.gr {B : Nat} {e : TypeId} {w w' : World} {v : Value} {xs : List Value} (h : Own1 B e w v xs) (g : Gr w w') : Own1 B e w' v xs := own_gr h g
theorem Own1.alloc {B : Nat} {e : TypeId} {w : World} {v : Value} {xs : List Value} (h : Own1 B e w v xs) (o : Obj) : Own1 B e (w.alloc o) v xs := own_gr h ((Gr.refl _).alloc o)
theorem Own1.form {B : Nat} {e : TypeId} {w : World} {v : Value} {xs : List Value} (h : Own1 B e w v xs) : ∃ A c, v = .slice A xs.length c := by
  obtain ⟨A, c, hv, _⟩ := own_form h
  exact ⟨A, c, hv⟩
theorem Own1.ints {B : Nat} {e : TypeId} {w : World} {v : Value} {zs : List Int} (h : Own1 B e w v (zs.map (Value.int .i64))) (hn : zs.length ≤ 17592186044416) : IntsAt w.heap.size w v zs :=
  own_ints (by have := h; unfold Own1 at this; rwa [List.length_map] at this) hn
theorem Own1.bools {B : Nat} {e : TypeId} {w : World} {v : Value} {zs : List Bool} (h : Own1 B e w v (zs.map Value.bool)) (hn : zs.length ≤ 17592186044416) : BoolsAt w.heap.size w v zs :=
  own_bools (by have := h; unfold Own1 at this; rwa [List.length_map] at this) hn
theorem Gr.below {w a b : World} {B : Nat} (h : Gr w a) (k : Below B a b) (hB : w.heap.size ≤ B) : Gr w b := Below.trans h (k.mono hB)

/-- One element more. The element has just been laid in a block of its own. -/
theorem app1 {P : Program} {w : World} {ops : Array Oper} {rest : List Oper} {o : Oper} {a : Act} {Q : Exit → Act → World → Prop} {B : Nat} {t e : TypeId} {i : TypeInfo} {z : Value} {bytes : Nat}
    (ht : P.underlying t = some (.slice e)) (hi : P.info? e = some i) (hz : i.zero = some z) (hsize : i.size = 1) (hby : i.bytes = bytes) (hzs : z.cells.size = 1) (hbb : bytes ≤ 128)
    (hgd : o.guard = none) (s x : Operand) (ho : o.op = .call { callee := .builtin .append, args := #[s, x], argTypes := #[t, t] })
    {v : Value} {xs : List Value} (hs : a.eval s = v) (hown : Own1 B e w v xs) {y : Value} {e' : TypeId} (hy : y.oneCell' = true) (hx : a.eval x = .slice (some ⟨w.heap.size, 0, none⟩) 1 1) (hlt : xs.length < 1099511627776) (hB : B ≤ w.heap.size)
    (h : ∀ A c w', Own1 B e w' (.slice A (xs.length + 1) c) (xs ++ [y]) → Below B w w' → (w.alloc (.cells #[y] e')).grownBy w' v.ownBlock → wpList P ops Q rest (a.put o.dst (.slice A (xs.length + 1) c)) w') :
    wpList P ops Q (o :: rest) a (w.alloc (.cells #[y] e')) := by
  refine wpList_append_src hgd s x t ho B e i z 1 bytes ht hi hz hsize hby hzs (by omega) v xs.length xs hs (own_gr hown ((Gr.refl _).alloc _)) _ 1 [y] hx (Src.new1 _ _ _) ?_ ?_ ?_ ?_ ?_
  · intro u hu; simp at hu; subst hu; exact hy
  · simp only [maxLen]; omega
  · have : (xs.length + 1) * bytes ≤ (xs.length + 1) * 128 := Nat.mul_le_mul_left _ hbb
    omega
  · simp; omega
  · intro v' w' hown' hg _
    have hown'' : Own1 B e w' v' (xs ++ [y]) := by unfold Own1; rw [List.length_append]; exact hown'
    obtain ⟨A, c, hv⟩ := hown''.form
    rw [List.length_append] at hv
    subst hv
    refine h A c w' hown'' ?_ hg
    refine (((Below.refl B w).alloc hB _)).grown hg (by simp; omega) (fun k hk => (own_block_lt hown k hk).1)

/-- The elements of another slice more. -/
theorem appN {P : Program} {w : World} {ops : Array Oper} {rest : List Oper} {o : Oper} {a : Act} {Q : Exit → Act → World → Prop} {B : Nat} {t e : TypeId} {i : TypeInfo} {z : Value} {bytes : Nat}
    (ht : P.underlying t = some (.slice e)) (hi : P.info? e = some i) (hz : i.zero = some z) (hsize : i.size = 1) (hby : i.bytes = bytes) (hzs : z.cells.size = 1)
    (hgd : o.guard = none) (s x : Operand) (ho : o.op = .call { callee := .builtin .append, args := #[s, x], argTypes := #[t, t] })
    {v : Value} {xs : List Value} (hs : a.eval s = v) (hown : Own1 B e w v xs) {u : Value} {ys : List Value} (hy : ∀ y ∈ ys, y.oneCell' = true) (hx : a.eval x = u) (hu : Src w u 1 ys.length ys)
    (h63 : xs.length + ys.length ≤ 17592186044416) (hlt : (xs.length + ys.length) * bytes ≤ 140737488355328) (hB : B ≤ w.heap.size)
    (h : ∀ A c w', Own1 B e w' (.slice A (xs.length + ys.length) c) (xs ++ ys) → Below B w w' → w.grownBy w' v.ownBlock → wpList P ops Q rest (a.put o.dst (.slice A (xs.length + ys.length) c)) w') :
    wpList P ops Q (o :: rest) a w := by
  refine wpList_append_src hgd s x t ho B e i z 1 bytes ht hi hz hsize hby hzs (by omega) v xs.length xs hs hown _ ys.length ys hx hu hy ?_ hlt hB ?_
  · simp only [maxLen]; omega
  · intro v' w' hown' hg _
    have hown'' : Own1 B e w' v' (xs ++ ys) := by unfold Own1; rw [List.length_append]; exact hown'
    obtain ⟨A, c, hv⟩ := hown''.form
    rw [List.length_append] at hv
    subst hv
    exact h A c w' hown'' ((Below.refl B w).grown hg hB (fun k hk => (own_block_lt hown k hk).1)) hg

theorem Own1.empty {B : Nat} (w : World) (e : TypeId) (hB : B ≤ w.heap.size) : Own1 B e (w.alloc (.cells #[] e)) (.slice (some ⟨w.heap.size, 0, none⟩) 0 0) [] :=
  ⟨rfl, .inr ⟨w.heap.size, 0, #[], rfl, hB, heap_alloc_new w _, Nat.le_refl _, by simp [maxLen], rfl, rfl⟩⟩
/-- Two rows of different element types lie in different blocks. -/
theorem Own1.ne {B B' : Nat} {e e' : TypeId} {w : World} {v v' : Value} {xs ys : List Value} (h : Own1 B e w v xs) (h' : Own1 B' e' w v' ys) (hne : e ≠ e') : ∀ k, v.ownBlock = some k → v'.ownBlock ≠ some k := by
  intro k hk hk'
  rcases h.2 with ⟨rfl, _⟩ | ⟨g, cap, cur, rfl, _, hg, _⟩
  · simp [Value.ownBlock] at hk
  rcases h'.2 with ⟨rfl, _⟩ | ⟨g', cap', cur', rfl, _, hg', _⟩
  · simp [Value.ownBlock] at hk'
  simp [Value.ownBlock] at hk hk'
  subst hk; subst hk'
  rw [hg] at hg'
  simp at hg'
  exact hne hg'.2
theorem Own1.other {B : Nat} {e : TypeId} {w w' : World} {v : Value} {xs : List Value} {row : Option Nat} (h : Own1 B e w v xs) (g : w.grownBy w' row) (hne : ∀ k, v.ownBlock = some k → row ≠ some k) : Own1 B e w' v xs := own_other h g hne

/-- The values us own the rows of the table t. -/
def Tab1 (B : Nat) (e : TypeId) (w : World) (us : List Value) (t : List (List Int)) : Prop :=
  us.length = t.length ∧ ∀ (j : Nat) (l : List Int), t[j]? = some l → ∃ u, us[j]? = some u ∧ Own1 B e w u (l.map (Value.int .i64)) ∧ l.length ≤ 17592186044416
theorem Tab1.nil (B : Nat) (e : TypeId) (w : World) : Tab1 B e w [] [] := ⟨rfl, fun j l h => by simp at h⟩
theorem Tab1.gr {B : Nat} {e : TypeId} {w w' : World} {us : List Value} {t : List (List Int)} (h : Tab1 B e w us t) (g : Gr w w') : Tab1 B e w' us t :=
  ⟨h.1, fun j l hl => by obtain ⟨u, h1, h2, h3⟩ := h.2 j l hl; exact ⟨u, h1, h2.gr g, h3⟩⟩
theorem Tab1.grown {B B' : Nat} {e e' : TypeId} {w w' : World} {us : List Value} {t : List (List Int)} {v : Value} {xs : List Value} (h : Tab1 B e w us t) (hv : Own1 B' e' w v xs) (hne : e ≠ e') (g : w.grownBy w' v.ownBlock) : Tab1 B e w' us t :=
  ⟨h.1, fun j l hl => by obtain ⟨u, h1, h2, h3⟩ := h.2 j l hl; exact ⟨u, h1, h2.other g (fun k hk => h2.ne hv hne k hk), h3⟩⟩
theorem Tab1.snoc {B : Nat} {e : TypeId} {w : World} {us : List Value} {t : List (List Int)} {u : Value} {l : List Int} (h : Tab1 B e w us t) (hu : Own1 B e w u (l.map (Value.int .i64))) (hl : l.length ≤ 17592186044416) : Tab1 B e w (us ++ [u]) (t ++ [l]) := by
  refine ⟨by simp [h.1], fun j l' hl' => ?_⟩
  rcases Nat.lt_trichotomy j t.length with hj | hj | hj
  · rw [List.getElem?_append_left hj] at hl'
    rw [List.getElem?_append_left (by rw [h.1]; exact hj)]
    exact h.2 j l' hl'
  · subst hj
    simp at hl'; subst hl'
    exact ⟨u, by rw [← h.1]; simp, hu, hl⟩
  · rw [List.getElem?_eq_none (by simp; omega)] at hl'; cases hl'
theorem Tab1.tab {B B' : Nat} {e e' : TypeId} {w : World} {us : List Value} {t : List (List Int)} {v : Value} (h : Tab1 B e w us t) (hv : Own1 B' e' w v us) (hn : t.length ≤ 17592186044416) : TabAt w.heap.size w v t :=
  own_tab (by have := hv; unfold Own1 at this; rwa [h.1] at this) hn (fun j l hl => by obtain ⟨u, h1, h2, h3⟩ := h.2 j l hl; exact ⟨u, h1, h2.ints h3⟩)

/-- The numbers of another slice more. -/
theorem appI {P : Program} {w : World} {ops : Array Oper} {rest : List Oper} {o : Oper} {a : Act} {Q : Exit → Act → World → Prop} {B : Nat} {t e : TypeId} {i : TypeInfo} {z : Value}
    (ht : P.underlying t = some (.slice e)) (hi : P.info? e = some i) (hz : i.zero = some z) (hsize : i.size = 1) (hby : i.bytes = 8) (hzs : z.cells.size = 1)
    (hgd : o.guard = none) (s x : Operand) (ho : o.op = .call { callee := .builtin .append, args := #[s, x], argTypes := #[t, t] })
    {v : Value} {xs : List Value} (hs : a.eval s = v) (hown : Own1 B e w v xs) {C : Nat} {u : Value} {ys : List Int} (hu : Hid (IntsAt C w u ys)) (hx : a.eval x = u)
    (hlt : xs.length + ys.length ≤ 17592186044416) (hB : B ≤ w.heap.size)
    (h : ∀ A c w', Own1 B e w' (.slice A (xs.length + ys.length) c) (xs ++ ys.map (Value.int .i64)) → Below B w w' → w.grownBy w' v.ownBlock → wpList P ops Q rest (a.put o.dst (.slice A (xs.length + ys.length) c)) w') :
    wpList P ops Q (o :: rest) a w := by
  have hl : (ys.map (Value.int .i64)).length = ys.length := List.length_map _
  refine appN ht hi hz hsize hby hzs hgd s x ho hs hown (ys := ys.map (Value.int .i64)) (oneCell_int _ _) hx (by rw [hl]; exact Src.ints hu.out) (by rw [hl]; exact hlt) (by rw [hl]; omega) hB ?_
  rw [hl]
  exact h
end Go.Proofs.Ytiadpjhlomhjeaa

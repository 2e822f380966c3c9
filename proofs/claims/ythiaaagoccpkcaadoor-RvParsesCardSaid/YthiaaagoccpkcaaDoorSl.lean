/- Slices: what they read as; slices that a function itself makes; bytes as strings. No program in sight. -/
import Derived.Test.YthiaaagoccpkcaaDoorGr
import Derived.Maps.AppendAt
import Derived.Laws.Cells
import Derived.Laws.BytesString
namespace Go.Proofs.YthiaaagoccpkcaaDoor
set_option linter.unusedSimpArgs false
set_option linter.unusedVariables false
open Go.RowKit

theorem addr_add (b o j : Nat) : Addr.add ⟨b, o, none⟩ j = ⟨b, o + j, none⟩ := by
  unfold Addr.add
  split <;> simp_all

/-- The slice value u holds m elements, the cells news. -/
def Src (w : World) (u : Value) (size m : Nat) (news : List Value) : Prop :=
  ∃ A c, u = .slice A m c ∧ news.length = m * size ∧ (0 < m → ∃ ad, A = some ad ∧ ∀ j x, news[j]? = some x → w.cell? (ad.add j) = some x)

section
variable {P : Program} {w : World}

theorem run_append_src (base : Nat) (t ty e : TypeId) (i : TypeInfo) (z : Value) (size bytes : Nat) (ht : P.underlying t = some (.slice e)) (hi : P.info? e = some i) (hz : i.zero = some z)
    (hsize : i.size = size) (hby : i.bytes = bytes) (hzs : z.cells.size = size) (hsz : 0 < size) (v : Value) (n : Nat) (xs : List Value) (hown : w.ownsRow base e size v n xs)
    (u : Value) (m : Nat) (news : List Value) (hu : Src w u size m news) (h1 : ∀ x ∈ news, x.oneCell' = true) (h63 : n + m ≤ maxLen) (hbytes : (n + m) * bytes ≤ 140737488355328) (hbase : base ≤ w.heap.size) :
    ∃ v' w', (Builtin.append_ #[t, t] ty #[v, u]).run P w = .ok v' w' ∧ w'.ownsRow base e size v' (n + m) (xs ++ news) ∧ w.grownBy w' v.ownBlock ∧ (v'.ownBlock = v.ownBlock ∨ v'.ownBlock = some w.heap.size) := by
  obtain ⟨A, c, rfl, hlen, hcell⟩ := hu
  cases A with
  | none =>
    have hm : m = 0 := by
      rcases Nat.eq_zero_or_pos m with h | h
      · exact h
      · obtain ⟨_, h', _⟩ := hcell h; cases h'
    subst hm
    have hn : news = [] := List.eq_nil_of_length_eq_zero (by simpa using hlen)
    subst hn
    refine ⟨v, w, ?_, by simpa using hown, World.grownBy.refl w _, .inl rfl⟩
    rcases hown.2 with ⟨rfl, rfl⟩ | ⟨g, cap, cur, rfl, _, _, hnc, _⟩
    · simp [Builtin.append_, run_underlying ht, sizeOf, typeInfo, hi, Builtin.lenOf, Builtin.firstCells]
    · simp [Builtin.append_, run_underlying ht, sizeOf, typeInfo, hi, Builtin.lenOf, Builtin.firstCells, hnc, storeCells]
  | some ad =>
    have hc : ∀ j x, news[j]? = some x → w.cell? (ad.add j) = some x := by
      intro j x hx
      rcases Nat.eq_zero_or_pos m with h | h
      · subst h
        have hn : news = [] := List.eq_nil_of_length_eq_zero (by simpa using hlen)
        subst hn; simp at hx
      · obtain ⟨ad', e', hc⟩ := hcell h
        cases e'
        exact hc j x hx
    obtain ⟨v', w', hr, h2, h3, _, h5⟩ := run_append_own_at (P := P) w base t ty e i z size bytes ht hi hz hsize hby hzs hsz v n xs hown ad m c news hlen hc h1 h63 hbytes hbase
    exact ⟨v', w', hr, h2, h3, h5⟩

theorem wp_append_src {o : Oper} {a : Act} {K : Act → World → Prop} {Q : Exit → Act → World → Prop} (s x : Operand) (t : TypeId)
    (ho : o.op = .call { callee := .builtin .append, args := #[s, x], argTypes := #[t, t] })
    (base : Nat) (e : TypeId) (i : TypeInfo) (z : Value) (size bytes : Nat) (ht : P.underlying t = some (.slice e)) (hi : P.info? e = some i) (hz : i.zero = some z)
    (hsize : i.size = size) (hby : i.bytes = bytes) (hzs : z.cells.size = size) (hsz : 0 < size) (v : Value) (n : Nat) (xs : List Value) (hs : a.eval s = v) (hown : w.ownsRow base e size v n xs)
    (u : Value) (m : Nat) (news : List Value) (hx : a.eval x = u) (hu : Src w u size m news) (h1 : ∀ x ∈ news, x.oneCell' = true) (h63 : n + m ≤ maxLen) (hbytes : (n + m) * bytes ≤ 140737488355328) (hbase : base ≤ w.heap.size)
    (h : ∀ v' w', w'.ownsRow base e size v' (n + m) (xs ++ news) → w.grownBy w' v.ownBlock → (v'.ownBlock = v.ownBlock ∨ v'.ownBlock = some w.heap.size) → K (a.put o.dst v') w') : o.wp P a w K Q := by
  obtain ⟨v', w', hr, h2, h3, h5⟩ := run_append_src (P := P) (w := w) base t o.type e i z size bytes ht hi hz hsize hby hzs hsz v n xs hown u m news hu h1 h63 hbytes hbase
  unfold Oper.wp execOp
  simp only [ho, resolve, invoke, builtin, Sem.run_bind, Sem.run_pure, Result.andThen_ok, List.map_toArray, List.map_cons, List.map_nil, hs, hx, hr]
  exact h v' w' h2 h3 h5

theorem wpList_append_src {ops : Array Oper} {rest : List Oper} {o : Oper} {a : Act} {Q : Exit → Act → World → Prop} (hgd : o.guard = none) (s x : Operand) (t : TypeId)
    (ho : o.op = .call { callee := .builtin .append, args := #[s, x], argTypes := #[t, t] })
    (base : Nat) (e : TypeId) (i : TypeInfo) (z : Value) (size bytes : Nat) (ht : P.underlying t = some (.slice e)) (hi : P.info? e = some i) (hz : i.zero = some z)
    (hsize : i.size = size) (hby : i.bytes = bytes) (hzs : z.cells.size = size) (hsz : 0 < size) (v : Value) (n : Nat) (xs : List Value) (hs : a.eval s = v) (hown : w.ownsRow base e size v n xs)
    (u : Value) (m : Nat) (news : List Value) (hx : a.eval x = u) (hu : Src w u size m news) (h1 : ∀ x ∈ news, x.oneCell' = true) (h63 : n + m ≤ maxLen) (hbytes : (n + m) * bytes ≤ 140737488355328) (hbase : base ≤ w.heap.size)
    (h : ∀ v' w', w'.ownsRow base e size v' (n + m) (xs ++ news) → w.grownBy w' v.ownBlock → (v'.ownBlock = v.ownBlock ∨ v'.ownBlock = some w.heap.size) → wpList P ops Q rest (a.put o.dst v') w') : wpList P ops Q (o :: rest) a w :=
  wpList_plain hgd fun _ hK => wp_append_src s x t ho base e i z size bytes ht hi hz hsize hby hzs hsz v n xs hs hown u m news hx hu h1 h63 hbytes hbase fun v' w' h2 h3 h5 => hK _ _ (h v' w' h2 h3 h5)
end

section
variable {w w' : World} {base : Nat} {e : TypeId} {size n : Nat} {v : Value} {xs : List Value}

/-- The slice of one element that an append lays first. -/
theorem Src.new1 (w : World) (x : Value) (t : TypeId) : Src (w.alloc (.cells #[x] t)) (.slice (some ⟨w.heap.size, 0, none⟩) 1 1) 1 1 [x] := by
  refine ⟨_, _, rfl, rfl, fun _ => ⟨_, rfl, fun j y hy => ?_⟩⟩
  match j, hy with
  | 0, hy => simp at hy; subst hy; simp [Addr.add]
/-- .. of one element of whatever size. -/
theorem Src.newN (w : World) (cs : List Value) (t : TypeId) : Src (w.alloc (.cells cs.toArray t)) (.slice (some ⟨w.heap.size, 0, none⟩) 1 1) cs.length 1 cs := by
  refine ⟨_, _, rfl, by simp, fun _ => ⟨_, rfl, fun j y hy => ?_⟩⟩
  have := cell_of_row (w.alloc (.cells cs.toArray t)) w.heap.size j cs.toArray t (0, 0) (heap_alloc_new w _)
  rw [addr_add, Nat.zero_add, this]; simpa using hy

theorem own_nil (w : World) (base : Nat) (e : TypeId) (size : Nat) : w.ownsRow base e size (.slice none 0 0) 0 [] := World.ownsRow_nil _ _ _ _

/-- What a value looks like that owns a row. -/
theorem own_form (h : w.ownsRow base e size v n xs) : ∃ A cap, v = .slice A n cap ∧ n ≤ cap ∧ (∀ g, A = some g → base ≤ g.block ∧ g.block < w.heap.size ∧ g.off = 0 ∧ g.spot = none) ∧ (A = none → n = 0) := by
  rcases h.2 with ⟨rfl, rfl⟩ | ⟨g, cap, cur, rfl, hb, hg, hn, _⟩
  · exact ⟨none, 0, rfl, Nat.le_refl _, fun _ e => (by cases e), fun _ => rfl⟩
  · exact ⟨_, cap, rfl, hn, fun _ e => (by cases e; exact ⟨hb, (Array.getElem?_eq_some_iff.1 hg).1, rfl, rfl⟩), fun e => (by cases e)⟩
theorem own_block_lt (h : w.ownsRow base e size v n xs) : ∀ k, v.ownBlock = some k → base ≤ k ∧ k < w.heap.size := by
  intro k hk
  rcases h.2 with ⟨rfl, _⟩ | ⟨g, cap, cur, rfl, hb, hg, _⟩
  · simp [Value.ownBlock] at hk
  · simp [Value.ownBlock] at hk; subst hk; exact ⟨hb, (Array.getElem?_eq_some_iff.1 hg).1⟩
theorem own_gr (h : w.ownsRow base e size v n xs) (g : Gr w w') : w'.ownsRow base e size v n xs := by
  obtain ⟨h1, h2⟩ := h
  refine ⟨h1, ?_⟩
  rcases h2 with h2 | ⟨k, cap, cur, hv, hb, hg, r⟩
  · exact .inl h2
  · exact .inr ⟨k, cap, cur, hv, hb, (g.heap k (Array.getElem?_eq_some_iff.1 hg).1).trans hg, r⟩
/-- What is owned stays owned while another row is appended to. -/
theorem own_other {row : Option Nat} (h : w.ownsRow base e size v n xs) (g : w.grownBy w' row) (hne : ∀ k, v.ownBlock = some k → row ≠ some k) : w'.ownsRow base e size v n xs := by
  obtain ⟨h1, h2⟩ := h
  refine ⟨h1, ?_⟩
  rcases h2 with h2 | ⟨k, cap, cur, hv, hb, hg, r⟩
  · exact .inl h2
  · exact .inr ⟨k, cap, cur, hv, hb, (g.block k (Array.getElem?_eq_some_iff.1 hg).1 (fun e' => hne k (by rw [hv]; rfl) e'.symm)).trans hg, r⟩
theorem own_cells (h : w.ownsRow base e size v n xs) {A : Option Addr} {c : Nat} (hv : v = .slice A n c) (hn : 0 < n) : ∃ b, A = some ⟨b, 0, none⟩ ∧ b < w.heap.size ∧ base ≤ b ∧ ∀ j, j < n * size → w.cell? ⟨b, j, none⟩ = xs[j]? := by
  subst hv
  rcases h.2 with ⟨_, h0⟩ | ⟨g, cap, cur, hv, hb, hg, _⟩
  · omega
  · injection hv with h1 h2 h3
    subst h1; subst h3
    exact ⟨g, rfl, (Array.getElem?_eq_some_iff.1 hg).1, hb, fun j hj => World.ownsRow.cellAt h j hj⟩
end

/-- v owns a row of one-cell elements xs, in a block from B on. -/
def Own1 (B : Nat) (e : TypeId) (w : World) (v : Value) (xs : List Value) : Prop := w.ownsRow B e 1 v xs.length xs
theorem Own1.nil (B : Nat) (e : TypeId) (w : World) : Own1 B e w (.slice none 0 0) [] := World.ownsRow_nil _ _ _ _
theorem Own1.gr {B : Nat} {e : TypeId} {w w' : World} {v : Value} {xs : List Value} (h : Own1 B e w v xs) (g : Gr w w') : Own1 B e w' v xs := own_gr h g
theorem Own1.alloc {B : Nat} {e : TypeId} {w : World} {v : Value} {xs : List Value} (h : Own1 B e w v xs) (o : Obj) : Own1 B e (w.alloc o) v xs := own_gr h ((Gr.refl _).alloc o)
theorem Own1.form {B : Nat} {e : TypeId} {w : World} {v : Value} {xs : List Value} (h : Own1 B e w v xs) : ∃ A c, v = .slice A xs.length c := by
  obtain ⟨A, c, hv, _⟩ := own_form h
  exact ⟨A, c, hv⟩
theorem Gr.below {w a b : World} {B : Nat} (h : Gr w a) (k : Below B a b) (hB : w.heap.size ≤ B) : Gr w b := Below.trans h (k.mono hB)

/-- One element more. The element has just been laid in a block of its own. -/
theorem app1 {P : Program} {w : World} {ops : Array Oper} {rest : List Oper} {o : Oper} {a : Act} {Q : Exit → Act → World → Prop} {B : Nat} {t e : TypeId} {i : TypeInfo} {z : Value} {bytes : Nat}
    (ht : P.underlying t = some (.slice e)) (hi : P.info? e = some i) (hz : i.zero = some z) (hsize : i.size = 1) (hby : i.bytes = bytes) (hzs : z.cells.size = 1) (hbb : bytes ≤ 128)
    (hgd : o.guard = none) (s x : Operand) (ho : o.op = .call { callee := .builtin .append, args := #[s, x], argTypes := #[t, t] })
    {v : Value} {xs : List Value} (hs : a.eval s = v) (hown : Own1 B e w v xs) {y : Value} {e' : TypeId} (hy : y.oneCell' = true) (hx : a.eval x = .slice (some ⟨w.heap.size, 0, none⟩) 1 1) (hlt : xs.length < 1099511627776) (hB : B ≤ w.heap.size)
    (h : ∀ A c w', Own1 B e w' (.slice A (xs.length + 1) c) (xs ++ [y]) → Below B w w' → (w.alloc (.cells #[y] e')).grownBy w' v.ownBlock → wpList P ops Q rest (a.put o.dst (.slice A (xs.length + 1) c)) w') :
    wpList P ops Q (o :: rest) a (w.alloc (.cells #[y] e')) := by
  refine wpList_append_src hgd s x t ho B e i z 1 bytes ht hi hz hsize hby hzs (by omega) v xs.length xs hs (own_gr hown ((Gr.refl _).alloc _)) _ 1 [y] hx (Src.new1 _ _ _) ?_ ?_ ?_ ?_ ?_
  · intro u hu; simp at hu; subst hu; exact hy
  · simp only [maxLen]; omega
  · have : (xs.length + 1) * bytes ≤ (xs.length + 1) * 128 := Nat.mul_le_mul_left _ hbb
    omega
  · simp; omega
  · intro v' w' hown' hg _
    have hown'' : Own1 B e w' v' (xs ++ [y]) := by unfold Own1; rw [List.length_append]; exact hown'
    obtain ⟨A, c, hv⟩ := hown''.form
    rw [List.length_append] at hv
    subst hv
    refine h A c w' hown'' ?_ hg
    refine (((Below.refl B w).alloc hB _)).grown hg (by simp; omega) (fun k hk => (own_block_lt hown k hk).1)

/-- The elements of another slice more. -/
theorem appN {P : Program} {w : World} {ops : Array Oper} {rest : List Oper} {o : Oper} {a : Act} {Q : Exit → Act → World → Prop} {B : Nat} {t e : TypeId} {i : TypeInfo} {z : Value} {bytes : Nat}
    (ht : P.underlying t = some (.slice e)) (hi : P.info? e = some i) (hz : i.zero = some z) (hsize : i.size = 1) (hby : i.bytes = bytes) (hzs : z.cells.size = 1)
    (hgd : o.guard = none) (s x : Operand) (ho : o.op = .call { callee := .builtin .append, args := #[s, x], argTypes := #[t, t] })
    {v : Value} {xs : List Value} (hs : a.eval s = v) (hown : Own1 B e w v xs) {u : Value} {ys : List Value} (hy : ∀ y ∈ ys, y.oneCell' = true) (hx : a.eval x = u) (hu : Src w u 1 ys.length ys)
    (h63 : xs.length + ys.length ≤ 17592186044416) (hlt : (xs.length + ys.length) * bytes ≤ 140737488355328) (hB : B ≤ w.heap.size)
    (h : ∀ A c w', Own1 B e w' (.slice A (xs.length + ys.length) c) (xs ++ ys) → Below B w w' → w.grownBy w' v.ownBlock → wpList P ops Q rest (a.put o.dst (.slice A (xs.length + ys.length) c)) w') :
    wpList P ops Q (o :: rest) a w := by
  refine wpList_append_src hgd s x t ho B e i z 1 bytes ht hi hz hsize hby hzs (by omega) v xs.length xs hs hown _ ys.length ys hx hu hy ?_ hlt hB ?_
  · simp only [maxLen]; omega
  · intro v' w' hown' hg _
    have hown'' : Own1 B e w' v' (xs ++ ys) := by unfold Own1; rw [List.length_append]; exact hown'
    obtain ⟨A, c, hv⟩ := hown''.form
    rw [List.length_append] at hv
    subst hv
    exact h A c w' hown'' ((Below.refl B w).grown hg hB (fun k hk => (own_block_lt hown k hk).1)) hg

theorem Own1.empty {B : Nat} (w : World) (e : TypeId) (hB : B ≤ w.heap.size) : Own1 B e (w.alloc (.cells #[] e)) (.slice (some ⟨w.heap.size, 0, none⟩) 0 0) [] :=
  ⟨rfl, .inr ⟨w.heap.size, 0, #[], rfl, hB, heap_alloc_new w _, Nat.le_refl _, by simp [maxLen], rfl, rfl⟩⟩
/-- Two rows of different element types lie in different blocks. -/
theorem Own1.ne {B B' : Nat} {e e' : TypeId} {w : World} {v v' : Value} {xs ys : List Value} (h : Own1 B e w v xs) (h' : Own1 B' e' w v' ys) (hne : e ≠ e') : ∀ k, v.ownBlock = some k → v'.ownBlock ≠ some k := by
  intro k hk hk'
  rcases h.2 with ⟨rfl, _⟩ | ⟨g, cap, cur, rfl, _, hg, _⟩
  · simp [Value.ownBlock] at hk
  rcases h'.2 with ⟨rfl, _⟩ | ⟨g', cap', cur', rfl, _, hg', _⟩
  · simp [Value.ownBlock] at hk'
  simp [Value.ownBlock] at hk hk'
  subst hk; subst hk'
  rw [hg] at hg'
  simp at hg'
  exact hne hg'.2
theorem Own1.other {B : Nat} {e : TypeId} {w w' : World} {v : Value} {xs : List Value} {row : Option Nat} (h : Own1 B e w v xs) (g : w.grownBy w' row) (hne : ∀ k, v.ownBlock = some k → row ≠ some k) : Own1 B e w' v xs := own_other h g hne

/-- v is a slice of n elements; where there is one it begins at block b < B, offset off, of which R speaks. -/
def SlAt (B : Nat) (v : Value) (n : Nat) (R : Nat → Nat → Prop) : Prop :=
  ∃ A cap, v = .slice A n cap ∧ n ≤ cap ∧ cap ≤ maxLen ∧ n ≤ 140737488351232 ∧ (0 < n → ∃ b off, A = some ⟨b, off, none⟩ ∧ b < B ∧ R b off)
theorem SlAt.imp {B B' : Nat} {v : Value} {n : Nat} {R R' : Nat → Nat → Prop} (h : SlAt B v n R) (hB : B ≤ B') (hr : ∀ b off, b < B → R b off → R' b off) : SlAt B' v n R' := by
  obtain ⟨A, cap, rfl, h1, h2, h3, h5⟩ := h
  refine ⟨A, cap, rfl, h1, h2, h3, fun e => ?_⟩
  obtain ⟨b, off, e', hb, hR⟩ := h5 e
  exact ⟨b, off, e', by omega, hr b off hb hR⟩
/-- v reads as the bytes bs. -/
def BytesAt (w : World) (v : Value) (bs : List Int) : Prop :=
  (∀ z ∈ bs, 0 ≤ z ∧ z < 256) ∧ SlAt w.heap.size v bs.length fun b off => ∀ j z, bs[j]? = some z → w.cell? ⟨b, off + j, none⟩ = some (.int .u8 z)
theorem BytesAt.gr {w w' : World} {v : Value} {bs : List Int} (h : BytesAt w v bs) (g : Gr w w') : BytesAt w' v bs :=
  ⟨h.1, SlAt.imp h.2 g.size fun b off hb hR j z hz => (g.cell _ _ hb).trans (hR j z hz)⟩
theorem BytesAt.nil (w : World) : BytesAt w (.slice none 0 0) [] := ⟨by simp, none, 0, rfl, Nat.le_refl _, by simp [maxLen], by simp, fun e => by simp at e⟩
theorem cell_of_own {w : World} {base : Nat} {e : TypeId} {size n : Nat} {v : Value} {xs : List Value} (h : w.ownsRow base e size v n xs) : SlAt w.heap.size v n (fun b off => off = 0 ∧ ∀ j, j < n * size → w.cell? ⟨b, off + j, none⟩ = xs[j]?) ∨ 140737488351232 < n := by
  rcases Nat.lt_or_ge 140737488351232 n with hn | hn
  · exact .inr hn
  · left
    rcases h.2 with ⟨rfl, h0⟩ | ⟨g, cap, cur, rfl, hb, hg, hnc, hcm, r⟩
    · subst h0
      exact ⟨none, 0, rfl, Nat.le_refl _, by simp [maxLen], by omega, fun e => by omega⟩
    · refine ⟨_, cap, rfl, hnc, hcm, by omega, fun e => ?_⟩
      · exact ⟨g, 0, rfl, (Array.getElem?_eq_some_iff.1 hg).1, rfl, fun j hj => by rw [Nat.zero_add]; exact World.ownsRow.cellAt h j hj⟩
/-- What is owned can be read. -/
theorem own_bytes {w : World} {B : Nat} {v : Value} {bs : List Int} {e : TypeId} (h : Own1 B e w v (bs.map (Value.int .u8))) (hb : ∀ z ∈ bs, 0 ≤ z ∧ z < 256) (hn : bs.length ≤ 140737488351232) : BytesAt w v bs := by
  have h' := h
  unfold Own1 at h'
  rw [List.length_map] at h'
  refine ⟨hb, ?_⟩
  rcases cell_of_own h' with q | q
  · refine SlAt.imp q (Nat.le_refl _) fun b off _ hR j z hz => ?_
    have hj : j < bs.length := (List.getElem?_eq_some_iff.1 hz).1
    rw [hR.2 j (by omega), List.getElem?_map, hz]; rfl
  · omega
/-- The string of bytes. -/
def bytesB (bs : List Int) : ByteArray := ⟨(bs.map fun n => UInt8.ofNat n.toNat).toArray⟩
theorem fold_push : ∀ (bs : List Int) (s : ByteArray), bs.foldl (fun r n => r.push (UInt8.ofNat n.toNat)) s = ⟨s.data ++ (bs.map fun n => UInt8.ofNat n.toNat).toArray⟩
  | [], s => by simp
  | b :: l, s => by
    rw [List.foldl_cons, fold_push l]
    have e : (s.push (UInt8.ofNat b.toNat)).data = s.data.push (UInt8.ofNat b.toNat) := rfl
    rw [e]
    simp
theorem run_bytes {P : Program} {w : World} {src dst e : TypeId} {v : Value} {bs : List Int} (h : BytesAt w v bs) (hs : P.underlying src = some (.slice e)) (he : P.underlying e = some (.int .u8)) (hd : P.underlying dst = some .string) :
    (convert src dst v).run P w = .ok (.string (bytesB bs)) w := by
  obtain ⟨-, A, cap, rfl, -, -, -, h5⟩ := h
  rw [run_convert_bytes_string w src dst e A _ cap hs he hd]
  rcases Nat.eq_zero_or_pos bs.length with hz | hz
  · have e0 : bs = [] := List.eq_nil_of_length_eq_zero hz
    subst e0
    cases A with
    | none =>
      simp [Conv.bytesToString, bytesB]
      try rfl
    | some ad =>
      have hl := run_loadCells_list (P := P) (w := w) ad [] (fun j x hx => by simp at hx)
      rw [run_bytesToString w ad ([] : List Int).length cap [] hl]
      simp [bytesB]
      try rfl
  · obtain ⟨b, off, rfl, hb, hR⟩ := h5 hz
    rw [run_bytesToString w ⟨b, off, none⟩ bs.length cap bs (by
      have hl := run_loadCells_list (P := P) (w := w) ⟨b, off, none⟩ (bs.map (Value.int .u8)) (fun j x hx => by
        rw [List.getElem?_map] at hx
        obtain ⟨z, hz, rfl⟩ := Option.map_eq_some_iff.1 hx
        rw [addr_add]
        exact hR j z hz)
      rw [List.length_map] at hl
      exact hl), fold_push]
    simp [bytesB]
    try rfl
theorem bytesB_inj {a b : List Int} (ha : ∀ z ∈ a, 0 ≤ z ∧ z < 256) (hb : ∀ z ∈ b, 0 ≤ z ∧ z < 256) (h : bytesB a = bytesB b) : a = b := by
  have e : a.map (fun n => UInt8.ofNat n.toNat) = b.map (fun n => UInt8.ofNat n.toNat) := by
    have := congrArg (fun s : ByteArray => s.data.toList) h
    simpa [bytesB] using this
  have key : ∀ l : List Int, (∀ z ∈ l, 0 ≤ z ∧ z < 256) → (l.map (fun n => UInt8.ofNat n.toNat)).map (fun c : UInt8 => (c.toNat : Int)) = l := by
    intro l hl
    rw [List.map_map]
    conv => rhs; rw [← List.map_id l]
    refine List.map_congr_left fun z hz => ?_
    have := hl z hz
    simp only [Function.comp_apply, id, UInt8.toNat_ofNat']
    omega
  rw [← key a ha, ← key b hb, e]
end Go.Proofs.YthiaaagoccpkcaaDoor

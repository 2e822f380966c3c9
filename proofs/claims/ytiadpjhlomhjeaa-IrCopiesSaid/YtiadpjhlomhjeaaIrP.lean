/- What the document's rounds reach is what ways lead to. No program in sight. -/
import Derived.Test.YtiadpjhlomhjeaaIrG
namespace Go.Proofs.Ytiadpjhlomhjeaa

namespace Ir
section
variable {g : List (List Int)} {but : Int}
theorem From.ne {v i : Nat} (h : From g but v i) : (v : Int) ≠ but := by cases h with | here _ q => exact q | step _ _ _ q _ _ => exact q
theorem From.end_ne {v i : Nat} (h : From g but v i) : (i : Int) ≠ but := by
  induction h with
  | here _ q => exact q
  | step _ _ _ _ _ _ ih => exact ih
theorem From.snoc {v i : Nat} (h : From g but v i) : ∀ {t : Int}, t ∈ g.getD i [] → (t.toNat : Int) ≠ but → From g but v t.toNat := by
  induction h with
  | here v q => exact fun ht hn => .step v _ _ q ht (.here _ hn)
  | step v i t q ht _ ih => exact fun ht' hn => .step v _ t q ht (ih ht' hn)

def Sound (g : List (List Int)) (but : Int) (out : List Bool) : Prop := ∀ i : Nat, out[i]? = some true → From g but 0 i
def Leq (a b : List Bool) : Prop := a.length = b.length ∧ ∀ i : Nat, a[i]? = some true → b[i]? = some true
theorem Leq.refl (a : List Bool) : Leq a a := ⟨rfl, fun _ h => h⟩
theorem Leq.trans {a b c : List Bool} (h : Leq a b) (k : Leq b c) : Leq a c := ⟨h.1.trans k.1, fun i hi => k.2 i (h.2 i hi)⟩
theorem Leq.antisymm {a b : List Bool} (h : Leq a b) (k : Leq b a) : a = b := by
  apply List.ext_getElem?
  intro i
  cases ha : a[i]? with
  | none => rw [List.getElem?_eq_none_iff] at ha; rw [eq_comm, List.getElem?_eq_none_iff]; have := h.1; omega
  | some x =>
    have hl := (List.getElem?_eq_some_iff.1 ha).1
    have hb : i < b.length := by have := h.1; omega
    obtain ⟨y, hy⟩ : ∃ y, b[i]? = some y := ⟨b[i], by simp [hb]⟩
    cases x with
    | true => rw [h.2 i ha]
    | false =>
      cases y with
      | true => have := k.2 i hy; rw [ha] at this; cases this
      | false => exact hy.symm
theorem cnt_lt : ∀ (s s' : List Bool), Leq s s' → s ≠ s' → cnt s' < cnt s
  | [], [], _, h => absurd rfl h
  | [], _ :: _, h, _ => by have := h.1; simp at this
  | _ :: _, [], h, _ => by have := h.1; simp at this
  | a :: r, b :: q, hl, h => by
    have hrq : Leq r q := ⟨by have := hl.1; simpa using this, fun i hi => by have := hl.2 (i + 1) (by simpa using hi); simpa using this⟩
    have h0 := hl.2 0
    by_cases e : r = q
    · subst e
      unfold cnt
      cases a <;> cases b <;> simp_all
    · have := cnt_lt r q hrq e
      unfold cnt at *
      cases a <;> cases b <;> simp_all <;> omega

theorem edge_leq (out : List Bool) (t : Int) : Leq out (Ref.spreadEdge but out t) := by
  unfold Ref.spreadEdge
  split
  · exact Leq.refl _
  · refine ⟨by simp, fun i hi => ?_⟩
    rw [List.getElem?_set]
    split
    · rename_i e; subst e; have := (List.getElem?_eq_some_iff.1 hi).1; simp [this]
    · exact hi
theorem edges_leq (l : List Int) : ∀ (out : List Bool), Leq out (l.foldl (Ref.spreadEdge but) out) := by
  induction l with
  | nil => exact fun _ => Leq.refl _
  | cons t r ih => exact fun out => (edge_leq out t).trans (ih _)
theorem block_leq (out : List Bool) (b : Nat) : Leq out (Ref.spreadBlock but g out b) := by
  unfold Ref.spreadBlock
  split
  · exact edges_leq _ _
  · exact Leq.refl _
theorem blocks_leq (l : List Nat) : ∀ (out : List Bool), Leq out (l.foldl (Ref.spreadBlock but g) out) := by
  induction l with
  | nil => exact fun _ => Leq.refl _
  | cons t r ih => exact fun out => (block_leq out t).trans (ih _)

theorem edge_sound {out : List Bool} {t : Int} (h : Sound g but out) (ht : t ≠ but → From g but 0 t.toNat) : Sound g but (Ref.spreadEdge but out t) := by
  unfold Ref.spreadEdge
  split
  · exact h
  · rename_i hn
    intro i hi
    rw [List.getElem?_set] at hi
    split at hi
    · rename_i e; subst e; exact ht hn
    · exact h i hi
theorem edges_sound (l : List Int) : ∀ {out : List Bool}, Sound g but out → (∀ t ∈ l, t ≠ but → From g but 0 t.toNat) → Sound g but (l.foldl (Ref.spreadEdge but) out) := by
  induction l with
  | nil => exact fun h _ => h
  | cons t r ih => exact fun h ht => ih (edge_sound h (ht t (by simp))) fun u hu => ht u (by simp [hu])
theorem getD_true {out : List Bool} {b : Nat} (h : out.getD b false = true) : out[b]? = some true := by
  cases q : out[b]? with
  | none => simp [List.getD, q] at h
  | some x => simp [List.getD, q] at h; rw [h]
theorem block_sound {out : List Bool} {b : Nat} (hok : ∀ l ∈ g, ∀ t ∈ l, 0 ≤ t ∧ t < (g.length : Int)) (h : Sound g but out) : Sound g but (Ref.spreadBlock but g out b) := by
  unfold Ref.spreadBlock
  split
  · rename_i hb
    refine edges_sound _ h fun t ht hn => (h b (getD_true hb)).snoc ht ?_
    cases hl : g[b]? with
    | none => simp [List.getD, hl] at ht
    | some l =>
      have hm : t ∈ l := by simpa [List.getD, hl] using ht
      have := (hok l (List.mem_of_getElem? hl) t hm).1
      omega
  · exact h
theorem blocks_sound (hok : ∀ l ∈ g, ∀ t ∈ l, 0 ≤ t ∧ t < (g.length : Int)) (l : List Nat) : ∀ {out : List Bool}, Sound g but out → Sound g but (l.foldl (Ref.spreadBlock but g) out) := by
  induction l with
  | nil => exact fun h => h
  | cons t r ih => exact fun h => ih (block_sound hok h)
theorem spread_sound (hok : ∀ l ∈ g, ∀ t ∈ l, 0 ≤ t ∧ t < (g.length : Int)) : ∀ (n : Nat) {out : List Bool}, Sound g but out → Sound g but (Ref.spread but g n out)
  | 0, _, h => h
  | n + 1, _, h => spread_sound hok n (blocks_sound hok _ h)
theorem spread_leq : ∀ (n : Nat) (out : List Bool), Leq out (Ref.spread but g n out)
  | 0, _ => Leq.refl _
  | n + 1, out => (blocks_leq _ out).trans (spread_leq n _)

/-- Nothing more is reached from what is reached. -/
def Closed (g : List (List Int)) (but : Int) (out : List Bool) : Prop := ∀ b : Nat, out[b]? = some true → ∀ t ∈ g.getD b [], t = but ∨ out[t.toNat]? = some true
theorem edges_set (l : List Int) : ∀ (out : List Bool) (t : Int), t ∈ l → t ≠ but → t.toNat < out.length → (l.foldl (Ref.spreadEdge but) out)[t.toNat]? = some true := by
  induction l with
  | nil => exact fun _ _ h => by simp at h
  | cons u r ih =>
    intro out t ht hn hl
    rcases List.mem_cons.1 ht with rfl | ht
    · refine (edges_leq r _).2 _ ?_
      unfold Ref.spreadEdge
      rw [if_neg hn]
      simp [hl]
    · exact ih _ t ht hn (by rw [← (edge_leq out u).1]; exact hl)
theorem blocks_set (hok : ∀ l ∈ g, ∀ t ∈ l, 0 ≤ t ∧ t < (g.length : Int)) (l : List Nat) : ∀ (out : List Bool), out.length = g.length → ∀ b ∈ l, out[b]? = some true → ∀ t ∈ g.getD b [], t = but ∨ (l.foldl (Ref.spreadBlock but g) out)[t.toNat]? = some true := by
  induction l with
  | nil => exact fun _ _ _ h => by simp at h
  | cons c r ih =>
    intro out hl b hb hob t ht
    rcases List.mem_cons.1 hb with rfl | hb
    · by_cases e : t = but
      · exact .inl e
      · right
        refine (blocks_leq r _).2 _ ?_
        unfold Ref.spreadBlock
        rw [if_pos (by simp [List.getD, hob])]
        refine edges_set _ _ t ht e ?_
        cases hgl : g[b]? with
        | none => simp [List.getD, hgl] at ht
        | some q =>
          have hm : t ∈ q := by simpa [List.getD, hgl] using ht
          have := hok q (List.mem_of_getElem? hgl) t hm
          omega
    · exact ih _ (by rw [← (block_leq out c).1]; exact hl) b hb ((block_leq out c).2 b hob) t ht
theorem round_closed (hok : ∀ l ∈ g, ∀ t ∈ l, 0 ≤ t ∧ t < (g.length : Int)) {out : List Bool} (hl : out.length = g.length) (h : Ref.spreadRound but g out = out) : Closed g but out := by
  intro b hb t ht
  have hbl := (List.getElem?_eq_some_iff.1 hb).1
  have := blocks_set (but := but) hok (List.range g.length) out hl b (by simp; omega) hb t ht
  have e : (List.range g.length).foldl (Ref.spreadBlock but g) out = out := h
  rwa [e] at this
theorem spread_fix {out : List Bool} (h : Ref.spreadRound but g out = out) : ∀ n, Ref.spread but g n out = out
  | 0 => rfl
  | n + 1 => by rw [Ref.spread, h]; exact spread_fix h n
theorem spread_closed (hok : ∀ l ∈ g, ∀ t ∈ l, 0 ≤ t ∧ t < (g.length : Int)) : ∀ (n : Nat) (out : List Bool), out.length = g.length → cnt out ≤ n → Closed g but (Ref.spread but g n out)
  | 0, out, hl, hc => by
    intro b hb t ht
    right
    have hbl := (List.getElem?_eq_some_iff.1 hb).1
    cases hgl : g[b]? with
    | none => simp [List.getD, hgl] at ht
    | some q =>
      have hm : t ∈ q := by simpa [List.getD, hgl] using ht
      have h2 := hok q (List.mem_of_getElem? hgl) t hm
      show out[t.toNat]? = some true
      have hlt : t.toNat < out.length := by omega
      cases q2 : out[t.toNat] with
      | true => simp [hlt, q2]
      | false =>
        have := cnt_set out t.toNat (by simp [hlt, q2])
        omega
  | n + 1, out, hl, hc => by
    by_cases e : Ref.spreadRound but g out = out
    · rw [spread_fix e]; exact round_closed hok hl e
    · have h1 : Leq out (Ref.spreadRound but g out) := blocks_leq _ out
      have := cnt_lt _ _ h1 (fun q => e q.symm)
      exact spread_closed hok n _ (by rw [← h1.1]; exact hl) (by omega)

theorem reached_from (hn : 1 ≤ g.length) (hok : ∀ l ∈ g, ∀ t ∈ l, 0 ≤ t ∧ t < (g.length : Int)) : ∀ i : Nat, (Ref.reached g but)[i]? = some true ↔ From g but 0 i := by
  intro i
  unfold Ref.reached
  by_cases h0 : but = 0
  · rw [if_pos h0]
    constructor
    · intro h; rw [List.getElem?_replicate] at h; split at h <;> cases h
    · intro h; exact absurd h0.symm h.ne
  · rw [if_neg h0]
    have hs : Sound g but ((List.replicate g.length false).set 0 true) := by
      intro i hi
      rw [List.getElem?_set] at hi
      split at hi
      · rename_i e; subst e; exact .here 0 (fun e => h0 e.symm)
      · rw [List.getElem?_replicate] at hi; split at hi <;> cases hi
    constructor
    · exact spread_sound hok _ hs i
    · intro hf
      have hcl := spread_closed (but := but) hok g.length ((List.replicate g.length false).set 0 true) (by simp) (by unfold cnt; exact Nat.le_trans List.countP_le_length (by simp))
      have key : ∀ v i, From g but v i → (Ref.spread but g g.length ((List.replicate g.length false).set 0 true))[v]? = some true → (Ref.spread but g g.length ((List.replicate g.length false).set 0 true))[i]? = some true := by
        intro v i hf
        induction hf with
        | here v h => exact fun h => h
        | step v i t h ht hr ih =>
          intro hv
          apply ih
          rcases hcl v hv t ht with h6 | h6
          · exfalso
            have h7 := hr.ne
            cases hgl : g[v]? with
            | none => simp [List.getD, hgl] at ht
            | some q =>
              have hm : t ∈ q := by simpa [List.getD, hgl] using ht
              have := hok q (List.mem_of_getElem? hgl) t hm
              omega
          · exact h6
      refine key 0 i hf ((spread_leq _ _).2 0 ?_)
      rw [List.getElem?_set, if_pos rfl, if_pos (by rw [List.length_replicate]; omega)]
/-- The two sets agree. -/
theorem IsReach.get {s : List Bool} (h : IsReach g but s) (hn : 1 ≤ g.length) (hok : ∀ l ∈ g, ∀ t ∈ l, 0 ≤ t ∧ t < (g.length : Int)) (i : Nat) (hi : i < 10) : s[i]? = some ((Ref.reached g but).getD i false) := by
  have h1 := h.2 i
  have h2 := reached_from (but := but) hn hok i
  obtain ⟨y, hy⟩ : ∃ y, s[i]? = some y := ⟨s[i]'(by have := h.1; omega), by simp [show i < s.length by have := h.1; omega]⟩
  cases y with
  | true =>
    have := h2.2 (h1.1 hy)
    simp [List.getD, this, hy]
  | false =>
    rw [hy]
    cases q : (Ref.reached g but).getD i false with
    | false => rfl
    | true => have := h1.2 (h2.1 (getD_true q)); rw [hy] at this; exact this
/-- A node that is not reached dominates none that is. -/
theorem from_avoid {a : Nat} (ha : ¬ From g (-1) 0 a) : ∀ v i, From g (-1) v i → From g (-1) 0 v → From g (a : Int) v i := by
  intro v i h
  induction h with
  | here v q => exact fun hv => .here v (fun e => ha (by have : v = a := by omega
                                                         rw [← this]; exact hv))
  | step v i t q ht hr ih =>
    intro hv
    have hne : (v : Int) ≠ a := fun e => ha (by have : v = a := by omega
                                                rw [← this]; exact hv)
    exact .step v i t hne ht (ih (hv.snoc ht hr.ne))
end
end Ir
end Go.Proofs.Ytiadpjhlomhjeaa

import Derived.Test.YtiadpjhlomhjeaaIrE
namespace Go.Proofs.Ytiadpjhlomhjeaa
open Go.RowKit

namespace Ir
/-- A way leads from v to i, and not through but. -/
inductive From (g : List (List Int)) (but : Int) : Nat → Nat → Prop
  | here (v : Nat) (h : (v : Int) ≠ but) : From g but v v
  | step (v i : Nat) (t : Int) (h : (v : Int) ≠ but) (ht : t ∈ g.getD v []) (hr : From g but t.toNat i) : From g but v i
def cnt (s : List Bool) : Nat := s.countP (fun b => !b)
/-- What a visit of v makes of a set. -/
def Vis (g : List (List Int)) (but : Int) (s s' : List Bool) (v : Nat) : Prop :=
  (∀ i : Nat, s[i]? = some true → s'[i]? = some true) ∧ ((v : Int) = but ∨ s'[v]? = some true) ∧ (∀ i : Nat, s'[i]? = some true → s[i]? = some true ∨ From g but v i) ∧
    (∀ i : Nat, s'[i]? = some true → s[i]? = some true ∨ ∀ t ∈ g.getD i [], t = but ∨ s'[t.toNat]? = some true)
/-- What has been seen when some of the successors of v have been visited; s1: with v itself. -/
def VisL (g : List (List Int)) (but : Int) (s1 si : List Bool) (l done : List Int) : Prop :=
  (∀ i : Nat, s1[i]? = some true → si[i]? = some true) ∧ (∀ t ∈ done, t = but ∨ si[t.toNat]? = some true) ∧ (∀ i : Nat, si[i]? = some true → s1[i]? = some true ∨ ∃ t ∈ l, From g but t.toNat i) ∧
    (∀ i : Nat, si[i]? = some true → s1[i]? = some true ∨ ∀ t ∈ g.getD i [], t = but ∨ si[t.toNat]? = some true)
theorem Vis.same (g : List (List Int)) (but : Int) (s : List Bool) (v : Nat) (h : (v : Int) = but ∨ s[v]? = some true) : Vis g but s s v :=
  ⟨fun _ h => h, h, fun _ h => .inl h, fun _ h => .inl h⟩
theorem VisL.start (g : List (List Int)) (but : Int) (s1 : List Bool) (l : List Int) : VisL g but s1 s1 l [] :=
  ⟨fun _ h => h, fun t ht => by simp at ht, fun _ h => .inl h, fun _ h => .inl h⟩
theorem VisL.more {g : List (List Int)} {but : Int} {s1 si sj : List Bool} {l done : List Int} {t : Int} (h : VisL g but s1 si l done) (hv : Vis g but si sj t.toNat) (ht0 : 0 ≤ t) (ht : t ∈ l) : VisL g but s1 sj l (done ++ [t]) := by
  obtain ⟨a1, a2, a3, a4⟩ := h
  obtain ⟨b1, b2, b3, b4⟩ := hv
  refine ⟨fun i hi => b1 i (a1 i hi), ?_, ?_, ?_⟩
  · intro u hu
    rcases List.mem_append.1 hu with hu | hu
    · rcases a2 u hu with h | h
      · exact .inl h
      · exact .inr (b1 _ h)
    · simp at hu; subst hu
      rcases b2 with h | h
      · left; omega
      · exact .inr h
  · intro i hi
    rcases b3 i hi with h | h
    · exact a3 i h
    · exact .inr ⟨t, ht, h⟩
  · intro i hi
    rcases b4 i hi with h | h
    · rcases a4 i h with h | h
      · exact .inl h
      · exact .inr fun u hu => (h u hu).imp_right (b1 _)
    · exact .inr h
theorem VisL.done {g : List (List Int)} {but : Int} {s si : List Bool} {l : List Int} {v : Nat} (h : VisL g but (s.set v true) si l l) (hl : g[v]? = some l) (hv : (v : Int) ≠ but) (hlt : v < s.length) : Vis g but s si v := by
  obtain ⟨a1, a2, a3, a4⟩ := h
  have hs : (s.set v true)[v]? = some true := by simp [hlt]
  have hset : ∀ i : Nat, (s.set v true)[i]? = some true → i = v ∨ s[i]? = some true := by
    intro i hi
    rw [List.getElem?_set] at hi
    split at hi
    · left; omega
    · exact .inr hi
  have hget : g.getD v [] = l := by simp [List.getD, hl]
  refine ⟨fun i hi => a1 i ?_, .inr (a1 v hs), ?_, ?_⟩
  · rw [List.getElem?_set]
    split
    · rename_i e; subst e; simp
    · exact hi
  · intro i hi
    rcases a3 i hi with h | ⟨t, ht, h⟩
    · rcases hset i h with rfl | h
      · exact .inr (.here _ hv)
      · exact .inl h
    · exact .inr (.step v i t hv (by rw [hget]; exact ht) h)
  · intro i hi
    rcases a4 i hi with h | h
    · rcases hset i h with rfl | h
      · right; rw [hget]; exact a2
      · exact .inl h
    · exact .inr h
theorem cnt_le : ∀ (s s' : List Bool), s.length = s'.length → (∀ i : Nat, s[i]? = some true → s'[i]? = some true) → cnt s' ≤ cnt s
  | [], [], _, _ => Nat.le_refl _
  | a :: r, b :: q, hl, h => by
    have ih := cnt_le r q (by simpa using hl) (fun i hi => by have := h (i + 1) (by simpa using hi); simpa using this)
    have h0 := h 0
    unfold cnt at *
    cases a <;> cases b <;> simp_all <;> omega
theorem cnt_set : ∀ (s : List Bool) (v : Nat), s[v]? = some false → cnt (s.set v true) + 1 = cnt s
  | [], v, h => by simp at h
  | a :: r, 0, h => by simp at h; subst h; simp [cnt]
  | a :: r, v + 1, h => by
    have := cnt_set r v (by simpa using h)
    unfold cnt at *
    cases a <;> simp [List.set] <;> omega
end Ir

section
variable (g : List (List Int)) (but : Int) (vg : Value) (w0 : World) (bb gb : Nat)
/-- The value of 'visit'. -/
def visitV (bb hb gb : Nat) : Value := .func (.func 104) #[] #[.pointer (some ⟨bb, 0, none⟩), .pointer (some ⟨hb, 0, none⟩), .pointer (some ⟨gb, 0, none⟩), .pointer (some ⟨hb + 1, 0, none⟩)]

set_option maxRecDepth 10000 in
set_option maxHeartbeats 4000000 in
theorem visit_any (hg : TabAt w0.heap.size w0 vg g) (hn : g.length ≤ 10) (hok : Hid (∀ l ∈ g, ∀ t ∈ l, 0 ≤ t ∧ t < (g.length : Int))) (hbb : bb < w0.heap.size) (hgb : gb < w0.heap.size)
    (hcb : w0.cell? ⟨bb, 0, none⟩ = some (.int .i64 but)) (hcg : w0.cell? ⟨gb, 0, none⟩ = some vg) :
    ∀ (n : Nat) (s : List Bool) (v : Nat) (w : World), Ir.cnt s ≤ n → v < g.length → Gr w0 w → ARow w0.heap.size w0.heap.size w s → w.cell? ⟨w0.heap.size + 1, 0, none⟩ = some (visitV bb w0.heap.size gb) →
      Calls Try.prog 104 #[.int .i64 v, .pointer (some ⟨bb, 0, none⟩), .pointer (some ⟨w0.heap.size, 0, none⟩), .pointer (some ⟨gb, 0, none⟩), .pointer (some ⟨w0.heap.size + 1, 0, none⟩)] w fun e w' =>
        e = .returned (.tuple #[]) ∧ ∃ s', Ir.Vis g but s s' v ∧ ARow w0.heap.size w0.heap.size w' s' ∧ Gr w0 w' ∧ w'.cell? ⟨w0.heap.size + 1, 0, none⟩ = some (visitV bb w0.heap.size gb) := by
  intro n
  induction n with
  | zero =>
    intro s v w hc hv hgr hrow hvis
    have hl := hrow.len
    have hb1 := (hgr.cell _ 0 hbb).trans hcb
    have hsv : s[v]? = some true := by
      have : v < s.length := by omega
      cases h : s[v]'this with
      | true => simp [this, h]
      | false =>
        have := Ir.cnt_set s v (by simp [this, h])
        omega
    have hcv := hrow.cell v true hsv
    have hk10 : (v : Int) < 10 := by omega
    have HV : Hid (Ir.Vis g but s s v) := Ir.Vis.same g but s v (.inr hsv)
    have HR := Lib.hid hrow
    clear hl hsv hrow hc
    rcases Decidable.em ((v : Int) = but) with h | h
    · have hb : ((v : Int) == but) = true := by simp [h]
      go_enter Try.func104, Try.ntmps104
      go_wp2
      refine bodyPost_ret (results_none rfl _ _ _) rfl ?_
      exact ⟨rfl, s, HV.out, HR.out, hgr, hvis⟩
    · have hb : ((v : Int) == but) = false := by simp [h]
      go_enter Try.func104, Try.ntmps104
      go_wp2
      refine bodyPost_ret (results_none rfl _ _ _) rfl ?_
      exact ⟨rfl, s, HV.out, HR.out, hgr, hvis⟩
  | succ n ih =>
    intro s v w hc hv hgr hrow hvis
    have hl := hrow.len
    have hb1 := (hgr.cell _ 0 hbb).trans hcb
    have hk10 : (v : Int) < 10 := by omega
    obtain ⟨y, hy⟩ : ∃ y, s[v]? = some y := ⟨s[v]'(by omega), by simp [show v < s.length by omega]⟩
    have hcv := hrow.cell v y hy
    have hfv := hrow.frozen v
    rcases Decidable.em ((v : Int) = but) with h | h
    · have hb : ((v : Int) == but) = true := by simp [h]
      have HV : Hid (Ir.Vis g but s s v) := Ir.Vis.same g but s v (.inl h)
      have HR := Lib.hid hrow
      clear hl hy hrow hc h ih
      go_enter Try.func104, Try.ntmps104
      go_wp2
      refine bodyPost_ret (results_none rfl _ _ _) rfl ?_
      exact ⟨rfl, s, HV.out, HR.out, hgr, hvis⟩
    · have hb : ((v : Int) == but) = false := by simp [h]
      cases y with
      | true =>
        have HV : Hid (Ir.Vis g but s s v) := Ir.Vis.same g but s v (.inr hy)
        have HR := Lib.hid hrow
        clear hl hy hrow hc h ih
        go_enter Try.func104, Try.ntmps104
        go_wp2
        refine bodyPost_ret (results_none rfl _ _ _) rfl ?_
        exact ⟨rfl, s, HV.out, HR.out, hgr, hvis⟩
      | false =>
        have hcs : Ir.cnt (s.set v true) ≤ n := by have := Ir.cnt_set s v hy; omega
        obtain ⟨l, hll⟩ : ∃ l, g[v]? = some l := ⟨g[v], by simp [hv]⟩
        have HD : Hid (∀ si, Ir.VisL g but (s.set v true) si l l → Ir.Vis g but s si v) := fun si q => q.done hll h (by omega)
        have HOK : Hid (∀ t ∈ l, 0 ≤ t ∧ t < (g.length : Int)) := hok.out l (List.mem_of_getElem? hll)
        have hrow1 := hrow.set_ v true
        obtain ⟨s1, hs1⟩ : ∃ s1, s.set v true = s1 := ⟨_, rfl⟩
        rw [hs1] at hrow1 HD hcs
        have hgr1 : Gr w0 (w.setCell ⟨w0.heap.size, v, none⟩ (.bool true)) := hgr.setCell (Nat.le_refl _) _
        have hvis1 : (w.setCell ⟨w0.heap.size, v, none⟩ (.bool true)).cell? ⟨w0.heap.size + 1, 0, none⟩ = some (visitV bb w0.heap.size gb) := by
          exact (World.cell?_setCell_other _ _ _ _ (by simp)).trans hvis
        obtain ⟨Ag, cg, rfl, -, -, g3⟩ := hg
        obtain ⟨bg, og, rfl, hbg, hct⟩ := g3 (by omega)
        obtain ⟨u, hu, hul⟩ := hct v l hll
        have hgc := (hgr1.cell _ 0 hgb).trans hcg
        have hu1 := (hgr1.cell _ _ hbg).trans hu
        obtain ⟨Al, cl, rfl, p1, p2, p3⟩ := hul
        have P3 := Lib.hid p3
        have IH := Lib.hid ih
        have zv : (v : Int) < (g.length : Int) := by omega
        have HS1 : Hid (Ir.VisL g but s1 s1 l (l.take 0)) := Ir.VisL.start g but s1 l
        have HCS : Hid (Ir.cnt s1 ≤ n) := hcs
        have HR1 := Lib.hid hrow1
        clear hl hy hrow hc h ih hll hs1 hct g3 hu p3 hrow1 hcs
        go_enter Try.func104, Try.ntmps104
        go_wp2
        go_loopw [7, 23] (fun _ i wr => ∃ (k : Nat) (si : List Bool), k ≤ l.length ∧ i = .int .i64 k ∧ Gr w0 wr ∧ wr.cell? ⟨w0.heap.size + 1, 0, none⟩ = some (visitV bb w0.heap.size gb) ∧ Hid (ARow w0.heap.size w0.heap.size wr si) ∧ Hid (Ir.VisL g but s1 si l (l.take k))) (fun _ i _ => l.length - (intOf i).toNat)
        case atStart => exact ⟨0, s1, Nat.zero_le _, rfl, hgr1, hvis1, HR1, HS1⟩
        case round =>
          obtain ⟨k, si, hk, rfl, hgrk, hvk, HRk, HSk⟩ := hrel
          obtain ⟨wo, rfl⟩ : ∃ wo : World, wo = wr := ⟨_, rfl⟩
          rcases hr : l.drop k with _ | ⟨t, r⟩
          · have hkn := drop_nil hr hk
            subst hkn
            have HF : Hid (Ir.Vis g but s si v) := HD.out si (by have := HSk.out; rwa [List.take_length] at this)
            clear hr
            go_wp2
            go_end0
            exact ⟨rfl, si, HF.out, HRk.out, hgrk, hvk⟩
          · obtain ⟨hlt, hx, hr'⟩ := drop_cons hr
            obtain ⟨b, o, rfl, hb2, hcl⟩ := P3.out (by omega)
            have ht := hcl k t hx
            have ht1 := (hgrk.cell _ _ hb2).trans ht
            have hmem := List.mem_of_getElem? hx
            obtain ⟨q0, q1⟩ := HOK.out t hmem
            obtain ⟨tn, rfl⟩ := Int.eq_ofNat_of_zero_le q0
            have htn : tn < g.length := by omega
            have hcnt : Ir.cnt si ≤ n := Nat.le_trans (Ir.cnt_le s1 si (by rw [HR1.out.len, HRk.out.len]) HSk.out.1) HCS.out
            have HCV := Lib.hid (IH.out si tn wo hcnt htn hgrk HRk.out hvk)
            have HT : Hid (l.take (k + 1) = l.take k ++ [(tn : Int)]) := by
              show _ = _
              obtain ⟨e1, e2⟩ := List.getElem?_eq_some_iff.1 hx
              rw [List.take_succ_eq_append_getElem e1, e2]
            have HMEM := Lib.hid hmem
            clear hr hx hr' hcl ht hmem hcnt
            unfold visitV at hvk
            go_wp2_with (go_at_call 104; (refine HCV.out.mono ?_; rintro e w2 ⟨rfl, sj, hv2, hrow2, hgr2, hvis2⟩))
            go_roundw
            case rel => exact ⟨k + 1, sj, by omega, by go_num, hgr2, hvis2, hrow2, by (show Ir.VisL _ _ _ _ _ _; rw [HT.out]; exact HSk.out.more (by simpa using hv2) (by omega) HMEM.out)⟩
            case measure => simp [intOf]; omega
end
end Go.Proofs.Ytiadpjhlomhjeaa

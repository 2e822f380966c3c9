import Derived.Test.YtiadpjhlomhjeaaIrB
namespace Go.Proofs.Ytiadpjhlomhjeaa
open Go.RowKit

namespace Ir
/-- A graph's first error. -/
def gval (g : List (List Int)) : Int :=
  if g.length < 1 ∨ 10 < g.length then 3 else if g.any (fun l => decide (2 < l.length)) = true then 3 else if g.any (fun l => l.any (outside g.length)) = true then 1 else 0
def noded (g : List (List Int)) (l : List Int) : Int := if gval g = 0 then (if l.any (outside g.length) = true then 4 else 0) else gval g
end Ir

/-- slices.IndexFunc at [][]int, for whatever predicate. -/
theorem IndexFuncT_any (g : Nat) (lb : Array Value) (eg : ∀ args w, (callFunc g args).run Try.prog w = .ok (.enter g args) w) (p : List Int → Bool) (v : Value) (t : List (List Int)) (w : World) (hz : TabAt w.heap.size w v t)
    (hp : Hid (∀ l ∈ t, ∀ W u, Gr w W → IntsAt W.heap.size W u l → Calls Try.prog g (#[u] ++ lb) W fun e w' => e = .returned (.bool (p l)) ∧ Gr W w')) :
    Calls Try.prog 107 #[v, .func (.func g) #[] lb] w fun e w' => e = .returned (.int .i64 (Ir.findI p t 0)) ∧ Gr w w' := by
  obtain ⟨A, c, rfl, h1, h2, h3⟩ := hz
  go_enter Try.func107, Try.ntmps107
  go_wp2
  go_loopw [5, 8] (fun _ i wr => ∃ k : Nat, k ≤ t.length ∧ i = .int .i64 k ∧ Gr w wr ∧ Hid (Ir.findI p t 0 = Ir.findI p (t.drop k) k)) (fun _ i _ => t.length - (intOf i).toNat)
  case atStart => exact ⟨0, Nat.zero_le _, rfl, Gr.refl _, rfl⟩
  case round =>
    obtain ⟨k, hk, rfl, hgr, hrest⟩ := hrel
    obtain ⟨wo, rfl⟩ : ∃ wo : World, wo = wr := ⟨_, rfl⟩
    rcases hr : t.drop k with _ | ⟨l, r⟩
    · have hkn := drop_nil hr hk
      have HE : Hid (Ir.findI p t 0 = -1) := by show _ = _; rw [hrest.out, hr]; rfl
      subst hkn
      clear hr hrest
      go_wp2
      go_ret
      exact ⟨ret_int (by rw [HE.out]), hgr⟩
    · obtain ⟨hlt, hx, hr'⟩ := drop_cons hr
      obtain ⟨b, o, rfl, hb, hc⟩ := h3 (by omega)
      obtain ⟨u, hu, hul⟩ := hc k l hx
      have hx' := (hgr.cell _ _ hb).trans hu
      have HR : Hid (Ir.findI p t 0 = if p l then (k : Int) else Ir.findI p r (k + 1)) := by show _ = _; rw [hrest.out, hr]; rfl
      have HR' : Hid (t.drop (k + 1) = r) := hr'
      have HCP := Lib.hid (hp.out l (List.mem_of_getElem? hx) wo u hgr (hul.gr hgr))
      clear hr hx hr' hrest hc h3 hu hul
      obtain ⟨q, hq⟩ : ∃ q, p l = q := ⟨_, rfl⟩
      rw [hq] at HR HCP
      clear hq
      cases q with
      | true =>
        go_wp2_with (go_at_fn g; refine HCP.out.mono ?_; rintro e w1 ⟨rfl, g1⟩)
        go_ret
        exact ⟨ret_int (by rw [HR.out]; simp), hgr.trans g1⟩
      | false =>
        go_wp2_with (go_at_fn g; refine HCP.out.mono ?_; rintro e w1 ⟨rfl, g1⟩)
        go_roundw
        case rel => exact ⟨k + 1, by omega, by go_num, hgr.trans g1, by (show _ = _; rw [HR.out, HR'.out]; simp)⟩
        case measure => simp [intOf]; omega

theorem ContainsFuncT_any (g : Nat) (lb : Array Value) (eg : ∀ args w, (callFunc g args).run Try.prog w = .ok (.enter g args) w) (p : List Int → Bool) (v : Value) (t : List (List Int)) (w : World) (hz : TabAt w.heap.size w v t)
    (hp : Hid (∀ l ∈ t, ∀ W u, Gr w W → IntsAt W.heap.size W u l → Calls Try.prog g (#[u] ++ lb) W fun e w' => e = .returned (.bool (p l)) ∧ Gr W w')) :
    Calls Try.prog 101 #[v, .func (.func g) #[] lb] w fun e w' => e = .returned (.bool (t.any p)) ∧ Gr w w' := by
  have C := Lib.hid (IndexFuncT_any g lb eg p v t w hz hp)
  have HB : Hid (decide (0 ≤ Ir.findI p t 0) = t.any p) := Ir.findI_any p t 0
  obtain ⟨i, hi⟩ : ∃ i, Ir.findI p t 0 = i := ⟨_, rfl⟩
  rw [hi] at C HB
  clear hi hp hz eg
  by_cases h : 0 ≤ i
  · go_enter Try.func101, Try.ntmps101
    go_wp2_with (go_at_call 107; refine C.out.mono ?_; rintro e w1 ⟨rfl, g1⟩)
    go_ret
    exact ⟨ret_bool (by rw [← HB.out]; try simp [h]), g1⟩
  · go_enter Try.func101, Try.ntmps101
    go_wp2_with (go_at_call 107; refine C.out.mono ?_; rintro e w1 ⟨rfl, g1⟩)
    go_ret
    exact ⟨ret_bool (by rw [← HB.out]; try simp [h]), g1⟩

/-- A number outside of the graph whose slice lies in the variable that is captured. -/
theorem fval2_any (n : Int) (B : Nat) (A : Option Addr) (len c : Nat) (w : World) (hc : w.cell? ⟨B, 0, none⟩ = some (.slice A len c)) :
    Calls Try.prog 103 #[.int .i64 n, .pointer (some ⟨B, 0, none⟩)] w fun e w' => e = .returned (.bool (Ir.outside len n)) ∧ w = w' := by
  go_enter Try.func103, Try.ntmps103
  go_wp2
  all_goals go_ret
  all_goals exact ⟨ret_bool (by unfold Ir.outside; grind), rfl⟩
theorem noded1_any (n : Int) (B : Nat) (A : Option Addr) (len c : Nat) (w : World) (hc : w.cell? ⟨B, 0, none⟩ = some (.slice A len c)) :
    Calls Try.prog 100 #[.int .i64 n, .pointer (some ⟨B, 0, none⟩)] w fun e w' => e = .returned (.bool (Ir.outside len n)) ∧ w = w' := by
  go_enter Try.func100, Try.ntmps100
  go_wp2
  all_goals go_ret
  all_goals exact ⟨ret_bool (by unfold Ir.outside; grind), rfl⟩

set_option maxRecDepth 10000 in
set_option maxHeartbeats 2000000 in
theorem fval_any (v : Value) (g : List (List Int)) (w : World) (hg : TabAt w.heap.size w v g) :
    Calls Try.prog 91 #[v] w fun e w' => e = .returned (.int .i64 (Ir.gval g)) ∧ Gr w w' := by
  have hg0 := hg
  obtain ⟨A, c, rfl, h1, h2, h3⟩ := hg
  by_cases hb : g.length < 1 ∨ 10 < g.length
  · have hB0 : Gr w (w.alloc (.cells #[.slice A g.length c] 30)) := (Gr.refl _).alloc _
    have HV : Hid (Ir.gval g = 3) := by show _ = _; unfold Ir.gval; rw [if_pos hb]
    clear hg0 h3
    go_enter Try.func91, Try.ntmps91
    go_wp2
    all_goals first | omega | (go_ret; exact ⟨ret_int (by rw [HV.out]), hB0⟩)
  obtain ⟨W, hW⟩ : ∃ W, w.alloc (.cells #[.slice A g.length c] 30) = W := ⟨_, rfl⟩
  have hB0 : Gr w W := by rw [← hW]; exact (Gr.refl w).alloc _
  have hWs : W.heap.size = w.heap.size + 1 := by rw [← hW]; simp
  have b0 : W.cell? ⟨w.heap.size, 0, none⟩ = some (.slice A g.length c) := by
    rw [← hW]; exact cell_of_row _ _ _ _ _ _ (heap_alloc_new w _)
  have B0 : Hid (∀ w', Gr W w' → w'.cell? ⟨w.heap.size, 0, none⟩ = some (.slice A g.length c)) := fun w' q => (q.cell w.heap.size 0 (by omega)).trans b0
  have HV0 : Hid (Ir.gval g = if g.any (fun l => decide (2 < l.length)) = true then 3 else if g.any (fun l => l.any (Ir.outside g.length)) = true then 1 else 0) := by show _ = _; unfold Ir.gval; rw [if_neg hb]
  have HC1 : Hid (Calls Try.prog 101 #[.slice A g.length c, .func (.func 102) #[] #[]] W fun e w' => e = .returned (.bool (g.any fun l => decide (2 < l.length))) ∧ Gr W w') :=
    ContainsFuncT_any _ _ (enters_of Try.func102 (by kernel_rfl) rfl) _ _ _ _ (hg0.gr hB0) (fun l _ W' u _ hu => by
      obtain ⟨A', c', rfl, -, -, -⟩ := hu
      exact (fval1_any A' l.length c' W').mono fun _ _ h => ⟨h.1, h.2 ▸ Gr.refl _⟩)
  have HC2 : Hid (∀ l w1 u, Gr W w1 → IntsAt w1.heap.size w1 u l → Calls Try.prog 63 #[u, .func (.func 103) #[] #[.pointer (some ⟨w.heap.size, 0, none⟩)]] w1 fun e w' => e = .returned (.bool (l.any (Ir.outside g.length))) ∧ Gr w1 w') :=
    fun l w1 u g1 hu => ContainsFunc_any _ _ (enters_of Try.func103 (by kernel_rfl) rfl) _ _ _ _ hu (fun z _ W' g2 =>
      (fval2_any z w.heap.size A g.length c W' (B0.out W' (g1.trans g2))).mono fun _ _ h => ⟨h.1, h.2 ▸ Gr.refl _⟩)
  have z1 : (1 : Int) ≤ g.length := by omega
  have z2 : (g.length : Int) ≤ 10 := by omega
  obtain ⟨bg, og, rfl, hbg, hcg⟩ := h3 (by omega)
  have HG := Lib.hid hcg
  obtain ⟨q, hq⟩ : ∃ q, (g.any fun l => decide (2 < l.length)) = q := ⟨_, rfl⟩
  rw [hq] at HV0 HC1
  clear hg0 h3 hcg hb hq
  go_enter Try.func91, Try.ntmps91
  cases q with
  | true =>
    go_wp2_with (go_at_call 101; refine HC1.out.mono ?_; rintro e w1 ⟨rfl, g1⟩)
    go_ret
    exact ⟨ret_int (by rw [HV0.out]; simp), hB0.trans g1⟩
  | false =>
    go_wp2_with (go_at_call 101; refine HC1.out.mono ?_; rintro e w1 ⟨rfl, g1⟩; have b1 := B0.out _ g1)
    clear b0
    go_loopw [4, 19] (fun _ i wr => ∃ k : Nat, k ≤ g.length ∧ i = .int .i64 k ∧ Gr w1 wr ∧ Hid ((g.any fun l => l.any (Ir.outside g.length)) = ((g.drop k).any fun l => l.any (Ir.outside g.length)))) (fun _ i _ => g.length - (intOf i).toNat)
    case atStart => exact ⟨0, Nat.zero_le _, rfl, Gr.refl _, rfl⟩
    case round =>
      obtain ⟨k, hk, rfl, hgr, hrest⟩ := hrel
      obtain ⟨wo, rfl⟩ : ∃ wo : World, wo = wr := ⟨_, rfl⟩
      have b2 := B0.out _ (g1.trans hgr)
      clear b1
      rcases hr : g.drop k with _ | ⟨l, r⟩
      · have hkn := drop_nil hr hk
        have HE : Hid (Ir.gval g = 0) := by show _ = _; rw [HV0.out, hrest.out, hr]; simp
        subst hkn
        clear hr hrest
        go_wp2
        go_ret
        exact ⟨ret_int (by rw [HE.out]), hB0.trans (g1.trans hgr)⟩
      · obtain ⟨hlt, hx, hr'⟩ := drop_cons hr
        obtain ⟨u, hu, hul⟩ := HG.out k l hx
        have hx' := ((hB0.trans (g1.trans hgr)).cell _ _ hbg).trans hu
        have HR : Hid ((g.any fun l => l.any (Ir.outside g.length)) = (l.any (Ir.outside g.length) || r.any fun l => l.any (Ir.outside g.length))) := by show _ = _; rw [hrest.out, hr]; rfl
        have HR' : Hid (g.drop (k + 1) = r) := hr'
        have HCP := Lib.hid (HC2.out l wo u (g1.trans hgr) (hul.gr (hB0.trans (g1.trans hgr))))
        clear hr hx hr' hrest hu hul
        obtain ⟨q, hq⟩ : ∃ q, l.any (Ir.outside g.length) = q := ⟨_, rfl⟩
        rw [hq] at HR HCP
        clear hq
        cases q with
        | true =>
          go_wp2_with (go_at_call 63; refine HCP.out.mono ?_; rintro e w2 ⟨rfl, g2⟩)
          go_ret
          exact ⟨ret_int (by rw [HV0.out, HR.out]; simp), hB0.trans (g1.trans (hgr.trans g2))⟩
        | false =>
          go_wp2_with (go_at_call 63; refine HCP.out.mono ?_; rintro e w2 ⟨rfl, g2⟩)
          go_roundw
          case rel => exact ⟨k + 1, by omega, by go_num, hgr.trans g2, by (show _ = _; rw [HR.out, HR'.out]; simp)⟩
          case measure => simp [intOf]; omega

set_option maxRecDepth 10000 in
set_option maxHeartbeats 2000000 in
theorem noded_any (v u : Value) (g : List (List Int)) (l : List Int) (w : World) (hg : TabAt w.heap.size w v g) (hu : IntsAt w.heap.size w u l) :
    Calls Try.prog 88 #[v, u] w fun e w' => e = .returned (.int .i64 (Ir.noded g l)) ∧ Gr w w' := by
  have hg0 := hg
  obtain ⟨A, c, rfl, h1, h2, -⟩ := hg
  obtain ⟨W, hW⟩ : ∃ W, w.alloc (.cells #[.slice A g.length c] 30) = W := ⟨_, rfl⟩
  have hB0 : Gr w W := by rw [← hW]; exact (Gr.refl w).alloc _
  have hWs : W.heap.size = w.heap.size + 1 := by rw [← hW]; simp
  have b0 : W.cell? ⟨w.heap.size, 0, none⟩ = some (.slice A g.length c) := by
    rw [← hW]; exact cell_of_row _ _ _ _ _ _ (heap_alloc_new w _)
  have B0 : Hid (∀ w', Gr W w' → w'.cell? ⟨w.heap.size, 0, none⟩ = some (.slice A g.length c)) := fun w' q => (q.cell w.heap.size 0 (by omega)).trans b0
  have HC1 := Lib.hid (fval_any _ g W (hg0.gr hB0))
  have HC2 : Hid (∀ w1, Gr W w1 → Calls Try.prog 63 #[u, .func (.func 100) #[] #[.pointer (some ⟨w.heap.size, 0, none⟩)]] w1 fun e w' => e = .returned (.bool (l.any (Ir.outside g.length))) ∧ Gr w1 w') :=
    fun w1 g1 => ContainsFunc_any _ _ (enters_of Try.func100 (by kernel_rfl) rfl) _ _ _ _ (hu.gr (hB0.trans g1)) (fun z _ W' g2 =>
      (noded1_any z w.heap.size A g.length c W' (B0.out W' (g1.trans g2))).mono fun _ _ h => ⟨h.1, h.2 ▸ Gr.refl _⟩)
  have HV : Hid (Ir.noded g l = if Ir.gval g = 0 then (if l.any (Ir.outside g.length) = true then 4 else 0) else Ir.gval g) := by show _ = _; rfl
  obtain ⟨e, he⟩ : ∃ e, Ir.gval g = e := ⟨_, rfl⟩
  obtain ⟨q, hq⟩ : ∃ q, l.any (Ir.outside g.length) = q := ⟨_, rfl⟩
  rw [he] at HC1 HV
  rw [hq] at HC2 HV
  clear hg0 hu he hq
  by_cases h0 : e = 0
  · subst h0
    go_enter Try.func88, Try.ntmps88
    cases q with
    | true =>
      go_wp2_with (first | (go_at_call 91; refine HC1.out.mono ?_; rintro e w1 ⟨rfl, g1⟩; have b1 := B0.out _ g1) | (go_at_call 63; refine (HC2.out _ g1).mono ?_; rintro e w2 ⟨rfl, g2⟩))
      go_ret
      exact ⟨ret_int (by rw [HV.out]; simp), hB0.trans (g1.trans g2)⟩
    | false =>
      go_wp2_with (first | (go_at_call 91; refine HC1.out.mono ?_; rintro e w1 ⟨rfl, g1⟩; have b1 := B0.out _ g1) | (go_at_call 63; refine (HC2.out _ g1).mono ?_; rintro e w2 ⟨rfl, g2⟩))
      go_ret
      exact ⟨ret_int (by rw [HV.out]; simp), hB0.trans (g1.trans g2)⟩
  · have hb : (e == 0) = false := by simp [h0]
    go_enter Try.func88, Try.ntmps88
    go_wp2_with (go_at_call 91; refine HC1.out.mono ?_; rintro e w1 ⟨rfl, g1⟩; have b1 := B0.out _ g1)
    go_ret
    exact ⟨ret_int (by rw [HV.out, if_neg h0]), hB0.trans g1⟩
end Go.Proofs.Ytiadpjhlomhjeaa

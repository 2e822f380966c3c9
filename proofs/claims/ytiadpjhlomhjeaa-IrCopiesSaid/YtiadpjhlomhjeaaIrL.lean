import Derived.Test.YtiadpjhlomhjeaaIrK
namespace Go.Proofs.Ytiadpjhlomhjeaa
open Go.RowKit Go.Shelf

/-- 'all(f)': the function value; f lies in a box. -/
theorem all_in (f : Fn) (Ap As Ab : Option Addr) (np ns nb cp cs cb : Nat) (w : World) :
    Calls Try.prog 34 #[.agg #[.slice Ap np cp, .int .i64 f.ret, .slice As ns cs, .slice Ab nb cb]] w fun e w' =>
      e = .returned (.func (.func 67) #[] #[.pointer (some ⟨w.heap.size, 0, none⟩)]) ∧ w' = w.alloc (.cells #[.slice Ap np cp, .int .i64 f.ret, .slice As ns cs, .slice Ab nb cb] 25) := by
  go_enter Try.func34, Try.ntmps34
  go_wp2
  go_ret
  exact ⟨rfl, rfl⟩

theorem all_stops (n : Nat) (hn : 1 ≤ n) (Bf n₀ : Nat) (f : Fn) (vp vs vb : Value) (w0 W0 : World) (hf : FnAt n₀ w0 (.agg #[vp, .int .i64 f.ret, vs, vb]) f) (hn0 : n₀ ≤ w0.heap.size) (hb : Below n₀ w0 W0) (hs : f.blocks.length ≤ 100000) (hBf : Bf < W0.heap.size)
    (c0 : W0.cell? ⟨Bf, 0, none⟩ = some vp) (c3 : W0.cell? ⟨Bf, 3, none⟩ = some vb) :
    SeqStopsK Fence.wide n Try.prog 67 #[.pointer (some ⟨Bf, 0, none⟩)] (fun x : GI n₀ w0 f => #[x.1.enc]) (Below n₀) (fun ys => prj ys = Ir.items f) (fun pre => prj pre <+: Ir.items f) ((Ir.items f).length + 1) W0 :=
  fun l J Jx W hW hJ _ hY h0 => all1_in n hn l Bf n₀ W.heap.size f vp vs vb w0 hf hs J Jx hJ hY W ((hW.cell (p := ⟨Bf, 0, none⟩) hBf).trans c0) ((hW.cell (p := ⟨Bf, 3, none⟩) hBf).trans c3) (hb.trans (hW.mono (Nat.le_trans hn0 hb.size))) hn0 h0
end Go.Proofs.Ytiadpjhlomhjeaa

/- make([]api.Value, n). -/
import Derived.Test.YthfhamagopbgcaaGreatG32
import Derived.Test.YthfhamagopbgcaaGreatG37
import Derived.Laws.MakeOwn
namespace Go.Proofs.YthfhamagopbgcaaGreat
set_option linter.unusedSimpArgs false
set_option linter.unusedVariables false
open Go.RowKit

theorem encVs_zeros:∀ n i:Nat,i<3 * n→(encVs (List.replicate n Rn.zero))[i]?=(#[Value.bool false,.int .i64 0,.int .u32 0]:Array Value)[i % 3]?
 | 0,i,h=>by omega
 | n+1,0,_=>rfl
 | n+1,1,_=>rfl
 | n+1,2,_=>rfl
 | n+1,i+3,h=>by
  have:=encVs_zeros n i (by omega)
  rw [List.replicate_succ,encVs,List.getElem?_cons_succ,List.getElem?_cons_succ,List.getElem?_cons_succ,this,Nat.add_mod_right]
theorem info_value:((Tryz.prog).info? 37).map (fun i=>(i.zero,i.size,i.bytes))=some (some (.agg #[.bool false,.int .i64 0,.int .u32 0]),3,24):=by kernel_rfl
theorem made_values (n:Nat):madeCells #[Value.bool false,.int .i64 0,.int .u32 0] (n * 3)=(encVs (List.replicate n Rn.zero)).toArray:=by
 apply Array.ext_getElem?
 intro i
 rcases Nat.lt_or_ge i (3 * n) with h | h
 ·rw [List.getElem?_toArray (xs:=encVs (List.replicate n Rn.zero)),encVs_zeros n i h]
  unfold madeCells
  rw [Array.getElem?_map,Array.getElem?_range,if_pos (by omega)]
  have h3:i % 3<3:=Nat.mod_lt _ (by decide)
  rcases (by omega:i % 3=0∨i % 3=1∨i % 3=2) with e | e | e <;> simp [e]
 ·rw [Array.getElem?_eq_none (by rw [size_madeCells];omega),Array.getElem?_eq_none (by simp [encVs_len];omega)]
theorem make_values (w:World) (n:Nat) (hn:n≤1000):(Instr.makeSlice 78 (.int .i64 n) (.int .i64 n)).run Tryz.prog w=.ok (.slice (some ⟨w.heap.size,0,none⟩) n n) (w.alloc (.cells (encVs (List.replicate n Rn.zero)).toArray 37)):=by
 obtain ⟨i0,h1,h2,h3,h4⟩:=info_parts info_value
 have:=run_makeSlice (P:=Tryz.prog) (w:=w) 78 37 i0 _ Tryz.underlying78 h1 h2 .i64 .i64 n n (by omega) (by omega) (by rw [h3];omega) (by rw [h4];omega) (by omega)
 rw [this,h3]
 simp only [Int.toNat_natCast]
 rw [show (Value.agg #[Value.bool false,Value.int .i64 0,Value.int .u32 0]).cells=#[Value.bool false,.int .i64 0,.int .u32 0] from rfl,made_values]
end Go.Proofs.YthfhamagopbgcaaGreat

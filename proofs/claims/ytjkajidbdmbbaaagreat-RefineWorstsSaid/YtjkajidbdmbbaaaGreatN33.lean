import Derived.Test.YtjkajidbdmbbaaaGreatN32
import Derived.Laws.MakeOwn
set_option linter.unusedSimpArgs false
set_option linter.unusedVariables false
set_option maxRecDepth 100000
set_option maxHeartbeats 16000000
open Go.Proofs.Tryz
namespace Go.Proofs.YtjkajidbdmbbaaaGreat
open Go.RowKit
theorem iT:∀n i:Nat,i<3*n->(dB (List.replicate n Rn.zero))[i]?=(#[Value.bool false,.int .i64 0,.int .u32 0]:Array Value)[i%3]?
 | 0,i,h=>by omega
 | n+1,0,_=>rfl
 | n+1,1,_=>rfl
 | n+1,2,_=>rfl
 | n+1,i+3,h=>by
  have:=iT n i (by omega)
  rw[List.replicate_succ,dB,xV,xV,xV,this,Nat.add_mod_right]
theorem oZ:((prog).info? 24).map (fun i=>(i.zero,i.size,i.bytes))=some (some (.agg #[.bool false,.int .i64 0,.int .u32 0]),3,24):=by kernel_rfl
theorem nc (n:Nat):madeCells #[Value.bool false,.int .i64 0,.int .u32 0] (n*3)=(dB (List.replicate n Rn.zero)).toArray:=by
 apply Array.ext_getElem?;intro i;rcases yw i (3*n) with h|h
 ·rw[xX (xs:=dB (List.replicate n Rn.zero)),iT n i h];unfold madeCells;rw[Array.getElem?_map,Array.getElem?_range,yr (by omega)];have d:i%3<3:=Nat.mod_lt _ (by decide);rcases (by omega:i%3=0\/i%3=1\/i%3=2) with e|e|e<;>simp[e]
 ·rw[Array.getElem?_eq_none (by rw[size_madeCells];omega),Array.getElem?_eq_none (by simp[lw];omega)]
theorem fp (w:World)(n:Nat)(hn:n<=1000):(Instr.makeSlice 110 (.int .i64 n) (.int .i64 n)).run prog w=.ok (.slice (some ⟨w.heap.size,0,none⟩) n n) (w.alloc (.cells (dB (List.replicate n Rn.zero)).toArray 24)):=by obtain⟨m,g,j,d,l⟩:=info_parts oZ;have:=run_makeSlice (P:=prog) (w:=w) 110 24 m _ underlying110 g j .i64 .i64 n n (by omega) (by omega) (by rw[d];omega) (by rw[l];omega) (by omega);rw[this,d];simp only[ya];rw[show (Value.agg #[Value.bool false,Value.int .i64 0,Value.int .u32 0]).cells=#[Value.bool false,.int .i64 0,.int .u32 0] from rfl,nc]

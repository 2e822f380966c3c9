/- The sets that the document computes are the least ones. -/
import Derived.Test.YthfhamagopbgcaaGreatG07
import Derived.Test.YthfhamagopbgcaaGreatG19
namespace Go.Proofs.YthfhamagopbgcaaGreat

theorem rcAll:Ref.RcAll:=by
 intro g but hn hok
 have hiff:∀ i,Ref.rc g but i↔Ir.From g but 0 i:=fun i=>by
  rw [← Ir.reached_from hn hok i]
  unfold Ref.rc
  rw [List.getD_eq_getElem?_getD]
  cases h:(Ref.reached g but)[i]? <;> simp
 refine ⟨fun h=>(hiff 0).2 (.here 0 (by omega)),fun b t hb ht hne=>(hiff _).2 (((hiff b).1 hb).snoc ht hne),fun S h0 hS i hi=>?_⟩
 have key:∀ v i,Ir.From g but v i→Ir.From g but 0 v→S v→S i:=by
  intro v i h
  induction h with
  | here v q=>exact fun _ hs=>hs
  | step v i t q ht hr ih=>exact fun hv hs=>ih (hv.snoc ht hr.ne) (hS v t ((hiff v).2 hv) hs ht hr.ne)
 have hne:=((hiff i).1 hi).ne
 exact key 0 i ((hiff i).1 hi) (.here 0 hne) (h0 (by omega))
end Go.Proofs.YthfhamagopbgcaaGreat

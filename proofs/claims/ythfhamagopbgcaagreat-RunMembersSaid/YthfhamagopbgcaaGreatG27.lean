/- Parts: Bk Bl Bm Bn BoA. -/
import Derived.Test.YthfhamagopbgcaaGreatG26
import Derived.Maps.OwnSet
import Derived.Test.YthfhamagopbgcaaGreatG16
import Derived.Deep.RegionWith
import Derived.BigQuiet
import Derived.Deep.QuietTactic
namespace Go.Proofs.YthfhamagopbgcaaGreat
set_option linter.unusedSimpArgs false
set_option linter.unusedVariables false
open Go.RowKit Go.Maps

namespace Ops
def Word (k:Int):Prop:=-9223372036854775808≤k∧k≤9223372036854775807
theorem Word.wf {k:Int} (h:Word k):(Lit.int .i64 k).wf=true:=by
 obtain ⟨h1,h2⟩:=h
 simp [Lit.wf,show IntKind.i64.min=-9223372036854775808 from rfl,show IntKind.i64.max=9223372036854775807 from rfl]
 omega
theorem keyed_int:Keyed Tryz.prog 3:=int_keyed Tryz.underlying3
/-- Whatever value an entry has. -/
def heldElem (v:Value):Option (DataW Value × List MemPlace):=some (.held v,[])
/-- Block r is a map of at most n entries that holds M. -/
def MapV (r n:Nat) (w:World) (M:Int→Option Value):Prop :=
 ∃ D:DataW Value,w.ownsMap Tryz.prog 3 heldElem r n D∧∀ k,Word k→∀ z,Maps.has D (.int .i64 k)=(M k).isSome∧D.atKey (.int .i64 k) (.held z)=.held ((M k).getD z)
section
variable {r n:Nat} {w w':World} {M:Int→Option Value}
theorem MapV.made (w:World):MapV w.heap.size 0 (w.alloc (.map #[] 0)) fun _=>none :=
 ⟨_,World.ownsMap_made _ _ _ _,fun k _ z=>⟨rfl,rfl⟩⟩
theorem MapV.same (h:MapV r n w M) (hs:∀ o,w.heap[r]?=some o→o.isCells=false→w'.heap[r]?=some o):MapV r n w' M:=by
 obtain ⟨D,⟨es,clock,hb,hr⟩,h2⟩:=h
 exact ⟨D,⟨es,clock,hs _ hb rfl,hr⟩,h2⟩
theorem MapV.gr (h:MapV r n w M) (g:Gr w w'):MapV r n w' M:=h.same fun o hb _=>(g.heap _ (Array.getElem?_eq_some_iff.1 hb).1).trans hb
theorem MapV.lt (h:MapV r n w M):r<w.heap.size:=by
 obtain ⟨D,h1,-⟩:=h
 exact h1.lt
def zeroOp:Value:=.agg #[.nilFunc,.nilFunc,.nilFunc]
theorem zero_op (w:World):(zeroValue 238).run Tryz.prog w=.ok zeroOp w:=by kernel_rfl
set_option maxRecDepth 100000 in
theorem MapV.look2 (h:MapV r n w M) {k:Int} (hk:Word k):(Instr.lookup 249 (.map (some r)) (.int .i64 k) true).run Tryz.prog w=.ok (.tuple #[(M k).getD zeroOp,.bool (M k).isSome]) w:=by
 obtain ⟨D,h1,h2⟩:=h
 obtain ⟨v,ps,hr,hv⟩:=h1.look_ok keyed_int Tryz.underlying249 (zero_op w) (zd:=.held zeroOp) (zp:=[]) rfl (keyOf_int_mk Tryz.underlying3 hk.wf)
 obtain ⟨q1,q2⟩:=h2 k hk zeroOp
 unfold heldElem at hv
 injection hv with hv
 have hv:=congrArg Prod.fst hv
 simp only [q2] at hv
 injection hv with hv
 rw [← hv,← q1]
 exact hr
/-- An entry of a map's literal. -/
theorem MapV.insert {ops:Array Oper} {rest:List Oper} {o:Oper} {a:Act} {Q:Exit→Act→World→Prop} (h:MapV r n w M) (hn:n≤1000000) (k:Int) (v:Value) (hk:Word k)
  (hg:o.guard=none) (m x y:Operand) (hop:o.op=Op.insert 249 m x y) (hm:a.eval m=.map (some r)) (hx:a.eval x=.int .i64 k) (hy:a.eval y=v)
  (hK:∀ w',MapV r (n+1) w' (fun j=>if j=k then some v else M j)→w.grownBy w' (some r)→wpList Tryz.prog ops Q rest (a.put o.dst undef) w') :
  wpList Tryz.prog ops Q (o::rest) a w:=by
 obtain ⟨D,h1,h2⟩:=h
 refine wpList_plain hg fun K' hK'=>?_
 obtain ⟨w',hrun,o1,g1⟩:=h1.update (val:=v) keyed_int Tryz.underlying249 (by unfold maxLen;omega) (keyOf_int_mk Tryz.underlying3 hk.wf) (d:=.held v) (ps:=[]) rfl
 unfold Oper.wp
 simp [execOp,hop,hm,hx,hy,hrun,Result.andThen]
 refine hK' _ _ (hK w' ⟨_,o1,fun j hj z=>?_⟩ g1)
 have hM:=h1.isMap
 have hkl:WideAt.IsKeyLit (.int .i64 k):=trivial
 show _=(if j=k then some v else M j).isSome∧_=DataW.held ((if j=k then some v else M j).getD z)
 by_cases e:j=k
 ·subst e
  rw [if_pos rfl]
  exact ⟨has_put_same hM hkl _,atKey_put_same hM hkl _ _⟩
 ·have hne:(Lit.int .i64 j)≠.int .i64 k:=fun q=>by injection q with _ q;exact e q
  rw [if_neg e,has_put_other hne,atKey_put_other hne]
  exact h2 j hj z
end
end Ops
end Go.Proofs.YthfhamagopbgcaaGreat
namespace Go.Proofs.YthfhamagopbgcaaGreat
set_option linter.unusedSimpArgs false
set_option linter.unusedVariables false
open Go.RowKit Go.Maps

namespace Ops
/-- A func value with one box. -/
def boxV (F B:Nat):Value:=.func (.func F) #[] #[.pointer (some ⟨B,0,none⟩)]
/-- The entry of an operation; B: its box, if it has one. -/
def opV (o:Int) (B:Nat):Value :=
 if o=1 then .agg #[boxV 247 B,fnV 222,.nilFunc]
 else if o=2 then .agg #[boxV 247 B,fnV 224,.nilFunc]
 else if o=3 then .agg #[boxV 247 B,fnV 226,.nilFunc]
 else if o=4 then .agg #[fnV 229,.nilFunc,fnV 230]
 else if o=5 then .agg #[fnV 231,.nilFunc,.nilFunc]
 else if o=6 then .agg #[fnV 232,.nilFunc,fnV 234]
 else if o=7 then .agg #[fnV 235,.nilFunc,.nilFunc]
 else if o≤10 then .agg #[boxV 248 B,.nilFunc,.nilFunc]
 else if o=11 then .agg #[fnV 240,fnV 241,.nilFunc]
 else if o=12 then .agg #[fnV 242,.nilFunc,fnV 243]
 else .agg #[fnV 244,.nilFunc,fnV 246]
/-- What the box holds. -/
def boxOf (o:Int):Nat :=
 if o=1 then 223 else if o=2 then 225 else if o=3 then 228
 else if o=8 then 237 else if o=9 then 238 else 239
def boxed (o:Int):Prop:=o≤3∨(8≤o∧o≤10)
def OpAt (w:World) (o:Int) (v:Value):Prop:=∃ B,v=opV o B∧(boxed o→B<w.heap.size∧w.cell? ⟨B,0,none⟩=some (fnV (boxOf o)))
theorem OpAt.keep {w w':World} {o:Int} {v:Value} (h:OpAt w o v) (hk:∀ B,B<w.heap.size→w.cell? ⟨B,0,none⟩=some (fnV (boxOf o))→B<w'.heap.size∧w'.cell? ⟨B,0,none⟩=some (fnV (boxOf o))):OpAt w' o v:=by
 obtain ⟨B,h1,h2⟩:=h
 exact ⟨B,h1,fun hb=>hk B (h2 hb).1 (h2 hb).2⟩
theorem OpAt.gr {w w':World} {o:Int} {v:Value} (h:OpAt w o v) (g:Gr w w'):OpAt w' o v :=
 h.keep fun B hb hc=>⟨by have:=g.size;omega,(g.cell _ _ hb).trans hc⟩
/-- Block r holds the first n operations. -/
def OpsAt (r n:Nat) (w:World):Prop:=∃ M:Int→Option Value,MapV r n w M∧∀ o:Int,if 1≤o∧o≤n then ∃ v,M o=some v∧OpAt w o v else M o=none
section
variable {r n:Nat} {w w':World}
theorem OpsAt.made (w:World):OpsAt w.heap.size 0 (w.alloc (.map #[] 0)):=⟨_,MapV.made w,fun o=>by rw [if_neg (by omega)]⟩
theorem OpsAt.gr (h:OpsAt r n w) (g:Gr w w'):OpsAt r n w':=by
 obtain ⟨M,h1,h2⟩:=h
 refine ⟨M,h1.gr g,fun o=>?_⟩
 have:=h2 o
 split
 next h =>
  rw [if_pos h] at this
  obtain ⟨v,q1,q2⟩:=this
  exact ⟨v,q1,q2.gr g⟩
 next h=>rwa [if_neg h] at this
theorem cell_keep {w w':World} {r:Nat} {es:Array MapEntry} {clock:Nat} (hr:w.heap[r]?=some (.map es clock)) (g:w.grownBy w' (some r)) {B:Nat} {G:Nat} (hb:B<w.heap.size) (hc:w.cell? ⟨B,0,none⟩=some (fnV G)):B<w'.heap.size∧w'.cell? ⟨B,0,none⟩=some (fnV G):=by
 have hne:some B≠some r:=by
  intro e;injection e with e;subst e
  have:w.cell? ⟨B,0,none⟩=none:=by
   unfold World.cell?
   simp [hr]
  rw [this] at hc;cases hc
 exact ⟨by have:=g.size;omega,(World.cell?_of_block (w:=w) (a:=⟨B,0,none⟩) (g.block B hb hne)).trans hc⟩
theorem OpsAt.insert {ops:Array Oper} {rest:List Oper} {o:Oper} {a:Act} {Q:Exit→Act→World→Prop} (h:OpsAt r n w) (hn:n≤13) (v:Value) (hv:OpAt w (n+1:Nat) v)
  (hg:o.guard=none) (m x y:Operand) (hop:o.op=Op.insert 249 m x y) (hm:a.eval m=.map (some r)) (hx:a.eval x=.int .i64 ((n+1:Nat):Int)) (hy:a.eval y=v)
  (hK:∀ w',OpsAt r (n+1) w'→w.grownBy w' (some r)→wpList Tryz.prog ops Q rest (a.put o.dst undef) w') :
  wpList Tryz.prog ops Q (o::rest) a w:=by
 obtain ⟨M,h1,h2⟩:=h
 have hob:∃ es clock,w.heap[r]?=some (.map es clock):=by
  obtain ⟨D,⟨es,clock,hb,-⟩,-⟩:=h1
  exact ⟨es,clock,hb⟩
 obtain ⟨es,clock,hr⟩:=hob
 refine h1.insert (by omega) ((n+1:Nat):Int) v ⟨by omega,by omega⟩ hg m x y hop hm hx hy fun w' k1 k2=>hK w' ⟨_,k1,fun j=>?_⟩ k2
 by_cases e:j=((n+1:Nat):Int)
 ·subst e
  rw [if_pos ⟨by omega,by omega⟩,if_pos rfl]
  exact ⟨v,rfl,hv.keep fun B hb hc=>cell_keep hr k2 hb hc⟩
 ·have:=h2 j
  rw [if_neg e]
  by_cases hj:1≤j∧j≤n
  ·rw [if_pos hj] at this
   rw [if_pos ⟨by omega,by omega⟩]
   obtain ⟨u,q1,q2⟩:=this
   exact ⟨u,q1,q2.keep fun B hb hc=>cell_keep hr k2 hb hc⟩
  ·rw [if_neg hj] at this
   rw [if_neg (by omega)]
   exact this
end
theorem wraps_box (F G:Nat) (w:World):Calls Tryz.prog 221 #[fnV F,fnV G] w fun e w'=>∃ B,e=.returned (.agg #[boxV 247 B,fnV F,.nilFunc])∧(B<w'.heap.size∧w'.cell? ⟨B,0,none⟩=some (fnV G))∧Gr w w' :=
 (bwraps_any F G w).mono fun e w' h=>⟨_,h.2.1,⟨by have:=h.2.2.2;omega,h.2.2.1⟩,h.1⟩
theorem plain_box (G:Nat) (w:World):Calls Tryz.prog 236 #[fnV G] w fun e w'=>∃ B,e=.returned (.agg #[boxV 248 B,.nilFunc,.nilFunc])∧(B<w'.heap.size∧w'.cell? ⟨B,0,none⟩=some (fnV G))∧Gr w w' :=
 (bplain_any G w).mono fun e w' h=>⟨_,h.2.1,⟨by have:=h.2.2.2;omega,h.2.2.1⟩,h.1⟩
set_option maxRecDepth 100000 in
set_option maxHeartbeats 4000000 in
theorem operations_any (w:World):Calls Tryz.prog 218 #[] w fun e w'=>∃ r,e=.returned (.map (some r))∧OpsAt r 13 w'∧Gr w w':=by
 have hmm:=@run_makeMap Tryz.prog
 have HO:=Lib.hid (OpsAt.made w)
 have HG:=Lib.hid ((Gr.refl w).alloc (.map #[] 0))
 go_enter Tryz.func218, Tryz.ntmps218
 go_wp2_with (first
   | (go_at_call 221;(refine (wraps_box _ _ _).mono ?_);rintro e w1 ⟨B,rfl,hb1,g1⟩;have HB:=Lib.hid hb1;have HO1:=Lib.hid (HO.out.gr g1);have HG1:=Lib.hid (HG.out.trans g1);clear HO HG g1 hb1;have HO:=HO1;have HG:=HG1;clear HO1 HG1)
   | (go_at_call 236;(refine (plain_box _ _).mono ?_);rintro e w1 ⟨B,rfl,hb1,g1⟩;have HB:=Lib.hid hb1;have HO1:=Lib.hid (HO.out.gr g1);have HG1:=Lib.hid (HG.out.trans g1);clear HO HG g1 hb1;have HO:=HO1;have HG:=HG1;clear HO1 HG1)
   | (refine OpsAt.insert HO.out (by omega) _ ⟨_,rfl,fun _=>HB.out⟩ rfl _ _ _ rfl rfl rfl rfl ?_;intro w2 ho2 hg2;have HO2:=Lib.hid ho2;have HG2:=Lib.hid (HG.out.grown hg2 (fun k hk=>by injection hk with hk;omega));clear HO HG ho2 hg2 HB;have HO:=HO2;have HG:=HG2;clear HO2 HG2)
   | (refine OpsAt.insert HO.out (by omega) _ ⟨0,rfl,fun h=>absurd h (by unfold boxed;omega)⟩ rfl _ _ _ rfl rfl rfl rfl ?_;intro w2 ho2 hg2;have HO2:=Lib.hid ho2;have HG2:=Lib.hid (HG.out.grown hg2 (fun k hk=>by injection hk with hk;omega));clear HO HG ho2 hg2;have HO:=HO2;have HG:=HG2;clear HO2 HG2))
 go_ret
 exact ⟨_,rfl,HO.out,HG.out⟩
end Ops
end Go.Proofs.YthfhamagopbgcaaGreat
namespace Go.Proofs.YthfhamagopbgcaaGreat
set_option linter.unusedSimpArgs false
set_option linter.unusedVariables false
open Go.RowKit Go.Maps

namespace Ops
/-- The three func values of an entry. -/
theorem opV_parts (o:Int) (B:Nat):∃ g0 a0 b0 f1 f2,opV o B=.agg #[.func g0 a0 b0,f1,f2]∧(f1=.nilFunc∨∃ g a b,f1=.func g a b)∧(f2=.nilFunc∨∃ g a b,f2=.func g a b):=by
 suffices h:∀ v,v=opV o B→∃ g0 a0 b0 f1 f2,v=.agg #[.func g0 a0 b0,f1,f2]∧(f1=.nilFunc∨∃ g a b,f1=.func g a b)∧(f2=.nilFunc∨∃ g a b,f2=.func g a b) from h _ rfl
 intro v hv
 unfold opV fnV boxV at hv
 repeat' (split at hv)
 all_goals
  subst hv
  exact ⟨_,_,_,_,_,rfl,(by first | exact .inl rfl | exact .inr ⟨_,_,_,rfl⟩),(by first | exact .inl rfl | exact .inr ⟨_,_,_,rfl⟩)⟩
theorem u32_two {w:World} {k:Nat} {a b:Int} (h0:w.cell? ⟨k,0,none⟩=some (.int .u32 a)) (h1:w.cell? ⟨k,1,none⟩=some (.int .u32 b)):U32At (k+1) w (.slice (some ⟨k,0,none⟩) 2 2) [a,b] :=
 ⟨_,_,rfl,Nat.le_refl _,by simp,fun _=>⟨_,_,rfl,Nat.lt_succ_self _,fun j z hz=>by
   match j,hz with
   | 0,hz=>simp at hz;subst hz;exact h0
   | 1,hz=>simp at hz;subst hz;exact h1
   | j+2,hz=>simp at hz⟩⟩
theorem frm_setCell {Bh:Nat} {W W':World} (h:Frm Bh W W') (i:Nat) (v:Value):Frm Bh W (W'.setCell ⟨Bh,i,none⟩ v) :=
 ⟨by have:=h.1;simp;omega,fun k hk hne=>(RowKit.Below.heap_setCell _ _ _ _ hne).trans (h.2 k hk hne)⟩
theorem frm_drew {Bh:Nat} {W W':World} (h:Frm Bh W W'):Frm Bh W W'.drew:=h
theorem OpAt.away {w w':World} {o:Int} {v:Value} {R:Nat} (h:OpAt w o v) (hR:w.cell? ⟨R,0,none⟩=some .nilFunc) (hf:Frm R w w'):OpAt w' o v :=
 h.keep fun B hb hc=>by
  have hne:B≠R:=fun e=>by subst e;rw [hR] at hc;cases hc
  exact ⟨by have:=hf.1;omega,(World.cell?_of_block (w:=w) (a:=⟨B,0,none⟩) (hf.2 B hb hne)).trans hc⟩
set_option maxRecDepth 100000 in
set_option maxHeartbeats 4000000 in
theorem asked_any (o n a b:Int) (w:World) (ho:1≤o∧o≤13) (hn:Wd.Wid n) (ha:Wd.Word n a) (hb:Wd.Word n b):Calls Tryz.prog 208 #[.int .i64 o,.int .i64 n,.int .u32 a,.int .u32 b] w fun e w'=>∃ v,e=.returned (.tuple #[v,.bool true])∧OpAt w' o v∧Gr w w':=by
 have CF:Hid (∀ k w1,w1.cell? ⟨k,0,none⟩=some (.int .u32 a)→w1.cell? ⟨k,1,none⟩=some (.int .u32 b)→Calls Tryz.prog 211 #[.int .i64 n,.slice (some ⟨k,0,none⟩) 2 2] w1 fun e w'=>e=.returned (.bool true)∧w1=w'):=fun k w1 h0 h1=>by
  have:=bfits_any (k+1) n _ [a,b] w1 (u32_two h0 h1)
  have e:fitsB n [a,b]=true:=by unfold fitsB;rw [widB_true hn];simp [ha.2,hb.2]
  rwa [e] at this
 have HL:Hid (∀ r w1,OpsAt r 13 w1→∃ g0 a0 b0 f1 f2,(f1=.nilFunc∨∃ g a b,f1=.func g a b)∧(f2=.nilFunc∨∃ g a b,f2=.func g a b)∧OpAt w1 o (.agg #[.func g0 a0 b0,f1,f2]) ∧
     (Instr.lookup 249 (.map (some r)) (.int .i64 o) true).run Tryz.prog w1=.ok (.tuple #[.agg #[.func g0 a0 b0,f1,f2],.bool true]) w1):=fun r w1 h=>by
  obtain ⟨M,h1,h2⟩:=h
  have h3:=h2 o
  rw [if_pos ⟨ho.1,by omega⟩] at h3
  obtain ⟨v,q1,B,rfl,q2⟩:=h3
  obtain ⟨g0,a0,b0,f1,f2,e,k1,k2⟩:=opV_parts o B
  refine ⟨g0,a0,b0,f1,f2,k1,k2,⟨B,e.symm,q2⟩,?_⟩
  have:=h1.look2 (k:=o) ⟨by omega,by omega⟩
  rw [q1,e] at this
  exact this
 clear ho hn ha hb
 go_enter Tryz.func208, Tryz.ntmps208
 go_wp2_with (first
   | (go_at_call 218;(with_reducible refine (operations_any _).mono ?_);rintro e w1 ⟨r,rfl,ho1,g1⟩;obtain ⟨g0,a0,b0,f1,f2,k1,k2,q1,q2⟩:=HL.out _ _ ho1;have HQ:=Lib.hid q1;have HG:=Lib.hid g1;clear HL q1 g1 ho1;rcases k1 with rfl | ⟨g5,a5,b5,rfl⟩ <;> rcases k2 with rfl | ⟨g6,a6,b6,rfl⟩))
 all_goals
  have HG1:=Lib.hid (((Gr.refl w).alloc _).trans HG.out)
  have c0:w1.cell? ⟨w.heap.size,0,none⟩=some .nilFunc:=cell_box _ _ 0 HG.out rfl
  have c1:w1.cell? ⟨w.heap.size,1,none⟩=some .nilFunc:=cell_box _ _ 1 HG.out rfl
  have c2:w1.cell? ⟨w.heap.size,2,none⟩=some .nilFunc:=cell_box _ _ 2 HG.out rfl
  have e0:w1.frozen? ⟨w.heap.size,0,none⟩=false:=(HG.out.frozen w.heap.size 0 (by simp)).trans (World.frozen?_alloc_at _ _ _ _ rfl)
  have e1:w1.frozen? ⟨w.heap.size,1,none⟩=false:=(HG.out.frozen w.heap.size 1 (by simp)).trans (World.frozen?_alloc_at _ _ _ _ rfl)
  have e2:w1.frozen? ⟨w.heap.size,2,none⟩=false:=(HG.out.frozen w.heap.size 2 (by simp)).trans (World.frozen?_alloc_at _ _ _ _ rfl)
  have z1:w.heap.size<w1.heap.size:=by have:=HG.out.size;simp at this;omega
 ·go_region_with ((go_at_call 211;(with_reducible refine (CF.out _ _ (by simp) (by simp)).mono ?_);rintro e w2 ⟨rfl,rfl⟩))
  all_goals go_wp2
  all_goals refine bodyPost_ret (v:=.tuple #[.agg #[.func g0 a0 b0,.nilFunc,.nilFunc],.bool true]) (by simp [results,Tryz.results208,go_sem, *]) rfl ?_
  all_goals exact ⟨_,rfl,HQ.out.away c0 (by repeat (first | with_reducible refine frm_drew ?_ | with_reducible refine Frm.alloc ?_ _ | with_reducible refine frm_setCell ?_ _ _ | with_reducible exact Frm.refl _ _)),(by repeat (first | with_reducible exact HG1.out | with_reducible refine Gr.drew ?_ | with_reducible refine Gr.alloc ?_ _ | with_reducible refine Gr.setCell ?_ (Nat.le_refl _) _))⟩
 ·go_region_with ((go_at_call 211;(with_reducible refine (CF.out _ _ (by simp) (by simp)).mono ?_);rintro e w2 ⟨rfl,rfl⟩))
  all_goals go_wp2
  all_goals refine bodyPost_ret (v:=.tuple #[.agg #[.func g0 a0 b0,.nilFunc,.func g6 a6 b6],.bool true]) (by simp [results,Tryz.results208,go_sem, *]) rfl ?_
  all_goals exact ⟨_,rfl,HQ.out.away c0 (by repeat (first | with_reducible refine frm_drew ?_ | with_reducible refine Frm.alloc ?_ _ | with_reducible refine frm_setCell ?_ _ _ | with_reducible exact Frm.refl _ _)),(by repeat (first | with_reducible exact HG1.out | with_reducible refine Gr.drew ?_ | with_reducible refine Gr.alloc ?_ _ | with_reducible refine Gr.setCell ?_ (Nat.le_refl _) _))⟩
 ·go_region_with ((go_at_call 211;(with_reducible refine (CF.out _ _ (by simp) (by simp)).mono ?_);rintro e w2 ⟨rfl,rfl⟩))
  all_goals go_wp2
  all_goals refine bodyPost_ret (v:=.tuple #[.agg #[.func g0 a0 b0,.func g5 a5 b5,.nilFunc],.bool true]) (by simp [results,Tryz.results208,go_sem, *]) rfl ?_
  all_goals exact ⟨_,rfl,HQ.out.away c0 (by repeat (first | with_reducible refine frm_drew ?_ | with_reducible refine Frm.alloc ?_ _ | with_reducible refine frm_setCell ?_ _ _ | with_reducible exact Frm.refl _ _)),(by repeat (first | with_reducible exact HG1.out | with_reducible refine Gr.drew ?_ | with_reducible refine Gr.alloc ?_ _ | with_reducible refine Gr.setCell ?_ (Nat.le_refl _) _))⟩
 ·go_region_with ((go_at_call 211;(with_reducible refine (CF.out _ _ (by simp) (by simp)).mono ?_);rintro e w2 ⟨rfl,rfl⟩))
  all_goals go_wp2
  all_goals refine bodyPost_ret (v:=.tuple #[.agg #[.func g0 a0 b0,.func g5 a5 b5,.func g6 a6 b6],.bool true]) (by simp [results,Tryz.results208,go_sem, *]) rfl ?_
  all_goals exact ⟨_,rfl,HQ.out.away c0 (by repeat (first | with_reducible refine frm_drew ?_ | with_reducible refine Frm.alloc ?_ _ | with_reducible refine frm_setCell ?_ _ _ | with_reducible exact Frm.refl _ _)),(by repeat (first | with_reducible exact HG1.out | with_reducible refine Gr.drew ?_ | with_reducible refine Gr.alloc ?_ _ | with_reducible refine Gr.setCell ?_ (Nat.le_refl _) _))⟩
end Ops
end Go.Proofs.YthfhamagopbgcaaGreat
namespace Go.Proofs.YthfhamagopbgcaaGreat
set_option linter.unusedSimpArgs false
set_option linter.unusedVariables false
open Go.RowKit Go.Maps

namespace Ops
def DoPost (o n a b:Int) (w:World) (e:Ending) (w':World):Prop:=(∃ z,e=.returned (.tuple #[.int .u32 z,.bool (Wd.op o n a b).isSome])∧∀ y,Wd.op o n a b=some y→z=y)∧Gr w w'
theorem DoPost.yes {o n a b z:Int} {w w':World} (h:Wd.op o n a b=some z) (g:Gr w w'):DoPost o n a b w (.returned (.tuple #[.int .u32 z,.bool true])) w' :=
 ⟨⟨z,by rw [h];rfl,fun y hy=>by rw [h] at hy;injection hy⟩,g⟩
theorem DoPost.no {o n a b z:Int} {w w':World} (h:Wd.op o n a b=none) (g:Gr w w'):DoPost o n a b w (.returned (.tuple #[.int .u32 z,.bool false])) w' :=
 ⟨⟨z,by rw [h];rfl,fun y hy=>by rw [h] at hy;cases hy⟩,g⟩
theorem words {n a:Int} (hn:Wd.Wid n) (ha:Wd.Word n a):0≤a∧a<4294967296:=⟨ha.1,by have:=Wd.sz_32 hn;have:=ha.2;omega⟩

theorem dofn1 (n a b:Int) (B:Nat) (w:World) (hn:Wd.Wid n) (ha:Wd.Word n a) (hb:Wd.Word n b) (hc:w.cell? ⟨B,0,none⟩=some (fnV 223)):Calls Tryz.prog 247 #[.int .i64 n,.int .u32 a,.int .u32 b,.pointer (some ⟨B,0,none⟩)] w (DoPost 1 n a b w):=by
 refine (bwraps1_any _ (enters_of Tryz.func223 (by kernel_rfl) rfl) n a b _ B w hn hc (fun w1=>op2_any a b w1)).mono ?_
 rintro e w' ⟨rfl,rfl⟩
 rw [Wd.wrap_mask _ hn]
 exact DoPost.yes rfl (Gr.refl _)
theorem dofn2 (n a b:Int) (B:Nat) (w:World) (hn:Wd.Wid n) (ha:Wd.Word n a) (hb:Wd.Word n b) (hc:w.cell? ⟨B,0,none⟩=some (fnV 225)):Calls Tryz.prog 247 #[.int .i64 n,.int .u32 a,.int .u32 b,.pointer (some ⟨B,0,none⟩)] w (DoPost 2 n a b w):=by
 refine (bwraps1_any _ (enters_of Tryz.func225 (by kernel_rfl) rfl) n a b _ B w hn hc (fun w1=>op4_any a b w1)).mono ?_
 rintro e w' ⟨rfl,rfl⟩
 rw [Wd.wrap_mask _ hn]
 exact DoPost.yes rfl (Gr.refl _)
theorem dofn3 (n a b:Int) (B:Nat) (w:World) (hn:Wd.Wid n) (ha:Wd.Word n a) (hb:Wd.Word n b) (hc:w.cell? ⟨B,0,none⟩=some (fnV 228)):Calls Tryz.prog 247 #[.int .i64 n,.int .u32 a,.int .u32 b,.pointer (some ⟨B,0,none⟩)] w (DoPost 3 n a b w):=by
 refine (bwraps1_any _ (enters_of Tryz.func228 (by kernel_rfl) rfl) n a b _ B w hn hc (fun w1=>op6_any a b w1)).mono ?_
 rintro e w' ⟨rfl,rfl⟩
 rw [Wd.wrap_mask _ hn]
 exact DoPost.yes rfl (Gr.refl _)
theorem dofn4 (n a b:Int) (B:Nat) (w:World) (hn:Wd.Wid n) (ha:Wd.Word n a) (hb:Wd.Word n b):Calls Tryz.prog 229 #[.int .i64 n,.int .u32 a,.int .u32 b] w (DoPost 4 n a b w):=by
 refine (op7_any n a b w hn (words hn ha) (words hn hb)).mono ?_
 rintro e w' ⟨rfl,rfl⟩
 have e:Wd.op 4 n a b=if b=0 then none else some (a / b):=rfl
 by_cases h:b=0
 ·rw [if_pos h] at e;rw [if_pos h,show decide (b≠0)=false by simp [h]];exact DoPost.no e (Gr.refl _)
 ·rw [if_neg h] at e;rw [if_neg h,show decide (b≠0)=true by simp [h]];exact DoPost.yes e (Gr.refl _)
theorem dofn5 (n a b:Int) (B:Nat) (w:World) (hn:Wd.Wid n) (ha:Wd.Word n a) (hb:Wd.Word n b):Calls Tryz.prog 231 #[.int .i64 n,.int .u32 a,.int .u32 b] w (DoPost 5 n a b w):=by
 refine (op9_any n a b w (words hn ha) (words hn hb)).mono ?_
 rintro e w' ⟨rfl,rfl⟩
 have e:Wd.op 5 n a b=if b=0 then none else some (a % b):=rfl
 by_cases h:b=0
 ·rw [if_pos h] at e;rw [if_pos h,show decide (b≠0)=false by simp [h]];exact DoPost.no e (Gr.refl _)
 ·rw [if_neg h] at e;rw [if_neg h,show decide (b≠0)=true by simp [h]];exact DoPost.yes e (Gr.refl _)
theorem dofn6 (n a b:Int) (B:Nat) (w:World) (hn:Wd.Wid n) (ha:Wd.Word n a) (hb:Wd.Word n b):Calls Tryz.prog 232 #[.int .i64 n,.int .u32 a,.int .u32 b] w (DoPost 6 n a b w):=by
 have e:Wd.op 6 n a b=if b=0∨(Wd.sg n a=-Wd.sz (n-1)∧Wd.sg n b=-1) then none else some ((Wd.sg n a).tdiv (Wd.sg n b) % Wd.sz n):=rfl
 by_cases h:noQ n a b
 ·rw [if_pos (show b=0∨_ from h)] at e
  refine (op10_no n a b w hn ha hb h).mono ?_
  rintro _ w' ⟨⟨z,rfl⟩,g⟩
  exact DoPost.no e g
 ·rw [if_neg (show ¬ (b=0∨_) from h)] at e
  refine (op10_yes n a b w hn ha hb h).mono ?_
  rintro _ w' ⟨rfl,g⟩
  exact DoPost.yes e g
theorem dofn7 (n a b:Int) (B:Nat) (w:World) (hn:Wd.Wid n) (ha:Wd.Word n a) (hb:Wd.Word n b):Calls Tryz.prog 235 #[.int .i64 n,.int .u32 a,.int .u32 b] w (DoPost 7 n a b w):=by
 have e:Wd.op 7 n a b=if b=0∨(Wd.sg n a=-Wd.sz (n-1)∧Wd.sg n b=-1) then none else some ((Wd.sg n a).tmod (Wd.sg n b) % Wd.sz n):=rfl
 by_cases h:noQ n a b
 ·rw [if_pos (show b=0∨_ from h)] at e
  refine (op12_no n a b w hn ha hb h).mono ?_
  rintro _ w' ⟨⟨z,rfl⟩,g⟩
  exact DoPost.no e g
 ·rw [if_neg (show ¬ (b=0∨_) from h)] at e
  refine (op12_yes n a b w hn ha hb h).mono ?_
  rintro _ w' ⟨rfl,g⟩
  exact DoPost.yes e g
theorem dofn8 (n a b:Int) (B:Nat) (w:World) (hn:Wd.Wid n) (ha:Wd.Word n a) (hb:Wd.Word n b) (hc:w.cell? ⟨B,0,none⟩=some (fnV 237)):Calls Tryz.prog 248 #[.int .i64 n,.int .u32 a,.int .u32 b,.pointer (some ⟨B,0,none⟩)] w (DoPost 8 n a b w):=by
 refine (bplain1_any _ (enters_of Tryz.func237 (by kernel_rfl) rfl) n a b _ B w hc (fun w1=>op13_any a b w1)).mono ?_
 rintro e w' ⟨rfl,rfl⟩
 exact DoPost.yes rfl (Gr.refl _)
theorem dofn9 (n a b:Int) (B:Nat) (w:World) (hn:Wd.Wid n) (ha:Wd.Word n a) (hb:Wd.Word n b) (hc:w.cell? ⟨B,0,none⟩=some (fnV 238)):Calls Tryz.prog 248 #[.int .i64 n,.int .u32 a,.int .u32 b,.pointer (some ⟨B,0,none⟩)] w (DoPost 9 n a b w):=by
 refine (bplain1_any _ (enters_of Tryz.func238 (by kernel_rfl) rfl) n a b _ B w hc (fun w1=>op14_any a b w1)).mono ?_
 rintro e w' ⟨rfl,rfl⟩
 exact DoPost.yes rfl (Gr.refl _)
theorem dofn10 (n a b:Int) (B:Nat) (w:World) (hn:Wd.Wid n) (ha:Wd.Word n a) (hb:Wd.Word n b) (hc:w.cell? ⟨B,0,none⟩=some (fnV 239)):Calls Tryz.prog 248 #[.int .i64 n,.int .u32 a,.int .u32 b,.pointer (some ⟨B,0,none⟩)] w (DoPost 10 n a b w):=by
 refine (bplain1_any _ (enters_of Tryz.func239 (by kernel_rfl) rfl) n a b _ B w hc (fun w1=>op15_any a b w1)).mono ?_
 rintro e w' ⟨rfl,rfl⟩
 exact DoPost.yes rfl (Gr.refl _)
theorem dofn11 (n a b:Int) (B:Nat) (w:World) (hn:Wd.Wid n) (ha:Wd.Word n a) (hb:Wd.Word n b):Calls Tryz.prog 240 #[.int .i64 n,.int .u32 a,.int .u32 b] w (DoPost 11 n a b w):=by
 have e:Wd.op 11 n a b=if n≤b then none else some (a * 2 ^ b.toNat % Wd.sz n):=rfl
 by_cases h:n≤b
 ·rw [if_pos h] at e
  refine (op16_out n a b w (words hn hb) h).mono ?_
  rintro _ w' ⟨rfl,rfl⟩
  exact DoPost.no e (Gr.refl _)
 ·rw [if_neg h] at e
  refine (op16_in n a b w (words hn ha) hb.1 (by omega) hn).mono ?_
  rintro _ w' ⟨rfl,rfl⟩
  exact DoPost.yes e (Gr.refl _)
theorem dofn12 (n a b:Int) (B:Nat) (w:World) (hn:Wd.Wid n) (ha:Wd.Word n a) (hb:Wd.Word n b):Calls Tryz.prog 242 #[.int .i64 n,.int .u32 a,.int .u32 b] w (DoPost 12 n a b w):=by
 have e:Wd.op 12 n a b=if n≤b then none else some (a / 2 ^ b.toNat):=rfl
 by_cases h:n≤b
 ·rw [if_pos h] at e
  refine (op18_out n a b w (words hn hb) h).mono ?_
  rintro _ w' ⟨rfl,rfl⟩
  exact DoPost.no e (Gr.refl _)
 ·rw [if_neg h] at e
  refine (op18_in n a b w (words hn ha) hb.1 (by omega) hn.2).mono ?_
  rintro _ w' ⟨rfl,rfl⟩
  exact DoPost.yes e (Gr.refl _)
theorem dofn13 (n a b:Int) (B:Nat) (w:World) (hn:Wd.Wid n) (ha:Wd.Word n a) (hb:Wd.Word n b):Calls Tryz.prog 244 #[.int .i64 n,.int .u32 a,.int .u32 b] w (DoPost 13 n a b w):=by
 have e:Wd.op 13 n a b=if n≤b then none else some (Wd.sg n a / 2 ^ b.toNat % Wd.sz n):=rfl
 by_cases h:n≤b
 ·rw [if_pos h] at e
  refine (op20_out n a b w hn ha (words hn hb) h).mono ?_
  rintro _ w' ⟨⟨z,rfl⟩,rfl⟩
  exact DoPost.no e (Gr.refl _)
 ·rw [if_neg h] at e
  refine (op20_in n a b w hn ha hb.1 (by omega)).mono ?_
  rintro _ w' ⟨rfl,rfl⟩
  exact DoPost.yes e (Gr.refl _)
set_option maxRecDepth 100000 in
set_option maxHeartbeats 8000000 in
theorem bDo_any (o n a b:Int) (w:World) (ho:1≤o∧o≤13) (hn:Wd.Wid n) (ha:Wd.Word n a) (hb:Wd.Word n b):Calls Tryz.prog 184 #[.int .i64 o,.int .i64 n,.int .u32 a,.int .u32 b] w fun e w'=>e=.returned (.tuple #[.int .u32 ((Wd.op o n a b).getD 0),.bool (Wd.op o n a b).isSome,.int .i64 0])∧Gr w w':=by
 have CA:=Lib.hid fun w1=>asked_any o n a b w1 ho hn ha hb
 obtain ⟨z,hz⟩:∃ z,Wd.op o n a b=z:=⟨_,rfl⟩
 rw [hz]
 rcases (by omega:o=1∨o=2∨o=3∨o=4∨o=5∨o=6∨o=7∨o=8∨o=9∨o=10∨o=11∨o=12∨o=13) with rfl | rfl | rfl | rfl | rfl | rfl | rfl | rfl | rfl | rfl | rfl | rfl | rfl
 ·have CD:=Lib.hid fun B w1 (hc:w1.cell? ⟨B,0,none⟩=some (fnV 223))=>dofn1 n a b B w1 hn ha hb hc
  clear hn ha hb ho
  have HZ:=Lib.hid hz
  have HV:=Lib.hid (show ∀ B,opV 1 B=.agg #[boxV 247 B,fnV 222,.nilFunc] from fun B=>rfl)
  clear hz
  go_enter Tryz.func184, Tryz.ntmps184
  go_wp2_with (first
    | (go_at_call 208;(with_reducible refine (CA.out _).mono ?_);rintro e w1 ⟨v,rfl,⟨B,rfl,hB⟩,g1⟩;rw [HV.out B];have HC:=Lib.hid (show B<w1.heap.size∧w1.cell? ⟨B,0,none⟩=some (fnV 223) from hB (by unfold boxed;omega));unfold fnV boxV;clear hB)
    | (go_at_call 247;(with_reducible refine (CD.out B _ (by rw [World.cell?_alloc_past _ _ _ HC.out.1];exact HC.out.2)).mono ?_);rintro e w2 ⟨⟨y,rfl,hy⟩,g2⟩;have HY:=Lib.hid hy;clear hy;rw [HZ.out] at HY;rw [HZ.out];obtain _ | x:=z))
  ·exact bodyPost_ret (v:=.tuple #[.int .u32 0,.bool false,.int .i64 0]) (by simp [results,Tryz.results184,go_sem]) rfl ⟨rfl,(g1.alloc _).trans g2⟩
  ·exact bodyPost_ret (v:=.tuple #[.int .u32 y,.bool true,.int .i64 0]) (by simp [results,Tryz.results184,go_sem]) rfl ⟨by rw [HY.out x rfl];rfl,(g1.alloc _).trans g2⟩
 ·have CD:=Lib.hid fun B w1 (hc:w1.cell? ⟨B,0,none⟩=some (fnV 225))=>dofn2 n a b B w1 hn ha hb hc
  clear hn ha hb ho
  have HZ:=Lib.hid hz
  have HV:=Lib.hid (show ∀ B,opV 2 B=.agg #[boxV 247 B,fnV 224,.nilFunc] from fun B=>rfl)
  clear hz
  go_enter Tryz.func184, Tryz.ntmps184
  go_wp2_with (first
    | (go_at_call 208;(with_reducible refine (CA.out _).mono ?_);rintro e w1 ⟨v,rfl,⟨B,rfl,hB⟩,g1⟩;rw [HV.out B];have HC:=Lib.hid (show B<w1.heap.size∧w1.cell? ⟨B,0,none⟩=some (fnV 225) from hB (by unfold boxed;omega));unfold fnV boxV;clear hB)
    | (go_at_call 247;(with_reducible refine (CD.out B _ (by rw [World.cell?_alloc_past _ _ _ HC.out.1];exact HC.out.2)).mono ?_);rintro e w2 ⟨⟨y,rfl,hy⟩,g2⟩;have HY:=Lib.hid hy;clear hy;rw [HZ.out] at HY;rw [HZ.out];obtain _ | x:=z))
  ·exact bodyPost_ret (v:=.tuple #[.int .u32 0,.bool false,.int .i64 0]) (by simp [results,Tryz.results184,go_sem]) rfl ⟨rfl,(g1.alloc _).trans g2⟩
  ·exact bodyPost_ret (v:=.tuple #[.int .u32 y,.bool true,.int .i64 0]) (by simp [results,Tryz.results184,go_sem]) rfl ⟨by rw [HY.out x rfl];rfl,(g1.alloc _).trans g2⟩
 ·have CD:=Lib.hid fun B w1 (hc:w1.cell? ⟨B,0,none⟩=some (fnV 228))=>dofn3 n a b B w1 hn ha hb hc
  clear hn ha hb ho
  have HZ:=Lib.hid hz
  have HV:=Lib.hid (show ∀ B,opV 3 B=.agg #[boxV 247 B,fnV 226,.nilFunc] from fun B=>rfl)
  clear hz
  go_enter Tryz.func184, Tryz.ntmps184
  go_wp2_with (first
    | (go_at_call 208;(with_reducible refine (CA.out _).mono ?_);rintro e w1 ⟨v,rfl,⟨B,rfl,hB⟩,g1⟩;rw [HV.out B];have HC:=Lib.hid (show B<w1.heap.size∧w1.cell? ⟨B,0,none⟩=some (fnV 228) from hB (by unfold boxed;omega));unfold fnV boxV;clear hB)
    | (go_at_call 247;(with_reducible refine (CD.out B _ (by rw [World.cell?_alloc_past _ _ _ HC.out.1];exact HC.out.2)).mono ?_);rintro e w2 ⟨⟨y,rfl,hy⟩,g2⟩;have HY:=Lib.hid hy;clear hy;rw [HZ.out] at HY;rw [HZ.out];obtain _ | x:=z))
  ·exact bodyPost_ret (v:=.tuple #[.int .u32 0,.bool false,.int .i64 0]) (by simp [results,Tryz.results184,go_sem]) rfl ⟨rfl,(g1.alloc _).trans g2⟩
  ·exact bodyPost_ret (v:=.tuple #[.int .u32 y,.bool true,.int .i64 0]) (by simp [results,Tryz.results184,go_sem]) rfl ⟨by rw [HY.out x rfl];rfl,(g1.alloc _).trans g2⟩
 ·have CD:=Lib.hid fun B w1=>dofn4 n a b B w1 hn ha hb
  clear hn ha hb ho
  have HZ:=Lib.hid hz
  have HV:=Lib.hid (show ∀ B,opV 4 B=.agg #[fnV 229,.nilFunc,fnV 230] from fun B=>rfl)
  clear hz
  go_enter Tryz.func184, Tryz.ntmps184
  go_wp2_with (first
    | (go_at_call 208;(with_reducible refine (CA.out _).mono ?_);rintro e w1 ⟨v,rfl,⟨B,rfl,hB⟩,g1⟩;rw [HV.out B];unfold fnV;clear hB)
    | (go_at_call 229;(with_reducible refine (CD.out B _).mono ?_);rintro e w2 ⟨⟨y,rfl,hy⟩,g2⟩;have HY:=Lib.hid hy;clear hy;rw [HZ.out] at HY;rw [HZ.out];obtain _ | x:=z))
  ·exact bodyPost_ret (v:=.tuple #[.int .u32 0,.bool false,.int .i64 0]) (by simp [results,Tryz.results184,go_sem]) rfl ⟨rfl,(g1.alloc _).trans g2⟩
  ·exact bodyPost_ret (v:=.tuple #[.int .u32 y,.bool true,.int .i64 0]) (by simp [results,Tryz.results184,go_sem]) rfl ⟨by rw [HY.out x rfl];rfl,(g1.alloc _).trans g2⟩
 ·have CD:=Lib.hid fun B w1=>dofn5 n a b B w1 hn ha hb
  clear hn ha hb ho
  have HZ:=Lib.hid hz
  have HV:=Lib.hid (show ∀ B,opV 5 B=.agg #[fnV 231,.nilFunc,.nilFunc] from fun B=>rfl)
  clear hz
  go_enter Tryz.func184, Tryz.ntmps184
  go_wp2_with (first
    | (go_at_call 208;(with_reducible refine (CA.out _).mono ?_);rintro e w1 ⟨v,rfl,⟨B,rfl,hB⟩,g1⟩;rw [HV.out B];unfold fnV;clear hB)
    | (go_at_call 231;(with_reducible refine (CD.out B _).mono ?_);rintro e w2 ⟨⟨y,rfl,hy⟩,g2⟩;have HY:=Lib.hid hy;clear hy;rw [HZ.out] at HY;rw [HZ.out];obtain _ | x:=z))
  ·exact bodyPost_ret (v:=.tuple #[.int .u32 0,.bool false,.int .i64 0]) (by simp [results,Tryz.results184,go_sem]) rfl ⟨rfl,(g1.alloc _).trans g2⟩
  ·exact bodyPost_ret (v:=.tuple #[.int .u32 y,.bool true,.int .i64 0]) (by simp [results,Tryz.results184,go_sem]) rfl ⟨by rw [HY.out x rfl];rfl,(g1.alloc _).trans g2⟩
 ·have CD:=Lib.hid fun B w1=>dofn6 n a b B w1 hn ha hb
  clear hn ha hb ho
  have HZ:=Lib.hid hz
  have HV:=Lib.hid (show ∀ B,opV 6 B=.agg #[fnV 232,.nilFunc,fnV 234] from fun B=>rfl)
  clear hz
  go_enter Tryz.func184, Tryz.ntmps184
  go_wp2_with (first
    | (go_at_call 208;(with_reducible refine (CA.out _).mono ?_);rintro e w1 ⟨v,rfl,⟨B,rfl,hB⟩,g1⟩;rw [HV.out B];unfold fnV;clear hB)
    | (go_at_call 232;(with_reducible refine (CD.out B _).mono ?_);rintro e w2 ⟨⟨y,rfl,hy⟩,g2⟩;have HY:=Lib.hid hy;clear hy;rw [HZ.out] at HY;rw [HZ.out];obtain _ | x:=z))
  ·exact bodyPost_ret (v:=.tuple #[.int .u32 0,.bool false,.int .i64 0]) (by simp [results,Tryz.results184,go_sem]) rfl ⟨rfl,(g1.alloc _).trans g2⟩
  ·exact bodyPost_ret (v:=.tuple #[.int .u32 y,.bool true,.int .i64 0]) (by simp [results,Tryz.results184,go_sem]) rfl ⟨by rw [HY.out x rfl];rfl,(g1.alloc _).trans g2⟩
 ·have CD:=Lib.hid fun B w1=>dofn7 n a b B w1 hn ha hb
  clear hn ha hb ho
  have HZ:=Lib.hid hz
  have HV:=Lib.hid (show ∀ B,opV 7 B=.agg #[fnV 235,.nilFunc,.nilFunc] from fun B=>rfl)
  clear hz
  go_enter Tryz.func184, Tryz.ntmps184
  go_wp2_with (first
    | (go_at_call 208;(with_reducible refine (CA.out _).mono ?_);rintro e w1 ⟨v,rfl,⟨B,rfl,hB⟩,g1⟩;rw [HV.out B];unfold fnV;clear hB)
    | (go_at_call 235;(with_reducible refine (CD.out B _).mono ?_);rintro e w2 ⟨⟨y,rfl,hy⟩,g2⟩;have HY:=Lib.hid hy;clear hy;rw [HZ.out] at HY;rw [HZ.out];obtain _ | x:=z))
  ·exact bodyPost_ret (v:=.tuple #[.int .u32 0,.bool false,.int .i64 0]) (by simp [results,Tryz.results184,go_sem]) rfl ⟨rfl,(g1.alloc _).trans g2⟩
  ·exact bodyPost_ret (v:=.tuple #[.int .u32 y,.bool true,.int .i64 0]) (by simp [results,Tryz.results184,go_sem]) rfl ⟨by rw [HY.out x rfl];rfl,(g1.alloc _).trans g2⟩
 ·have CD:=Lib.hid fun B w1 (hc:w1.cell? ⟨B,0,none⟩=some (fnV 237))=>dofn8 n a b B w1 hn ha hb hc
  clear hn ha hb ho
  have HZ:=Lib.hid hz
  have HV:=Lib.hid (show ∀ B,opV 8 B=.agg #[boxV 248 B,.nilFunc,.nilFunc] from fun B=>rfl)
  clear hz
  go_enter Tryz.func184, Tryz.ntmps184
  go_wp2_with (first
    | (go_at_call 208;(with_reducible refine (CA.out _).mono ?_);rintro e w1 ⟨v,rfl,⟨B,rfl,hB⟩,g1⟩;rw [HV.out B];have HC:=Lib.hid (show B<w1.heap.size∧w1.cell? ⟨B,0,none⟩=some (fnV 237) from hB (by unfold boxed;omega));unfold boxV;clear hB)
    | (go_at_call 248;(with_reducible refine (CD.out B _ (by rw [World.cell?_alloc_past _ _ _ HC.out.1];exact HC.out.2)).mono ?_);rintro e w2 ⟨⟨y,rfl,hy⟩,g2⟩;have HY:=Lib.hid hy;clear hy;rw [HZ.out] at HY;rw [HZ.out];obtain _ | x:=z))
  ·exact bodyPost_ret (v:=.tuple #[.int .u32 0,.bool false,.int .i64 0]) (by simp [results,Tryz.results184,go_sem]) rfl ⟨rfl,(g1.alloc _).trans g2⟩
  ·exact bodyPost_ret (v:=.tuple #[.int .u32 y,.bool true,.int .i64 0]) (by simp [results,Tryz.results184,go_sem]) rfl ⟨by rw [HY.out x rfl];rfl,(g1.alloc _).trans g2⟩
 ·have CD:=Lib.hid fun B w1 (hc:w1.cell? ⟨B,0,none⟩=some (fnV 238))=>dofn9 n a b B w1 hn ha hb hc
  clear hn ha hb ho
  have HZ:=Lib.hid hz
  have HV:=Lib.hid (show ∀ B,opV 9 B=.agg #[boxV 248 B,.nilFunc,.nilFunc] from fun B=>rfl)
  clear hz
  go_enter Tryz.func184, Tryz.ntmps184
  go_wp2_with (first
    | (go_at_call 208;(with_reducible refine (CA.out _).mono ?_);rintro e w1 ⟨v,rfl,⟨B,rfl,hB⟩,g1⟩;rw [HV.out B];have HC:=Lib.hid (show B<w1.heap.size∧w1.cell? ⟨B,0,none⟩=some (fnV 238) from hB (by unfold boxed;omega));unfold boxV;clear hB)
    | (go_at_call 248;(with_reducible refine (CD.out B _ (by rw [World.cell?_alloc_past _ _ _ HC.out.1];exact HC.out.2)).mono ?_);rintro e w2 ⟨⟨y,rfl,hy⟩,g2⟩;have HY:=Lib.hid hy;clear hy;rw [HZ.out] at HY;rw [HZ.out];obtain _ | x:=z))
  ·exact bodyPost_ret (v:=.tuple #[.int .u32 0,.bool false,.int .i64 0]) (by simp [results,Tryz.results184,go_sem]) rfl ⟨rfl,(g1.alloc _).trans g2⟩
  ·exact bodyPost_ret (v:=.tuple #[.int .u32 y,.bool true,.int .i64 0]) (by simp [results,Tryz.results184,go_sem]) rfl ⟨by rw [HY.out x rfl];rfl,(g1.alloc _).trans g2⟩
 ·have CD:=Lib.hid fun B w1 (hc:w1.cell? ⟨B,0,none⟩=some (fnV 239))=>dofn10 n a b B w1 hn ha hb hc
  clear hn ha hb ho
  have HZ:=Lib.hid hz
  have HV:=Lib.hid (show ∀ B,opV 10 B=.agg #[boxV 248 B,.nilFunc,.nilFunc] from fun B=>rfl)
  clear hz
  go_enter Tryz.func184, Tryz.ntmps184
  go_wp2_with (first
    | (go_at_call 208;(with_reducible refine (CA.out _).mono ?_);rintro e w1 ⟨v,rfl,⟨B,rfl,hB⟩,g1⟩;rw [HV.out B];have HC:=Lib.hid (show B<w1.heap.size∧w1.cell? ⟨B,0,none⟩=some (fnV 239) from hB (by unfold boxed;omega));unfold boxV;clear hB)
    | (go_at_call 248;(with_reducible refine (CD.out B _ (by rw [World.cell?_alloc_past _ _ _ HC.out.1];exact HC.out.2)).mono ?_);rintro e w2 ⟨⟨y,rfl,hy⟩,g2⟩;have HY:=Lib.hid hy;clear hy;rw [HZ.out] at HY;rw [HZ.out];obtain _ | x:=z))
  ·exact bodyPost_ret (v:=.tuple #[.int .u32 0,.bool false,.int .i64 0]) (by simp [results,Tryz.results184,go_sem]) rfl ⟨rfl,(g1.alloc _).trans g2⟩
  ·exact bodyPost_ret (v:=.tuple #[.int .u32 y,.bool true,.int .i64 0]) (by simp [results,Tryz.results184,go_sem]) rfl ⟨by rw [HY.out x rfl];rfl,(g1.alloc _).trans g2⟩
 ·have CD:=Lib.hid fun B w1=>dofn11 n a b B w1 hn ha hb
  clear hn ha hb ho
  have HZ:=Lib.hid hz
  have HV:=Lib.hid (show ∀ B,opV 11 B=.agg #[fnV 240,fnV 241,.nilFunc] from fun B=>rfl)
  clear hz
  go_enter Tryz.func184, Tryz.ntmps184
  go_wp2_with (first
    | (go_at_call 208;(with_reducible refine (CA.out _).mono ?_);rintro e w1 ⟨v,rfl,⟨B,rfl,hB⟩,g1⟩;rw [HV.out B];unfold fnV;clear hB)
    | (go_at_call 240;(with_reducible refine (CD.out B _).mono ?_);rintro e w2 ⟨⟨y,rfl,hy⟩,g2⟩;have HY:=Lib.hid hy;clear hy;rw [HZ.out] at HY;rw [HZ.out];obtain _ | x:=z))
  ·exact bodyPost_ret (v:=.tuple #[.int .u32 0,.bool false,.int .i64 0]) (by simp [results,Tryz.results184,go_sem]) rfl ⟨rfl,(g1.alloc _).trans g2⟩
  ·exact bodyPost_ret (v:=.tuple #[.int .u32 y,.bool true,.int .i64 0]) (by simp [results,Tryz.results184,go_sem]) rfl ⟨by rw [HY.out x rfl];rfl,(g1.alloc _).trans g2⟩
 ·have CD:=Lib.hid fun B w1=>dofn12 n a b B w1 hn ha hb
  clear hn ha hb ho
  have HZ:=Lib.hid hz
  have HV:=Lib.hid (show ∀ B,opV 12 B=.agg #[fnV 242,.nilFunc,fnV 243] from fun B=>rfl)
  clear hz
  go_enter Tryz.func184, Tryz.ntmps184
  go_wp2_with (first
    | (go_at_call 208;(with_reducible refine (CA.out _).mono ?_);rintro e w1 ⟨v,rfl,⟨B,rfl,hB⟩,g1⟩;rw [HV.out B];unfold fnV;clear hB)
    | (go_at_call 242;(with_reducible refine (CD.out B _).mono ?_);rintro e w2 ⟨⟨y,rfl,hy⟩,g2⟩;have HY:=Lib.hid hy;clear hy;rw [HZ.out] at HY;rw [HZ.out];obtain _ | x:=z))
  ·exact bodyPost_ret (v:=.tuple #[.int .u32 0,.bool false,.int .i64 0]) (by simp [results,Tryz.results184,go_sem]) rfl ⟨rfl,(g1.alloc _).trans g2⟩
  ·exact bodyPost_ret (v:=.tuple #[.int .u32 y,.bool true,.int .i64 0]) (by simp [results,Tryz.results184,go_sem]) rfl ⟨by rw [HY.out x rfl];rfl,(g1.alloc _).trans g2⟩
 ·have CD:=Lib.hid fun B w1=>dofn13 n a b B w1 hn ha hb
  clear hn ha hb ho
  have HZ:=Lib.hid hz
  have HV:=Lib.hid (show ∀ B,opV 13 B=.agg #[fnV 244,.nilFunc,fnV 246] from fun B=>rfl)
  clear hz
  go_enter Tryz.func184, Tryz.ntmps184
  go_wp2_with (first
    | (go_at_call 208;(with_reducible refine (CA.out _).mono ?_);rintro e w1 ⟨v,rfl,⟨B,rfl,hB⟩,g1⟩;rw [HV.out B];unfold fnV;clear hB)
    | (go_at_call 244;(with_reducible refine (CD.out B _).mono ?_);rintro e w2 ⟨⟨y,rfl,hy⟩,g2⟩;have HY:=Lib.hid hy;clear hy;rw [HZ.out] at HY;rw [HZ.out];obtain _ | x:=z))
  ·exact bodyPost_ret (v:=.tuple #[.int .u32 0,.bool false,.int .i64 0]) (by simp [results,Tryz.results184,go_sem]) rfl ⟨rfl,(g1.alloc _).trans g2⟩
  ·exact bodyPost_ret (v:=.tuple #[.int .u32 y,.bool true,.int .i64 0]) (by simp [results,Tryz.results184,go_sem]) rfl ⟨by rw [HY.out x rfl];rfl,(g1.alloc _).trans g2⟩
end Ops
end Go.Proofs.YthfhamagopbgcaaGreat
namespace Go.Proofs.YthfhamagopbgcaaGreat
set_option linter.unusedSimpArgs false
set_option linter.unusedVariables false
open Go.RowKit Go.Maps

namespace Ops
theorem nil_eq (w:World):(binOp .eql 235 .nilFunc .nilFunc).run Tryz.prog w=.ok (.bool true) w:=by kernel_rfl
theorem func_eq (g:Go.Fn) (a b:Array Value) (w:World):(binOp .eql 235 (.func g a b) .nilFunc).run Tryz.prog w=.ok (.bool false) w:=by kernel_rfl
theorem nil_ne (w:World):(binOp .neq 236 .nilFunc .nilFunc).run Tryz.prog w=.ok (.bool false) w:=by kernel_rfl
theorem func_ne (g:Go.Fn) (a b:Array Value) (w:World):(binOp .neq 236 (.func g a b) .nilFunc).run Tryz.prog w=.ok (.bool true) w:=by kernel_rfl
theorem flag_bits {fl:Int} (h:0≤fl∧fl≤7):(bits .and .i64 fl 1 != 0)=(fl % 2 == 1)∧(bits .and .i64 fl 2 != 0)=(fl / 2 % 2 == 1)∧(bits .and .i64 fl 4 != 0)=(fl / 4 % 2 == 1):=by
 rcases (by omega:fl=0∨fl=1∨fl=2∨fl=3∨fl=4∨fl=5∨fl=6∨fl=7) with rfl | rfl | rfl | rfl | rfl | rfl | rfl | rfl <;> decide
/-- What flags of wrapping say, of the results without a limit. -/
def wrapsB (t1 t2:Bool) (m h X Z:Int):Bool:=t1 && (decide (X<0) || decide (m<X)) || t2 && (decide (Z < -h) || decide (h≤Z))
theorem dec_iff {p q:Prop} [Decidable p] [Decidable q] (h:p↔q):decide p=decide q:=by rw [Bool.eq_iff_iff];simpa using h
theorem sg_bd {n a:Int} (hn:Wd.Wid n) (ha:Wd.Word n a):-2147483648≤Wd.sg n a∧Wd.sg n a≤2147483647:=by
 have h1:=Wd.sg_range hn ha
 obtain ⟨k,-,-,-,h2,h3⟩:=half_facts hn
 omega
theorem brk1_eq {n a b:Int} (fl:Int) (hn:Wd.Wid n) (ha:Wd.Word n a) (hb:Wd.Word n b):Wd.brk 1 fl n a b=wrapsB (fl % 2 == 1) (fl / 2 % 2 == 1) (Wd.sz n-1) (Wd.sz (n-1)) (a+b) (Wd.sg n a+Wd.sg n b):=by
 have e:Wd.brk 1 fl n a b=(fl % 2 == 1 && decide (Wd.sz n≤a+b) || fl / 2 % 2 == 1 && (decide (Wd.sg n a+Wd.sg n b < -Wd.sz (n-1)) || decide (Wd.sz (n-1)≤Wd.sg n a+Wd.sg n b))):=rfl
 have e1:decide (Wd.sz n≤a+b)=(decide (a+b<0) || decide (Wd.sz n-1<a+b)):=by
  rw [← Bool.decide_or];refine dec_iff ?_
  have:=ha.1;have:=hb.1;omega
 rw [e,e1];rfl
theorem brk2_eq {n a b:Int} (fl:Int) (hn:Wd.Wid n) (ha:Wd.Word n a) (hb:Wd.Word n b):Wd.brk 2 fl n a b=wrapsB (fl % 2 == 1) (fl / 2 % 2 == 1) (Wd.sz n-1) (Wd.sz (n-1)) (a-b) (Wd.sg n a-Wd.sg n b):=by
 have e:Wd.brk 2 fl n a b=(fl % 2 == 1 && decide (a<b) || fl / 2 % 2 == 1 && (decide (Wd.sg n a-Wd.sg n b < -Wd.sz (n-1)) || decide (Wd.sz (n-1)≤Wd.sg n a-Wd.sg n b))):=rfl
 have e1:decide (a<b)=(decide (a-b<0) || decide (Wd.sz n-1<a-b)):=by
  rw [← Bool.decide_or];refine dec_iff ?_
  have:=ha.2;have:=hb.1;omega
 rw [e,e1];rfl
theorem brk3_eq {n a b:Int} (fl:Int) (hn:Wd.Wid n) (ha:Wd.Word n a) (hb:Wd.Word n b):Wd.brk 3 fl n a b=wrapsB (fl % 2 == 1) (fl / 2 % 2 == 1) (Wd.sz n-1) (Wd.sz (n-1)) (mul62 a b) (mul62 (Wd.sg n a) (Wd.sg n b)):=by
 have e:Wd.brk 3 fl n a b=(fl % 2 == 1 && decide (Wd.sz n≤a * b) || fl / 2 % 2 == 1 && (decide (Wd.sg n a * Wd.sg n b < -Wd.sz (n-1)) || decide (Wd.sz (n-1)≤Wd.sg n a * Wd.sg n b))):=rfl
 have hp:=Int.mul_nonneg ha.1 hb.1
 have hs:=Wd.sz_32 hn
 obtain ⟨k,-,-,-,h2,h3⟩:=half_facts hn
 have e1:decide (Wd.sz n≤a * b)=(decide (mul62 a b<0) || decide (Wd.sz n-1<mul62 a b)):=by
  rw [← Bool.decide_or];refine dec_iff ?_
  unfold mul62
  split <;> omega
 have e2:(decide (Wd.sg n a * Wd.sg n b < -Wd.sz (n-1)) || decide (Wd.sz (n-1)≤Wd.sg n a * Wd.sg n b))=(decide (mul62 (Wd.sg n a) (Wd.sg n b) < -Wd.sz (n-1)) || decide (Wd.sz (n-1)≤mul62 (Wd.sg n a) (Wd.sg n b))):=by
  rw [← Bool.decide_or,← Bool.decide_or];refine dec_iff ?_
  unfold mul62
  split <;> omega
 rw [e,e1,e2];rfl
theorem brk11_eq {n a b:Int} (fl:Int) (ha:Wd.Word n a):Wd.brk 11 fl n a b=wrapsB (fl % 2 == 1) (fl / 2 % 2 == 1) (Wd.sz n-1) (Wd.sz (n-1)) (a * 2 ^ b.toNat) (Wd.sg n a * 2 ^ b.toNat):=by
 have e:Wd.brk 11 fl n a b=(fl % 2 == 1 && decide (Wd.sz n≤a * 2 ^ b.toNat) || fl / 2 % 2 == 1 && (decide (Wd.sg n a * 2 ^ b.toNat < -Wd.sz (n-1)) || decide (Wd.sz (n-1)≤Wd.sg n a * 2 ^ b.toNat))):=rfl
 have hp:0≤a * 2 ^ b.toNat:=Int.mul_nonneg ha.1 (Int.le_of_lt (Int.pow_pos (by decide)))
 have e1:decide (Wd.sz n≤a * 2 ^ b.toNat)=(decide (a * 2 ^ b.toNat<0) || decide (Wd.sz n-1<a * 2 ^ b.toNat)):=by
  rw [← Bool.decide_or];refine dec_iff ?_
  omega
 rw [e,e1];rfl
theorem shl_bd {a b:Int} (ha:-4294967296<a∧a<4294967296) (hb:0≤b∧b<32):-9223372036854775808≤a * 2 ^ b.toNat∧a * 2 ^ b.toNat≤9223372036854775807:=by
 have h1:(2:Int) ^ b.toNat≤2147483648:=by
  have:=Wd.sz_le (n:=b) (m:=31) (by omega)
  have e:Wd.sz 31=2147483648:=by decide
  unfold Wd.sz at this e
  omega
 have h0:(0:Int)<2 ^ b.toNat:=Int.pow_pos (by decide)
 generalize (2:Int) ^ b.toNat=p at h0 h1
 have u1:a * p≤4294967295 * p:=Int.mul_le_mul_of_nonneg_right (by omega) (by omega)
 have u2:-4294967295 * p≤a * p:=Int.mul_le_mul_of_nonneg_right (by omega) (by omega)
 omega

set_option maxRecDepth 100000 in
set_option maxHeartbeats 8000000 in
theorem brk4 (fl n a b:Int) (w:World) (hf:0≤fl∧fl≤7) (hn:Wd.Wid n) (ha:Wd.Word n a) (hb:Wd.Word n b):Calls Tryz.prog 185 #[.int .i64 4,.int .i64 fl,.int .i64 n,.int .u32 a,.int .u32 b] w fun e w'=>e=.returned (.tuple #[.bool (Wd.broken 4 fl n a b),.int .i64 0])∧Gr w w':=by
 have CA:=Lib.hid fun w1=>asked_any 4 n a b w1 (by omega) hn ha hb
 have CD:=Lib.hid fun B w1=>dofn4 n a b B w1 hn ha hb
 have HV:=Lib.hid (show ∀ B,opV 4 B=.agg #[fnV 229,.nilFunc,fnV 230] from fun B=>rfl)
 obtain ⟨F1,F2,F4⟩:=flag_bits hf
 have N1:=nil_eq
 have N2:=func_eq
 have N3:=nil_ne
 have N4:=func_ne
 obtain ⟨f1,f2⟩:=hf
 obtain ⟨t1,ht1⟩:∃ t,(fl % 2 == 1)=t:=⟨_,rfl⟩
 obtain ⟨t2,ht2⟩:∃ t,(fl / 2 % 2 == 1)=t:=⟨_,rfl⟩
 obtain ⟨t4,ht4⟩:∃ t,(fl / 4 % 2 == 1)=t:=⟨_,rfl⟩
 rw [ht1] at F1
 rw [ht2] at F2
 rw [ht4] at F4
 obtain ⟨z,hz⟩:∃ z,Wd.op 4 n a b=z:=⟨_,rfl⟩
 have HZ:=Lib.hid hz
 obtain _ | x:=z
 ·have HB:Hid (Wd.broken 4 fl n a b=false):=by show _=_;unfold Wd.broken;rw [hz];rfl
  clear hn ha hb hz ht1 ht2 ht4 F1 F2 F4
  go_enter Tryz.func185, Tryz.ntmps185
  go_wp2_with (first
    | (go_at_call 208;(with_reducible refine (CA.out _).mono ?_);rintro e w1 ⟨v,rfl,⟨B,rfl,hB⟩,g1⟩;rw [HV.out B];unfold fnV;clear hB)
    | (go_at_call 229;(with_reducible refine (CD.out B _).mono ?_);rintro e w2 ⟨⟨y,rfl,-⟩,g2⟩;rw [HZ.out];have HG2:=Lib.hid ((g1.alloc _).trans g2);have k0:=cell_box _ _ 0 g2 rfl;have k1:=cell_box _ _ 1 g2 rfl;have k2:=cell_box _ _ 2 g2 rfl;simp only [List.getElem?_toArray,List.getElem?_cons_zero,List.getElem?_cons_succ] at k0 k1 k2))
  exact bodyPost_ret (v:=.tuple #[.bool false,.int .i64 0]) (by simp [results,Tryz.results185,go_sem]) rfl ⟨by rw [HB.out],HG2.out⟩
 ·have hb0:0<b:=by
   have:=hb.1
   have:b≠0:=fun e=>by rw [show Wd.op 4 n a b=if b=0 then none else some (a / b) from rfl,if_pos e] at hz;cases hz
   omega
  have CL:Hid (∀ w1,Calls Tryz.prog 230 #[.int .i64 n,.int .u32 a,.int .u32 b] w1 fun e w'=>e=.returned (.bool (decide (a % b≠0)))∧Gr w1 w'):=fun w1=>(op8_any n a b w1 (words hn ha) ⟨hb0,(words hn hb).2⟩).mono fun _ _ h=>⟨h.1,h.2 ▸ Gr.refl _⟩
  have HB:Hid (Wd.broken 4 fl n a b=(t4 && decide (a % b≠0))):=by show _=_;unfold Wd.broken;rw [hz,← ht4];rfl
  obtain ⟨L,hL⟩:∃ L,decide (a % b≠0)=L:=⟨_,rfl⟩
  rw [hL] at CL HB
  clear hL
  clear hn ha hb hz ht1 ht2 ht4
  cases t4
  ·go_enter Tryz.func185, Tryz.ntmps185
   go_wp2_with (first
     | (go_at_call 208;(with_reducible refine (CA.out _).mono ?_);rintro e w1 ⟨v,rfl,⟨B,rfl,hB⟩,g1⟩;rw [HV.out B];unfold fnV;clear hB)
     | (go_at_call 229;(with_reducible refine (CD.out B _).mono ?_);rintro e w2 ⟨⟨y,rfl,-⟩,g2⟩;rw [HZ.out];have HG2:=Lib.hid ((g1.alloc _).trans g2);have k0:=cell_box _ _ 0 g2 rfl;have k1:=cell_box _ _ 1 g2 rfl;have k2:=cell_box _ _ 2 g2 rfl;simp only [List.getElem?_toArray,List.getElem?_cons_zero,List.getElem?_cons_succ] at k0 k1 k2))
   exact bodyPost_ret (v:=.tuple #[.bool false,.int .i64 0]) (by simp [results,Tryz.results185,go_sem]) rfl ⟨by rw [HB.out];rfl,HG2.out⟩
  ·cases L
   all_goals
    go_enter Tryz.func185, Tryz.ntmps185
    go_wp2_with (first
      | (go_at_call 208;(with_reducible refine (CA.out _).mono ?_);rintro e w1 ⟨v,rfl,⟨B,rfl,hB⟩,g1⟩;rw [HV.out B];unfold fnV;clear hB)
      | (go_at_call 229;(with_reducible refine (CD.out B _).mono ?_);rintro e w2 ⟨⟨y,rfl,-⟩,g2⟩;rw [HZ.out];have HG2:=Lib.hid ((g1.alloc _).trans g2);have k0:=cell_box _ _ 0 g2 rfl;have k1:=cell_box _ _ 1 g2 rfl;have k2:=cell_box _ _ 2 g2 rfl;simp only [List.getElem?_toArray,List.getElem?_cons_zero,List.getElem?_cons_succ] at k0 k1 k2)
      | (go_at_call 230;(with_reducible refine (CL.out _).mono ?_);rintro e w3 ⟨rfl,g3⟩;have HG3:=Lib.hid (HG2.out.trans g3);have l1:=cell_box _ _ 1 (g2.trans g3) rfl;simp only [List.getElem?_toArray,List.getElem?_cons_zero,List.getElem?_cons_succ] at l1))
   ·exact bodyPost_ret (v:=.tuple #[.bool false,.int .i64 0]) (by simp [results,Tryz.results185,go_sem]) rfl ⟨by rw [HB.out];rfl,HG3.out⟩
   ·exact bodyPost_ret (v:=.tuple #[.bool true,.int .i64 0]) (by simp [results,Tryz.results185,go_sem]) rfl ⟨by rw [HB.out];rfl,HG3.out⟩
set_option maxRecDepth 100000 in
set_option maxHeartbeats 8000000 in
theorem brk5 (fl n a b:Int) (w:World) (hf:0≤fl∧fl≤7) (hn:Wd.Wid n) (ha:Wd.Word n a) (hb:Wd.Word n b):Calls Tryz.prog 185 #[.int .i64 5,.int .i64 fl,.int .i64 n,.int .u32 a,.int .u32 b] w fun e w'=>e=.returned (.tuple #[.bool (Wd.broken 5 fl n a b),.int .i64 0])∧Gr w w':=by
 have CA:=Lib.hid fun w1=>asked_any 5 n a b w1 (by omega) hn ha hb
 have CD:=Lib.hid fun B w1=>dofn5 n a b B w1 hn ha hb
 have HV:=Lib.hid (show ∀ B,opV 5 B=.agg #[fnV 231,.nilFunc,.nilFunc] from fun B=>rfl)
 obtain ⟨F1,F2,F4⟩:=flag_bits hf
 have N1:=nil_eq
 have N2:=func_eq
 have N3:=nil_ne
 have N4:=func_ne
 obtain ⟨f1,f2⟩:=hf
 obtain ⟨t1,ht1⟩:∃ t,(fl % 2 == 1)=t:=⟨_,rfl⟩
 obtain ⟨t2,ht2⟩:∃ t,(fl / 2 % 2 == 1)=t:=⟨_,rfl⟩
 obtain ⟨t4,ht4⟩:∃ t,(fl / 4 % 2 == 1)=t:=⟨_,rfl⟩
 rw [ht1] at F1
 rw [ht2] at F2
 rw [ht4] at F4
 obtain ⟨z,hz⟩:∃ z,Wd.op 5 n a b=z:=⟨_,rfl⟩
 have HZ:=Lib.hid hz
 obtain _ | x:=z
 ·have HB:Hid (Wd.broken 5 fl n a b=false):=by show _=_;unfold Wd.broken;rw [hz];rfl
  clear hn ha hb hz ht1 ht2 ht4 F1 F2 F4
  go_enter Tryz.func185, Tryz.ntmps185
  go_wp2_with (first
    | (go_at_call 208;(with_reducible refine (CA.out _).mono ?_);rintro e w1 ⟨v,rfl,⟨B,rfl,hB⟩,g1⟩;rw [HV.out B];unfold fnV;clear hB)
    | (go_at_call 231;(with_reducible refine (CD.out B _).mono ?_);rintro e w2 ⟨⟨y,rfl,-⟩,g2⟩;rw [HZ.out];have HG2:=Lib.hid ((g1.alloc _).trans g2);have k0:=cell_box _ _ 0 g2 rfl;have k1:=cell_box _ _ 1 g2 rfl;have k2:=cell_box _ _ 2 g2 rfl;simp only [List.getElem?_toArray,List.getElem?_cons_zero,List.getElem?_cons_succ] at k0 k1 k2))
  exact bodyPost_ret (v:=.tuple #[.bool false,.int .i64 0]) (by simp [results,Tryz.results185,go_sem]) rfl ⟨by rw [HB.out],HG2.out⟩
 ·have HB:Hid (Wd.broken 5 fl n a b=false):=by show _=_;unfold Wd.broken;rw [hz];first | rfl | (rw [← hz];rfl)
  clear hn ha hb hz ht1 ht2 ht4
  cases t4
  all_goals
   go_enter Tryz.func185, Tryz.ntmps185
   go_wp2_with (first
     | (go_at_call 208;(with_reducible refine (CA.out _).mono ?_);rintro e w1 ⟨v,rfl,⟨B,rfl,hB⟩,g1⟩;rw [HV.out B];unfold fnV;clear hB)
     | (go_at_call 231;(with_reducible refine (CD.out B _).mono ?_);rintro e w2 ⟨⟨y,rfl,-⟩,g2⟩;rw [HZ.out];have HG2:=Lib.hid ((g1.alloc _).trans g2);have k0:=cell_box _ _ 0 g2 rfl;have k1:=cell_box _ _ 1 g2 rfl;have k2:=cell_box _ _ 2 g2 rfl;simp only [List.getElem?_toArray,List.getElem?_cons_zero,List.getElem?_cons_succ] at k0 k1 k2))
   exact bodyPost_ret (v:=.tuple #[.bool false,.int .i64 0]) (by simp [results,Tryz.results185,go_sem]) rfl ⟨by rw [HB.out],HG2.out⟩
set_option maxRecDepth 100000 in
set_option maxHeartbeats 8000000 in
theorem brk6 (fl n a b:Int) (w:World) (hf:0≤fl∧fl≤7) (hn:Wd.Wid n) (ha:Wd.Word n a) (hb:Wd.Word n b):Calls Tryz.prog 185 #[.int .i64 6,.int .i64 fl,.int .i64 n,.int .u32 a,.int .u32 b] w fun e w'=>e=.returned (.tuple #[.bool (Wd.broken 6 fl n a b),.int .i64 0])∧Gr w w':=by
 have CA:=Lib.hid fun w1=>asked_any 6 n a b w1 (by omega) hn ha hb
 have CD:=Lib.hid fun B w1=>dofn6 n a b B w1 hn ha hb
 have HV:=Lib.hid (show ∀ B,opV 6 B=.agg #[fnV 232,.nilFunc,fnV 234] from fun B=>rfl)
 obtain ⟨F1,F2,F4⟩:=flag_bits hf
 have N1:=nil_eq
 have N2:=func_eq
 have N3:=nil_ne
 have N4:=func_ne
 obtain ⟨f1,f2⟩:=hf
 obtain ⟨t1,ht1⟩:∃ t,(fl % 2 == 1)=t:=⟨_,rfl⟩
 obtain ⟨t2,ht2⟩:∃ t,(fl / 2 % 2 == 1)=t:=⟨_,rfl⟩
 obtain ⟨t4,ht4⟩:∃ t,(fl / 4 % 2 == 1)=t:=⟨_,rfl⟩
 rw [ht1] at F1
 rw [ht2] at F2
 rw [ht4] at F4
 obtain ⟨z,hz⟩:∃ z,Wd.op 6 n a b=z:=⟨_,rfl⟩
 have HZ:=Lib.hid hz
 obtain _ | x:=z
 ·have HB:Hid (Wd.broken 6 fl n a b=false):=by show _=_;unfold Wd.broken;rw [hz];rfl
  clear hn ha hb hz ht1 ht2 ht4 F1 F2 F4
  go_enter Tryz.func185, Tryz.ntmps185
  go_wp2_with (first
    | (go_at_call 208;(with_reducible refine (CA.out _).mono ?_);rintro e w1 ⟨v,rfl,⟨B,rfl,hB⟩,g1⟩;rw [HV.out B];unfold fnV;clear hB)
    | (go_at_call 232;(with_reducible refine (CD.out B _).mono ?_);rintro e w2 ⟨⟨y,rfl,-⟩,g2⟩;rw [HZ.out];have HG2:=Lib.hid ((g1.alloc _).trans g2);have k0:=cell_box _ _ 0 g2 rfl;have k1:=cell_box _ _ 1 g2 rfl;have k2:=cell_box _ _ 2 g2 rfl;simp only [List.getElem?_toArray,List.getElem?_cons_zero,List.getElem?_cons_succ] at k0 k1 k2))
  exact bodyPost_ret (v:=.tuple #[.bool false,.int .i64 0]) (by simp [results,Tryz.results185,go_sem]) rfl ⟨by rw [HB.out],HG2.out⟩
 ·have hq:¬ noQ n a b:=fun e=>by rw [show Wd.op 6 n a b=if b=0∨(Wd.sg n a=-Wd.sz (n-1)∧Wd.sg n b=-1) then none else some ((Wd.sg n a).tdiv (Wd.sg n b) % Wd.sz n) from rfl,if_pos (show b=0∨_ from e)] at hz;cases hz
  have CL:Hid (∀ w1,Calls Tryz.prog 234 #[.int .i64 n,.int .u32 a,.int .u32 b] w1 fun e w'=>e=.returned (.bool (decide ((Wd.sg n a).tmod (Wd.sg n b)≠0)))∧Gr w1 w'):=fun w1=>op11_any n a b w1 hn ha hb hq
  have HB:Hid (Wd.broken 6 fl n a b=(t4 && decide ((Wd.sg n a).tmod (Wd.sg n b)≠0))):=by show _=_;unfold Wd.broken;rw [hz,← ht4];rfl
  obtain ⟨L,hL⟩:∃ L,decide ((Wd.sg n a).tmod (Wd.sg n b)≠0)=L:=⟨_,rfl⟩
  rw [hL] at CL HB
  clear hL
  clear hn ha hb hz ht1 ht2 ht4
  cases t4
  ·go_enter Tryz.func185, Tryz.ntmps185
   go_wp2_with (first
     | (go_at_call 208;(with_reducible refine (CA.out _).mono ?_);rintro e w1 ⟨v,rfl,⟨B,rfl,hB⟩,g1⟩;rw [HV.out B];unfold fnV;clear hB)
     | (go_at_call 232;(with_reducible refine (CD.out B _).mono ?_);rintro e w2 ⟨⟨y,rfl,-⟩,g2⟩;rw [HZ.out];have HG2:=Lib.hid ((g1.alloc _).trans g2);have k0:=cell_box _ _ 0 g2 rfl;have k1:=cell_box _ _ 1 g2 rfl;have k2:=cell_box _ _ 2 g2 rfl;simp only [List.getElem?_toArray,List.getElem?_cons_zero,List.getElem?_cons_succ] at k0 k1 k2))
   exact bodyPost_ret (v:=.tuple #[.bool false,.int .i64 0]) (by simp [results,Tryz.results185,go_sem]) rfl ⟨by rw [HB.out];rfl,HG2.out⟩
  ·cases L
   all_goals
    go_enter Tryz.func185, Tryz.ntmps185
    go_wp2_with (first
      | (go_at_call 208;(with_reducible refine (CA.out _).mono ?_);rintro e w1 ⟨v,rfl,⟨B,rfl,hB⟩,g1⟩;rw [HV.out B];unfold fnV;clear hB)
      | (go_at_call 232;(with_reducible refine (CD.out B _).mono ?_);rintro e w2 ⟨⟨y,rfl,-⟩,g2⟩;rw [HZ.out];have HG2:=Lib.hid ((g1.alloc _).trans g2);have k0:=cell_box _ _ 0 g2 rfl;have k1:=cell_box _ _ 1 g2 rfl;have k2:=cell_box _ _ 2 g2 rfl;simp only [List.getElem?_toArray,List.getElem?_cons_zero,List.getElem?_cons_succ] at k0 k1 k2)
      | (go_at_call 234;(with_reducible refine (CL.out _).mono ?_);rintro e w3 ⟨rfl,g3⟩;have HG3:=Lib.hid (HG2.out.trans g3);have l1:=cell_box _ _ 1 (g2.trans g3) rfl;simp only [List.getElem?_toArray,List.getElem?_cons_zero,List.getElem?_cons_succ] at l1))
   ·exact bodyPost_ret (v:=.tuple #[.bool false,.int .i64 0]) (by simp [results,Tryz.results185,go_sem]) rfl ⟨by rw [HB.out];rfl,HG3.out⟩
   ·exact bodyPost_ret (v:=.tuple #[.bool true,.int .i64 0]) (by simp [results,Tryz.results185,go_sem]) rfl ⟨by rw [HB.out];rfl,HG3.out⟩
set_option maxRecDepth 100000 in
set_option maxHeartbeats 8000000 in
theorem brk7 (fl n a b:Int) (w:World) (hf:0≤fl∧fl≤7) (hn:Wd.Wid n) (ha:Wd.Word n a) (hb:Wd.Word n b):Calls Tryz.prog 185 #[.int .i64 7,.int .i64 fl,.int .i64 n,.int .u32 a,.int .u32 b] w fun e w'=>e=.returned (.tuple #[.bool (Wd.broken 7 fl n a b),.int .i64 0])∧Gr w w':=by
 have CA:=Lib.hid fun w1=>asked_any 7 n a b w1 (by omega) hn ha hb
 have CD:=Lib.hid fun B w1=>dofn7 n a b B w1 hn ha hb
 have HV:=Lib.hid (show ∀ B,opV 7 B=.agg #[fnV 235,.nilFunc,.nilFunc] from fun B=>rfl)
 obtain ⟨F1,F2,F4⟩:=flag_bits hf
 have N1:=nil_eq
 have N2:=func_eq
 have N3:=nil_ne
 have N4:=func_ne
 obtain ⟨f1,f2⟩:=hf
 obtain ⟨t1,ht1⟩:∃ t,(fl % 2 == 1)=t:=⟨_,rfl⟩
 obtain ⟨t2,ht2⟩:∃ t,(fl / 2 % 2 == 1)=t:=⟨_,rfl⟩
 obtain ⟨t4,ht4⟩:∃ t,(fl / 4 % 2 == 1)=t:=⟨_,rfl⟩
 rw [ht1] at F1
 rw [ht2] at F2
 rw [ht4] at F4
 obtain ⟨z,hz⟩:∃ z,Wd.op 7 n a b=z:=⟨_,rfl⟩
 have HZ:=Lib.hid hz
 obtain _ | x:=z
 ·have HB:Hid (Wd.broken 7 fl n a b=false):=by show _=_;unfold Wd.broken;rw [hz];rfl
  clear hn ha hb hz ht1 ht2 ht4 F1 F2 F4
  go_enter Tryz.func185, Tryz.ntmps185
  go_wp2_with (first
    | (go_at_call 208;(with_reducible refine (CA.out _).mono ?_);rintro e w1 ⟨v,rfl,⟨B,rfl,hB⟩,g1⟩;rw [HV.out B];unfold fnV;clear hB)
    | (go_at_call 235;(with_reducible refine (CD.out B _).mono ?_);rintro e w2 ⟨⟨y,rfl,-⟩,g2⟩;rw [HZ.out];have HG2:=Lib.hid ((g1.alloc _).trans g2);have k0:=cell_box _ _ 0 g2 rfl;have k1:=cell_box _ _ 1 g2 rfl;have k2:=cell_box _ _ 2 g2 rfl;simp only [List.getElem?_toArray,List.getElem?_cons_zero,List.getElem?_cons_succ] at k0 k1 k2))
  exact bodyPost_ret (v:=.tuple #[.bool false,.int .i64 0]) (by simp [results,Tryz.results185,go_sem]) rfl ⟨by rw [HB.out],HG2.out⟩
 ·have HB:Hid (Wd.broken 7 fl n a b=false):=by show _=_;unfold Wd.broken;rw [hz];first | rfl | (rw [← hz];rfl)
  clear hn ha hb hz ht1 ht2 ht4
  cases t4
  all_goals
   go_enter Tryz.func185, Tryz.ntmps185
   go_wp2_with (first
     | (go_at_call 208;(with_reducible refine (CA.out _).mono ?_);rintro e w1 ⟨v,rfl,⟨B,rfl,hB⟩,g1⟩;rw [HV.out B];unfold fnV;clear hB)
     | (go_at_call 235;(with_reducible refine (CD.out B _).mono ?_);rintro e w2 ⟨⟨y,rfl,-⟩,g2⟩;rw [HZ.out];have HG2:=Lib.hid ((g1.alloc _).trans g2);have k0:=cell_box _ _ 0 g2 rfl;have k1:=cell_box _ _ 1 g2 rfl;have k2:=cell_box _ _ 2 g2 rfl;simp only [List.getElem?_toArray,List.getElem?_cons_zero,List.getElem?_cons_succ] at k0 k1 k2))
   exact bodyPost_ret (v:=.tuple #[.bool false,.int .i64 0]) (by simp [results,Tryz.results185,go_sem]) rfl ⟨by rw [HB.out],HG2.out⟩
end Ops
end Go.Proofs.YthfhamagopbgcaaGreat

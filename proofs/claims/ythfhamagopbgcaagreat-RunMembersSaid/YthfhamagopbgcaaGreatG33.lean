/- Parts: Is It Qg. -/
import Derived.Test.YthfhamagopbgcaaGreatG32
import Derived.Shelf.RegionOpenPlain
import Derived.Laws.CopyRow
import Derived.Lib.AppendZeros
import Derived.Lib.Overlaps
import Derived.Laws.Externs
import Derived.Shelf.Spec.SlicesInsertGrow
import Derived.Test.YthfhamagopbgcaaGreatG18
import Derived.BigQuiet
namespace Go.Proofs.YthfhamagopbgcaaGreat
set_option linter.unusedSimpArgs false
set_option linter.unusedVariables false
open Go.RowKit

/-- copy of n elements of so many cells into a row. -/
theorem run_copy_rowN {P:Program} (w:World) (dT sT ty elem:TypeId) (g o dLen dCap:Nat) (a:Addr) (sLen sCap size:Nat) (cur:Array Value) (t:TypeId) (cs:List Value)
  (hu:P.underlying dT=some (.slice elem)) (hs:(P.info? elem).map (·.size)=some size)
  (hg:w.heap[g]?=some (.cells cur t (0,0))) (hn:cs.length=Nat.min sLen dLen * size)
  (hsrc:∀ j v,cs[j]?=some v→w.cell? (a.add j)=some v) (hfit:o+cs.length≤cur.size) (h1:∀ v ∈ cs,v.oneCell'=true) :
  (Builtin.copy_ #[dT,sT] ty #[.slice (some ⟨g,o,none⟩) dLen dCap,.slice (some a) sLen sCap]).run P w =
   .ok (goInt (Nat.min sLen dLen)) (w.setRow g (cur.toList.take o++cs++cur.toList.drop (o+cs.length)).toArray):=by
 have hl:=run_loadCells_list (P:=P) w a cs hsrc
 have hst:=run_storeCells_at P g o t cs 0 cur w hg (by simpa using hfit) h1
 cases hq:P.info? elem with
 | none=>simp [hq] at hs
 | some i =>
  have hi:i.size=size:=by simpa [hq] using hs
  rw [hn] at hl
  simp [Builtin.copy_,run_underlying hu,Builtin.lenOf,Builtin.firstCells,sizeOf,typeInfo,hq,hi,hl,hst]
theorem info_out:(Tryz.prog.info? 39).map (fun i=>(i.zero,i.size,i.bytes))=some (some (.agg #[.int .i64 0,.bool false,.int .i64 0,.int .u32 0,.slice none 0 0]),5,56):=by kernel_rfl
set_option maxRecDepth 100000 in
set_option maxHeartbeats 4000000 in
/-- At the end. -/
theorem ins_end {B vb n:Nat} {v:Value} {xs ys:List Value} {w:World} (h:w.ownsRow B 39 5 v n xs) (hB:B≤w.heap.size) (hn:n≤1000) (hy:ys.length=5) (hyc:∀ j u,ys[j]?=some u→w.cell? ⟨vb,j,none⟩=some u) (h1:∀ y ∈ ys,y.oneCell'=true) :
  Calls Tryz.prog 51 #[v,.int .i64 n,.slice (some ⟨vb,0,none⟩) 1 1] w fun e w'=>∃ A c,e=.returned (.slice A (n+1) c)∧w'.ownsRow B 39 5 (.slice A (n+1) c) (n+1) (xs++ys)∧w.grownBy w' v.ownBlock∧∀ k,(Value.slice A (n+1) c).ownBlock=some k→v.ownBlock=some k∨w.heap.size≤k:=by
 obtain ⟨iu,hiu,hu0,hu1,hu2⟩:=info_parts info_out
 obtain ⟨A,c,rfl,hc,-,hA⟩:=own_form h
 have hsrc:Src w (.slice (some ⟨vb,0,none⟩) 1 1) 5 1 ys:=⟨_,_,rfl,by omega,fun _=>⟨_,rfl,fun j x hx=>by rw [addr_add,Nat.zero_add];exact hyc j x hx⟩⟩
 have hcm:c≤9223372036854775807:=by
  rcases h.2 with ⟨e,-⟩ | ⟨g,cap,cur,e,-,-,-,h2,-⟩
  ·injection e with _ _ e;omega
  ·injection e with _ _ e;unfold maxLen at h2;omega
 have HO:=Lib.hid h
 have HS:=Lib.hid hsrc
 have H1:=Lib.hid h1
 clear h hsrc hyc hA h1 hy
 cases A with
 | none =>
  obtain rfl:n=0:=by
   rcases HO.out.2 with ⟨-,e⟩ | ⟨g,cap,cur,e,-⟩
   ·exact e
   ·cases e
  go_enter Tryz.func51, Tryz.ntmps51
  go_wp2_with (at_builtin;refine wpList_append_src rfl (.tmp 23) (.tmp 24) 45 rfl B 39 iu _ 5 56 Tryz.underlying45 hiu hu0 hu1 hu2 rfl (by decide) _ 0 _ rfl HO.out _ 1 ys rfl HS.out H1.out (by unfold maxLen;omega) (by omega) hB ?_;intro v' w' ho' hg' hat';obtain ⟨A',c',rfl,hc',-,hA'⟩:=own_form ho')
  go_ret
  exact ⟨A',c',rfl,ho',hg',fun k hk=>hat'.elim (fun q=>.inl (q ▸ hk)) (fun q=>.inr (by rw [q] at hk;injection hk with hk;omega))⟩
 | some a =>
  obtain ⟨ab,ao,asp⟩:=a
  go_enter Tryz.func51, Tryz.ntmps51
  go_wp2_with (at_builtin;refine wpList_append_src rfl (.tmp 23) (.tmp 24) 45 rfl B 39 iu _ 5 56 Tryz.underlying45 hiu hu0 hu1 hu2 rfl (by decide) _ n _ rfl HO.out _ 1 ys rfl HS.out H1.out (by unfold maxLen;omega) (by omega) hB ?_;intro v' w' ho' hg' hat';obtain ⟨A',c',rfl,hc',-,hA'⟩:=own_form ho')
  all_goals go_ret
  all_goals exact ⟨A',c',rfl,ho',hg',fun k hk=>hat'.elim (fun q=>.inl (q ▸ hk)) (fun q=>.inr (by rw [q] at hk;injection hk with hk;omega))⟩
theorem heap_setRow {w:World} {g:Nat} {cur row:Array Value} {t:TypeId} {fr:Nat × Nat} (h:w.heap[g]?=some (.cells cur t fr)):(w.setRow g row).heap[g]?=some (.cells row t fr):=setRow_heap w g cur row t fr h
theorem setRow_far {w:World} {g k:Nat} {row:Array Value} (h:k≠g):(w.setRow g row).heap[k]?=w.heap[k]?:=by
 unfold World.setRow
 simp [Array.getElem?_modify,Ne.symm h]
theorem setRow_size (w:World) (g:Nat) (row:Array Value):(w.setRow g row).heap.size=w.heap.size:=by
 unfold World.setRow;simp
theorem FrS.setRow {S:Nat→Prop} {w a:World} (h:FrS S w a) {g:Nat} (hg:S g) (row:Array Value):FrS S w (a.setRow g row) :=
 ⟨h.os,h.tape,h.output,by rw [setRow_size];exact h.size,fun k hk hn=>(setRow_far (fun e=>hn (by rw [e];exact hg))).trans (h.block k hk hn)⟩
/-- cs in the place of what stood from o on. -/
def splice (L:List Value) (o:Nat) (cs:List Value):List Value:=L.take o++cs++L.drop (o+cs.length)
theorem splice_len {L cs:List Value} {o:Nat} (h:o+cs.length≤L.length):(splice L o cs).length=L.length:=by unfold splice;simp;omega
/-- What is inserted, the rest first. -/
theorem splice_shift {L xs ys:List Value} {n i:Nat} (hL:L.take (n * 5)=xs) (hx:xs.length=n * 5) (hi:i≤n) (hy:ys.length=5) (hLn:(n+1) * 5≤L.length) :
  (splice (splice L ((i+1) * 5) (xs.drop (i * 5))) (i * 5) ys).take ((n+1) * 5)=xs.take (i * 5)++ys++xs.drop (i * 5):=by
 have hd:(xs.drop (i * 5)).length=(n-i) * 5:=by rw [List.length_drop,hx];omega
 have e1:(L.take ((i+1) * 5)).length=(i+1) * 5:=by rw [List.length_take];omega
 have h1:(splice L ((i+1) * 5) (xs.drop (i * 5))).take (i * 5)=xs.take (i * 5):=by
  unfold splice
  rw [List.append_assoc,List.take_append_of_le_length (by omega),List.take_take,← hL,List.take_take]
  congr 1;omega
 have h2:(splice L ((i+1) * 5) (xs.drop (i * 5))).drop (i * 5+5)=xs.drop (i * 5)++L.drop ((i+1) * 5+(xs.drop (i * 5)).length):=by
  unfold splice
  rw [List.append_assoc,List.drop_append_of_le_length (by omega),show i * 5+5=(i+1) * 5 by omega]
  rw [List.drop_eq_nil_of_le (by omega)];rfl
 have e3:(xs.take (i * 5)).length=i * 5:=by rw [List.length_take];omega
 show ((splice L ((i+1) * 5) (xs.drop (i * 5))).take (i * 5)++ys++(splice L ((i+1) * 5) (xs.drop (i * 5))).drop (i * 5+ys.length)).take ((n+1) * 5)=_
 rw [hy,h1,h2,← List.append_assoc,List.take_append_of_le_length (by simp;omega)]
 exact List.take_of_length_le (by simp;omega)
/-- What is inserted into a new row, itself first. -/
theorem splice_grow {L xs ys:List Value} {n i:Nat} (hL:L.take (i * 5)=xs.take (i * 5)) (hx:xs.length=n * 5) (hi:i≤n) (hy:ys.length=5) (hLn:(n+1) * 5≤L.length) :
  (splice (splice L (i * 5) ys) ((i+1) * 5) (xs.drop (i * 5))).take ((n+1) * 5)=xs.take (i * 5)++ys++xs.drop (i * 5):=by
 have hd:(xs.drop (i * 5)).length=(n-i) * 5:=by rw [List.length_drop,hx];omega
 have e1:(L.take (i * 5)).length=i * 5:=by rw [List.length_take];omega
 have h1:(splice L (i * 5) ys).take ((i+1) * 5)=xs.take (i * 5)++ys:=by
  unfold splice
  rw [List.take_append_of_le_length (by simp;omega),hL]
  exact List.take_of_length_le (by rw [← hL];simp;omega)
 have e3:(xs.take (i * 5)).length=i * 5:=by rw [List.length_take];omega
 show ((splice L (i * 5) ys).take ((i+1) * 5)++xs.drop (i * 5)++(splice L (i * 5) ys).drop ((i+1) * 5+(xs.drop (i * 5)).length)).take ((n+1) * 5)=_
 rw [h1,List.take_append_of_le_length (by simp;omega)]
 exact List.take_of_length_le (by simp;omega)
end Go.Proofs.YthfhamagopbgcaaGreat
namespace Go.Proofs.YthfhamagopbgcaaGreat
set_option linter.unusedSimpArgs false
set_option linter.unusedVariables false
open Go.RowKit

theorem FrS.weak {S S':Nat→Prop} {w w':World} (h:FrS S w w') (hs:∀ k,k<w.heap.size→S k→S' k):FrS S' w w':=⟨h.os,h.tape,h.output,h.size,fun k hk hn=>h.block k hk fun q=>hn (hs k hk q)⟩
set_option maxRecDepth 100000 in
set_option maxHeartbeats 4000000 in
/-- In the middle, where there is no room. -/
theorem ins_grow {B vb n i b:Nat} {xs ys:List Value} {w:World} (h:w.ownsRow B 39 5 (.slice (some ⟨b,0,none⟩) n n) n xs) (hB:B≤w.heap.size) (hn:n≤1000) (hi:i<n) (hy:ys.length=5) (hyc:∀ j u,ys[j]?=some u→w.cell? ⟨vb,j,none⟩=some u) (h1:∀ y ∈ ys,y.oneCell'=true) (hx1:∀ y ∈ xs,y.oneCell'=true) :
  Calls Tryz.prog 51 #[.slice (some ⟨b,0,none⟩) n n,.int .i64 i,.slice (some ⟨vb,0,none⟩) 1 1] w fun e w'=>∃ A c,e=.returned (.slice A (n+1) c)∧w'.ownsRow B 39 5 (.slice A (n+1) c) (n+1) (xs.take (i * 5)++ys++xs.drop (i * 5))∧FrS (fun _=>False) w w'∧∀ k,(Value.slice A (n+1) c).ownBlock=some k→w.heap.size≤k:=by
 obtain ⟨iu,hiu,hu0,hu1,hu2⟩:=info_parts info_out
 have hxl:xs.length=n * 5:=h.1
 have hcs:∀ j v,xs[j]?=some v→w.cell? ⟨b,j,none⟩=some v:=fun j v hj=>by
  have hjl:=(List.getElem?_eq_some_iff.1 hj).1
  rw [← hj]
  obtain ⟨b',e,-,-,hc⟩:=own_cells h rfl (by omega)
  injection e with e
  injection e with e _ _
  subst e
  exact hc j (by omega)
 have hbw:b<w.heap.size:=(own_block_lt h b rfl).2
 have hvw:vb<w.heap.size:=World.block_lt_of_cell? w ⟨vb,0,none⟩ (hyc 0 ys[0] (List.getElem?_eq_getElem (by omega)))
 have hold:(Builtin.firstCells iu.size i (.slice (some ⟨b,0,none⟩) i n)).run Tryz.prog w.drew=.ok (xs.take (i * 5)).toArray w.drew:=by
  rw [hu1]
  exact run_firstCells_some w.drew 5 i ⟨b,0,none⟩ i n (xs.take (i * 5)) (by rw [List.length_take];omega) (fun j v hj=>by
    rw [addr_add,Nat.zero_add]
    rw [List.getElem?_take] at hj
    split at hj
    · exact hcs j v hj
    · cases hj)
 have hik:i+(n+1-i)=n+1:=by omega
 have hkk:(n:Int)+1-(i:Int)=((n+1-i:Nat):Int):=by omega
 obtain ⟨G,hG⟩:∃ G,grownCap w (n+1) n 39=G:=⟨_,rfl⟩
 obtain ⟨ROW,hROW⟩:∃ ROW:Array Value,(xs.take (i * 5)).toArray++Builtin.zeroCells #[.int .i64 0,.bool false,.int .i64 0,.int .u32 0,.slice none 0 0] (n+1-i)++Builtin.zeroCells #[.int .i64 0,.bool false,.int .i64 0,.int .u32 0,.slice none 0 0] (G-(n+1))=ROW:=⟨_,rfl⟩
 obtain ⟨W1,hW1⟩:∃ W1,w.drew.alloc (.cells ROW 39)=W1:=⟨_,rfl⟩
 have hrz:∀ ty,(Builtin.append_ #[45,3] ty #[.slice (some ⟨b,0,none⟩) i n,.int .i64 ((n:Int)+1-(i:Int))]).run Tryz.prog w=.ok (.slice (some ⟨w.heap.size,0,none⟩) (n+1) G) W1:=fun ty=>by
  have:=Lib.run_append_grow_zeros (P:=Tryz.prog) w 45 3 ty 39 iu _ .i64 .i64 Tryz.underlying45 Tryz.underlying3 hiu hu0 (some ⟨b,0,none⟩) i n (xs.take (i * 5)) hold (n+1-i) (by omega) (by omega) (by omega) (by omega) (by rw [hu2];omega) (by rw [hu2,hik];exact growslice_fits (by omega) (by omega))
  rw [hik,hG] at this
  rw [hkk,← hW1,← hROW]
  exact this
 have hGn:n+1≤G:=by rw [← hG];exact grownCap_ge w _ _ _
 have hGm:G≤9223372036854775807:=by
  have:=grownCap_le_maxLen w (n+1) n 39 (by unfold maxLen;omega)
  rw [hG] at this
  unfold maxLen at this
  omega
 have hRs:ROW.size=G * 5:=by
  rw [← hROW]
  simp [Builtin.zeroCells]
  rw [Nat.min_eq_left (by omega)]
  omega
 have hN1:W1.heap[w.heap.size]?=some (.cells ROW 39 (0,0)):=by rw [← hW1];exact heap_alloc_new w.drew _
 have g1:Gr w W1:=by rw [← hW1];exact ((Gr.refl w).drew).alloc _
 have hRt:ROW.toList.take (i * 5)=xs.take (i * 5):=by
  rw [← hROW]
  rw [Array.toList_append,Array.toList_append,List.append_assoc]
  rw [List.take_append_of_le_length (by simp;omega)]
  exact List.take_of_length_le (by simp;omega)
 have hsz:((Tryz.prog).info? 39).map (·.size)=some 5:=by rw [hiu];simp [hu1]
 have m1:Nat.min 1 (n+1-i)=1:=by show min _ _=_;omega
 have m2:Nat.min (n-i) (n-i)=n-i:=Nat.min_self _
 obtain ⟨W2,hW2⟩:∃ W2,W1.setRow w.heap.size (splice ROW.toList (i * 5) ys).toArray=W2:=⟨_,rfl⟩
 have hN2:W2.heap[w.heap.size]?=some (.cells (splice ROW.toList (i * 5) ys).toArray 39 (0,0)):=by rw [← hW2];exact heap_setRow hN1
 have hF2:FrS (fun k=>k=w.heap.size) W1 W2:=by rw [← hW2];exact (FrS.refl (fun k=>k=w.heap.size) W1).setRow rfl _
 have hcpA:∀ ty dc,(Builtin.copy_ #[45,45] ty #[.slice (some ⟨w.heap.size,i * 5,none⟩) (n+1-i) dc,.slice (some ⟨vb,0,none⟩) 1 1]).run Tryz.prog W1=.ok (goInt 1) W2:=fun ty dc=>by
  have:=run_copy_rowN (P:=Tryz.prog) W1 45 45 ty 39 w.heap.size (i * 5) (n+1-i) dc ⟨vb,0,none⟩ 1 1 5 ROW 39 ys Tryz.underlying45 hsz hN1 (by rw [hy,m1]) (fun j v hj=>by rw [addr_add,Nat.zero_add,g1.cell _ _ hvw];exact hyc j v hj) (by rw [hy,hRs];omega) h1
  rw [this,← hW2,m1];rfl
 obtain ⟨W3,hW3⟩:∃ W3,W2.drew.setRow w.heap.size (splice (splice ROW.toList (i * 5) ys) ((i+1) * 5) (xs.drop (i * 5))).toArray=W3:=⟨_,rfl⟩
 have hsl:(splice ROW.toList (i * 5) ys).length=G * 5:=by rw [splice_len (by rw [hy];simp;omega)];simp [hRs]
 have hN3:W3.heap[w.heap.size]?=some (.cells (splice (splice ROW.toList (i * 5) ys) ((i+1) * 5) (xs.drop (i * 5))).toArray 39 (0,0)):=by rw [← hW3];exact heap_setRow (w:=W2.drew) hN2
 have hF3:FrS (fun k=>k=w.heap.size) W2 W3:=by rw [← hW3];exact (FrS.refl (fun k=>k=w.heap.size) W2).drew.setRow rfl _
 have hdl:(xs.drop (i * 5)).length=(n-i) * 5:=by rw [List.length_drop,hxl];omega
 have hcpB:∀ ty dc sc,(Builtin.copy_ #[45,45] ty #[.slice (some ⟨w.heap.size,(i+1) * 5,none⟩) (n-i) dc,.slice (some ⟨b,i * 5,none⟩) (n-i) sc]).run Tryz.prog W2.drew=.ok (goInt (n-i:Nat)) W3:=fun ty dc sc=>by
  have:=run_copy_rowN (P:=Tryz.prog) W2.drew 45 45 ty 39 w.heap.size ((i+1) * 5) (n-i) dc ⟨b,i * 5,none⟩ (n-i) sc 5 (splice ROW.toList (i * 5) ys).toArray 39 (xs.drop (i * 5)) Tryz.underlying45 hsz hN2 (by rw [hdl,m2]) (fun j v hj=>by
    rw [addr_add]
    rw [List.getElem?_drop] at hj
    have h2:=hcs _ v hj
    rw [← h2,← g1.cell _ _ hbw]
    exact World.cell?_of_block (hF2.block b (by have:=g1.size;omega) (by omega))) (by simp [hsl,hxl];omega) (fun y hy'=>hx1 y (List.mem_of_mem_drop hy'))
  rw [this,← hW3,m2];rfl
 have HEND:Hid (W3.ownsRow B 39 5 (.slice (some ⟨w.heap.size,0,none⟩) (n+1) G) (n+1) (xs.take (i * 5)++ys++xs.drop (i * 5))∧FrS (fun _=>False) w W3):=by
  refine ⟨⟨by simp [hxl,hy];omega,.inr ⟨w.heap.size,G,_,rfl,hB,hN3,hGn,by unfold maxLen;omega,?_,?_⟩⟩,?_⟩
  ·simp only [List.size_toArray]
   rw [splice_len (by rw [hdl,hsl];omega),hsl]
  ·simp only
   exact splice_grow hRt hxl (by omega) hy (by simp [hRs];omega)
  ·have hf:=((FrS.of_gr (S:=fun k=>w.heap.size≤k) g1).trans (hF2.mono fun k hk=>by omega)).trans (hF3.mono fun k hk=>by omega)
   exact hf.weak fun k hk q=>by omega
 have hz1:¬ ((i:Int)=(n:Int)):=by omega
 have hz2:(n:Int)<(n:Int)+1:=by omega
 have hin:i≤n:=by omega
 have hb3:(i:Int)≤(n:Int):=by omega
 have hGi:¬ (G=i):=by omega
 have hGim:¬ (G=i+1):=by omega
 have hci:¬ (n=i):=by omega
 have hik1:(i:Int)+1≤(n:Int)+1:=by omega
 clear h hcs hold hkk hROW hW1 hG hRs hN1 hRt hN2 hF2 hN3 hF3 hsl hdl hW2 hW3 g1 hyc h1 hx1 hik
 go_enter Tryz.func51, Tryz.ntmps51
 go_wp2_with (first
   | (at_builtin;refine Lib.wpList_append_run _ rfl _ _ _ _ rfl _ _ rfl rfl _ _ (hrz _) ?_)
   | (at_builtin;refine wpList_copy_runI _ rfl _ _ 45 45 rfl _ _ rfl rfl (hcpA _ _) ?_))
 have mixed:(Tryz.prog).follows .mixedOrders=true:=by kernel_rfl
 have hw1:IntKind.i64.wrap ((i:Int)+1)=(i:Int)+1:=IntWalk.i64_in _ (by omega)
 have hw2:(0:Int)≤(i:Int)+1:=by omega
 have hw3:((i:Int)+1).toNat=i+1:=by omega
 go_region_law_o (refine step_copy_runI rfl (.tmp 50) (.tmp 53) 45 45 rfl (.slice (some ⟨w.heap.size,(i+1) * 5,none⟩) (n-i) (G-(i+1))) (.slice (some ⟨b,i * 5,none⟩) (n-i) (n-i)) (by simp [Act.eval,Act.put]) (by simp [Act.eval,Act.put]) (hcpB _ _ _) ?_)
 all_goals go_wp2
 all_goals go_ret
 all_goals exact ⟨_,_,rfl,HEND.out.1,HEND.out.2,fun k hk=>by simp [Value.ownBlock] at hk;omega⟩
set_option maxRecDepth 100000 in
set_option maxHeartbeats 4000000 in
/-- In the middle, where there is room. -/
theorem ins_shift {B vb n i b c:Nat} {xs ys:List Value} {w:World} (h:w.ownsRow B 39 5 (.slice (some ⟨b,0,none⟩) n c) n xs) (hB:B≤w.heap.size) (hn:n≤1000) (hi:i<n) (hc:n+1≤c) (hy:ys.length=5) {t2:TypeId} (hyb:w.heap[vb]?=some (.cells ys.toArray t2 (0,0))) (hvb:vb≠b) (h1:∀ y ∈ ys,y.oneCell'=true) (hx1:∀ y ∈ xs,y.oneCell'=true) :
  Calls Tryz.prog 51 #[.slice (some ⟨b,0,none⟩) n c,.int .i64 i,.slice (some ⟨vb,0,none⟩) 1 1] w fun e w'=>e=.returned (.slice (some ⟨b,0,none⟩) (n+1) c)∧w'.ownsRow B 39 5 (.slice (some ⟨b,0,none⟩) (n+1) c) (n+1) (xs.take (i * 5)++ys++xs.drop (i * 5))∧FrS (fun k=>k=b) w w':=by
 obtain ⟨iu,hiu,hu0,hu1,hu2⟩:=info_parts info_out
 have hxl:xs.length=n * 5:=h.1
 obtain ⟨cur,hcur,hcm,hcs,hct⟩:∃ cur:Array Value,w.heap[b]?=some (.cells cur 39 (0,0))∧c≤maxLen∧cur.size=c * 5∧cur.toList.take (n * 5)=xs:=by
  rcases h.2 with ⟨e,-⟩ | ⟨g,cap,cur,e,-,q1,-,q2,q3,q4⟩
  ·cases e
  ·injection e with e1 _ e2
   injection e1 with e1
   injection e1 with e1 _ _
   subst e1;subst e2
   exact ⟨cur,q1,q2,q3,q4⟩
 have hbB:B≤b:=(own_block_lt h b rfl).1
 have hsz:((Tryz.prog).info? 39).map (·.size)=some 5:=by rw [hiu];simp [hu1]
 have m1:Nat.min 1 (n+1-i)=1:=by show min _ _=_;omega
 have m2:Nat.min (n+1-i) (n-i)=n-i:=by show min _ _=_;omega
 have hdl:(xs.drop (i * 5)).length=(n-i) * 5:=by rw [List.length_drop,hxl];omega
 have hyc:∀ j u,ys[j]?=some u→w.cell? ⟨vb,j,none⟩=some u:=fun j u hj=>by rw [cell_of_row _ _ _ _ _ _ hyb];simpa using hj
 obtain ⟨W1,hW1⟩:∃ W1,w.drew.setRow b (splice cur.toList ((i+1) * 5) (xs.drop (i * 5))).toArray=W1:=⟨_,rfl⟩
 have hN1:W1.heap[b]?=some (.cells (splice cur.toList ((i+1) * 5) (xs.drop (i * 5))).toArray 39 (0,0)):=by rw [← hW1];exact heap_setRow (w:=w.drew) hcur
 have hF1:FrS (fun k=>k=b) w W1:=by rw [← hW1];exact (FrS.refl (fun k=>k=b) w).drew.setRow rfl _
 have hsl:(splice cur.toList ((i+1) * 5) (xs.drop (i * 5))).length=c * 5:=by rw [splice_len (by rw [hdl];simp;omega)];simp [hcs]
 have hcpB:∀ ty dc sc,(Builtin.copy_ #[45,45] ty #[.slice (some ⟨b,(i+1) * 5,none⟩) (n-i) dc,.slice (some ⟨b,i * 5,none⟩) (n+1-i) sc]).run Tryz.prog w.drew=.ok (goInt (n-i:Nat)) W1:=fun ty dc sc=>by
  have:=run_copy_rowN (P:=Tryz.prog) w.drew 45 45 ty 39 b ((i+1) * 5) (n-i) dc ⟨b,i * 5,none⟩ (n+1-i) sc 5 cur 39 (xs.drop (i * 5)) Tryz.underlying45 hsz hcur (by rw [hdl,m2]) (fun j v hj=>by
    rw [addr_add]
    rw [List.getElem?_drop,← hct,List.getElem?_take] at hj
    show w.cell? _=_
    rw [cell_of_row _ _ _ _ _ _ hcur]
    split at hj
    · simpa using hj
    · cases hj) (by rw [hdl,hcs];omega) (fun y hy'=>hx1 y (List.mem_of_mem_drop hy'))
  rw [this,← hW1,m2];rfl
 obtain ⟨W2,hW2⟩:∃ W2,W1.setRow b (splice (splice cur.toList ((i+1) * 5) (xs.drop (i * 5))) (i * 5) ys).toArray=W2:=⟨_,rfl⟩
 have hN2:W2.heap[b]?=some (.cells (splice (splice cur.toList ((i+1) * 5) (xs.drop (i * 5))) (i * 5) ys).toArray 39 (0,0)):=by rw [← hW2];exact heap_setRow hN1
 have hF2:FrS (fun k=>k=b) W1 W2:=by rw [← hW2];exact (FrS.refl (fun k=>k=b) W1).setRow rfl _
 have hcpA:∀ ty dc,(Builtin.copy_ #[45,45] ty #[.slice (some ⟨b,i * 5,none⟩) (n+1-i) dc,.slice (some ⟨vb,0,none⟩) 1 1]).run Tryz.prog W1=.ok (goInt 1) W2:=fun ty dc=>by
  have:=run_copy_rowN (P:=Tryz.prog) W1 45 45 ty 39 b (i * 5) (n+1-i) dc ⟨vb,0,none⟩ 1 1 5 _ 39 ys Tryz.underlying45 hsz hN1 (by rw [hy,m1]) (fun j v hj=>by
    rw [addr_add,Nat.zero_add,← hyc j v hj]
    exact World.cell?_of_block (hF1.block vb (lt_of_heap hyb) hvb)) (by rw [hy];simp [hsl];omega) h1
  rw [this,← hW2,m1];rfl
 have HEND:Hid (W2.ownsRow B 39 5 (.slice (some ⟨b,0,none⟩) (n+1) c) (n+1) (xs.take (i * 5)++ys++xs.drop (i * 5))∧FrS (fun k=>k=b) w W2):=by
  refine ⟨⟨by simp [hxl,hy];omega,.inr ⟨b,c,_,rfl,hbB,hN2,hc,hcm,?_,?_⟩⟩,hF1.trans hF2⟩
  ·simp only [List.size_toArray]
   rw [splice_len (by rw [hy,hsl];omega),hsl]
  ·simp only
   exact splice_shift hct hxl (by omega) hy (by simp [hcs];omega)
 have hov:∀ lb cb,(callFunc 93 #[.slice (some ⟨vb,0,none⟩) 1 1,.slice (some ⟨b,(i+1) * 5,none⟩) lb cb]).run Tryz.prog w=.ok (.value (.bool false)) w:=fun lb cb=>by
  rw [run_callFunc_extern (P:=Tryz.prog) (f:=93) rfl (by kernel_rfl) (by kernel_rfl) (by kernel_rfl) (e:=Extern.SlicesOverlaps.overlaps #[45,45] #[4]) (by kernel_rfl),
    Lib.run_overlaps_apart w 45 4 39 Tryz.underlying45 5 (fun w=>by kernel_rfl) ⟨vb,0,none⟩ ⟨b,(i+1) * 5,none⟩ 1 1 lb cb hvb t2 39 ys.toArray.size cur.size (by unfold World.shape?;simp [hyb]) (by unfold World.shape?;simp [hcur]) (by omega) (frozen_of_row _ _ _ _ _ hyb) (frozen_of_row _ _ _ _ _ hyb)]
  rfl
 have hz1:¬ ((i:Int)=(n:Int)):=by omega
 have hz2:¬ ((c:Int)<(n:Int)+1):=by omega
 have hin:i≤n:=by omega
 have hb3:(i:Int)≤(n:Int):=by omega
 have hb4:(n:Int)+1≤(c:Int):=by omega
 have hb5:(i:Int)≤(n:Int)+1:=by omega
 have hci:¬ (c=i):=by omega
 have hci1:¬ (c=i+1):=by omega
 have hik1:(i:Int)+1≤(n:Int)+1:=by omega
 have hc63:c≤9223372036854775807:=by unfold maxLen at hcm;omega
 have mixed:(Tryz.prog).follows .mixedOrders=true:=by kernel_rfl
 have hw1:IntKind.i64.wrap ((i:Int)+1)=(i:Int)+1:=IntWalk.i64_in _ (by omega)
 have hw2:(0:Int)≤(i:Int)+1:=by omega
 have hw3:((i:Int)+1).toNat=i+1:=by omega
 clear h hcur hcs hct hN1 hN2 hF1 hF2 hsl hdl hW1 hW2 hyb hyc h1 hx1 hcm
 go_enter Tryz.func51, Tryz.ntmps51
 go_wp2_with (simp only [hov])
 go_region_law_o (refine step_copy_runI rfl (.tmp 73) (.tmp 76) 45 45 rfl (.slice (some ⟨b,(i+1) * 5,none⟩) (n-i) (c-(i+1))) (.slice (some ⟨b,i * 5,none⟩) (n+1-i) (c-i)) (by simp [Act.eval,Act.put]) (by simp [Act.eval,Act.put]) (hcpB _ _ _) ?_)
 all_goals go_wp2_with (at_builtin;refine wpList_copy_runI _ rfl _ _ 45 45 rfl _ _ rfl rfl (hcpA _ _) ?_)
 all_goals go_ret
 all_goals exact ⟨rfl,HEND.out.1,HEND.out.2⟩
end Go.Proofs.YthfhamagopbgcaaGreat
namespace Go.Proofs.YthfhamagopbgcaaGreat
open Go.RowKit

/-- ONE WALK IN THE ORDER OF THE TEXT, for operations that yield the same in every world that has grown from this one. -/
theorem wp_region_quietGr {P:Program} {id:Nat} {Q:Exit→Act→World→Prop} {a:Act} {w:World} {l:List Oper} (hm:P.follows .mixedOrders=true) (hB:Region.lexB .any l.toArray=true)
  (h:wpQuiet P l.toArray (fun w'=>∃ u:GrW w,w'=u.val) (fun a'=>∀ w',(∃ u:GrW w,w'=u.val)→Q .normal a' w') l a):(Code.region id l.toArray true).wp P Q a w :=
 wp_region_quiet (C:=fun w'=>∃ u:GrW w,w'=u.val) hm hB ⟨⟨w.drew,(Gr.refl w).drew⟩,rfl⟩ (by simpa using h)
instance (w:World):Nonempty (GrW w):=⟨⟨w,Gr.refl w⟩⟩
theorem grW_call {P:Program} {f:FuncId} {args:Array Value} {w:World} {v:Value} (u:GrW w)
  (h:Calls P f args u.val fun e w'=>e=.returned v∧Gr u.val w'):Calls P f args u.val fun e w''=>e=.returned v∧∃ u':GrW w,w''=u'.val :=
 h.mono fun _ w' ⟨he,hm⟩=>⟨he,⟨w',u.gr.trans hm⟩,rfl⟩
end Go.Proofs.YthfhamagopbgcaaGreat

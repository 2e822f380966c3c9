/- A region that draws its order, shown by what is known of each operation's value: an invariant over what has come up. No program in sight. -/
import Derived.Test.YthfhamagopbgcaaGreatG00
import Derived.Test.YthfhamagopbgcaaGreatG34
import Derived.Orders
namespace Go.Proofs.YthfhamagopbgcaaGreat
set_option linter.unusedSimpArgs false
open Go.RowKit

/-- Each operation waits for earlier ones alone. -/
def backB (l:List Oper):Bool:=(List.range l.length).all fun i=>((l[i]?).map fun o=>o.after.all fun e=>!Region.binds .any e || decide (e.on<i)).getD true
theorem backB_spec {l:List Oper} (h:backB l=true) {i:Nat} {o:Oper} (hi:l[i]?=some o):∀ e ∈ o.after,Region.binds .any e=true→e.on<i:=by
 intro e he hb
 have hlt:=(List.getElem?_eq_some_iff.1 hi).1
 have h1:=List.all_eq_true.1 h i (List.mem_range.2 hlt)
 rw [hi] at h1
 simp only [Option.map_some,Option.getD_some] at h1
 rw [Array.all_eq_true_iff_forall_mem] at h1
 have:=h1 e he
 rw [hb] at this
 simpa using this
theorem getD_tt {listed:Array Bool} {i:Nat} (hi:i<listed.size):(listed.getD i true=false↔listed.getD i false=false):=by
 simp [hi]

section
variable {P:Program} {Q:Exit→Act→World→Prop}
theorem wpAny_inv {l:List Oper} (hdep:backB l=true) (J:Array Bool→Act→World→Prop)
  (hstep:∀ (i:Nat) (o:Oper) (listed:Array Bool) (a:Act) (w:World),l[i]?=some o→listed.size=l.length→listed.getD i false=false→(∀ e ∈ o.after,Region.binds .any e=true→listed.getD e.on false=true)→J listed a w →
    if Region.wanted o (yielded l.toArray a.tmps)=true then o.wp P a w (J (listed.setIfInBounds i true)) Q else J (listed.setIfInBounds i true) (a.put o.dst undef) w)
  (hdone:∀ (listed:Array Bool) (a:Act) (w:World),(∀ i,i<l.length→listed.getD i false=true)→J listed a w→Q .normal a w) :
  ∀ (fuel:Nat) (listed:Array Bool) (a:Act) (w:World),listed.size=l.length→listed.toList.count false=fuel→J listed a w→wpAny P .any l.toArray Q fuel listed a w:=by
 have hall:∀ (listed:Array Bool),listed.size=l.length→Region.ready .any l.toArray listed=[]→∀ i,i<l.length→listed.getD i false=true:=by
  intro listed hsz hr i
  induction i using Nat.strongRecOn with
  | ind i ih =>
   intro hi
   cases hb:listed.getD i false with
   | true=>rfl
   | false =>
    obtain ⟨o,ho⟩:∃ o,l[i]?=some o:=⟨_,List.getElem?_eq_getElem hi⟩
    have hm:i ∈ Region.ready .any l.toArray listed:=mem_ready.2 ⟨(getD_tt (by omega)).2 hb,o,by simpa using ho,fun e he hbd=>by
      have hlt:=backB_spec hdep ho e he hbd
      exact ih e.on hlt (by omega)⟩
    rw [hr] at hm;cases hm
 intro fuel
 induction fuel with
 | zero =>
  intro listed a w hsz hc hJ
  have hr:Region.ready .any l.toArray listed=[]:=by
   apply List.eq_nil_iff_forall_not_mem.2
   intro i hi
   obtain ⟨h1,-⟩:=mem_ready.1 hi
   have hlt:i<listed.size:=by
    rcases Nat.lt_or_ge i listed.size with h | h
    ·exact h
    ·simp [Array.getElem?_eq_none h] at h1
   have:false ∈ listed.toList:=by
    have e:listed[i]=false:=by simpa [hlt] using h1
    rw [← e];simp
   exact absurd this (List.count_eq_zero.1 hc)
  exact ⟨hr,hdone _ _ _ (hall _ hsz hr) hJ⟩
 | succ fuel ih =>
  intro listed a w hsz hc hJ
  refine ⟨fun hr=>hdone _ _ _ (hall _ hsz hr) hJ,fun i hi=>?_⟩
  obtain ⟨h1,o,ho,hafter⟩:=mem_ready.1 hi
  have hlt:i<listed.size:=by
   rcases Nat.lt_or_ge i listed.size with h | h
   ·exact h
   ·simp [Array.getElem?_eq_none h] at h1
  have he:listed[i]=false:=by simpa [hlt] using h1
  have hc':(listed.setIfInBounds i true).toList.count false=fuel:=by
   rw [Array.toList_setIfInBounds,List.count_set (by simpa using hlt)]
   simp [he,hc]
  have hs:=hstep i o listed a w (by simpa using ho) hsz ((getD_tt hlt).1 h1) hafter hJ
  unfold wpOp
  rw [ho]
  dsimp only
  split
  ·next hw =>
   rw [if_pos hw] at hs
   exact .inl (Oper.wp_mono (fun a' w' h=>ih _ a' w' (by simpa using hsz) hc' h) hs)
  ·next hw =>
   rw [if_neg hw] at hs
   exact ih _ _ _ (by simpa using hsz) hc' hs
/-- THE REGION, by its invariant. -/
theorem wp_region_inv {id:Nat} {a:Act} {w:World} {l:List Oper} (hm:P.follows .mixedOrders=true) (hdep:backB l=true) (J:Array Bool→Act→World→Prop) (h0:J (Array.replicate l.length false) a w.drew)
  (hstep:∀ (i:Nat) (o:Oper) (listed:Array Bool) (a:Act) (w:World),l[i]?=some o→listed.size=l.length→listed.getD i false=false→(∀ e ∈ o.after,Region.binds .any e=true→listed.getD e.on false=true)→J listed a w →
    if Region.wanted o (yielded l.toArray a.tmps)=true then o.wp P a w (J (listed.setIfInBounds i true)) Q else J (listed.setIfInBounds i true) (a.put o.dst undef) w)
  (hdone:∀ (listed:Array Bool) (a:Act) (w:World),(∀ i,i<l.length→listed.getD i false=true)→J listed a w→Q .normal a w):(Code.region id l.toArray true).wp P Q a w:=by
 refine wp_region_any hm ?_
 exact wpAny_inv hdep J hstep hdone _ _ _ _ (by simp) (by simp) h0
end
/-- A function changed at one place. -/
def upd (x:Nat→Value) (i:Nat) (v:Value) (j:Nat):Value:=if j=i then v else x j
theorem upd_self {x:Nat→Value} {i:Nat} {v:Value} (h:x i=v):x=upd x i v:=by
 funext j
 unfold upd
 split
 next e=>rw [e,h]
 ·rfl
theorem upd_ex {x:Nat→Value} {i:Nat} {v:Value} (h:x i=v):∃ x',x=upd x' i v:=⟨x,upd_self h⟩
section
variable {P:Program} {Q:Exit→Act→World→Prop}
/-- THE REGION, by what is known of each operation's value: fr is the frame by these values, sp what is known. No guards. -/
theorem wp_region_spec {id:Nat} {a:Act} {w W:World} {l:List Oper} (fr:(Nat→Value)→Act) (sp:Nat→Value→World→Prop) (hm:P.follows .mixedOrders=true) (hdep:backB l=true) (hng:(l.all fun o=>o.guard.isNone)=true)
  (hmono:∀ i v w w',sp i v w→Gr w w'→sp i v w') (x0:Nat→Value) (h0:a=fr x0) (g:Gr W w)
  (hstep:∀ (i:Nat) (o:Oper),l[i]?=some o→∀ (x:Nat→Value) (w:World),Gr W w→(∀ e ∈ o.after,Region.binds .any e=true→sp e.on (x e.on) w)→o.wp P (fr x) w (fun a' w'=>∃ v,a'=fr (upd x i v)∧sp i v w'∧Gr w w') Q)
  (hdone:∀ (x:Nat→Value) (w:World),Gr W w→(∀ i,i<l.length→sp i (x i) w)→Q .normal (fr x) w):(Code.region id l.toArray true).wp P Q a w:=by
 refine wp_region_inv hm hdep (fun listed a w=>∃ x,a=fr x∧Gr W w∧∀ i,i<l.length→listed.getD i false=true→sp i (x i) w) ?_ ?_ ?_
 ·refine ⟨x0,h0,g.drew,fun i hi h=>?_⟩
  rw [Array.getD_eq_getD_getElem?] at h
  simp [hi] at h
 ·intro i o listed a w hi hsz hun haft hJ
  obtain ⟨x,rfl,gw,hx⟩:=hJ
  have hlt:=(List.getElem?_eq_some_iff.1 hi).1
  have hg:o.guard=none:=by
   have:=List.all_eq_true.1 hng o (List.mem_of_getElem? hi)
   simpa using this
  rw [if_pos (by unfold Region.wanted;rw [hg])]
  refine Oper.wp_mono ?_ (hstep i o hi x w gw fun e he hb=>hx e.on (by have:=backB_spec hdep hi e he hb;omega) (haft e he hb))
  rintro a' w' ⟨v,rfl,hv,g'⟩
  refine ⟨upd x i v,rfl,gw.trans g',fun j hj hl=>?_⟩
  unfold upd
  by_cases e:j=i
  ·subst e;rw [if_pos rfl];exact hv
  ·rw [if_neg e]
   refine hmono j _ _ _ (hx j hj ?_) g'
   rw [Array.getD_eq_getD_getElem?,Array.getElem?_setIfInBounds_ne (Ne.symm e),← Array.getD_eq_getD_getElem?] at hl
   exact hl
 ·intro listed a w hall hJ
  obtain ⟨x,rfl,gw,hx⟩:=hJ
  exact hdone x w gw fun i hi=>hx i hi (hall i hi)
theorem wpAny_of_headJ {l:List Oper} {n g:Nat} (J:Array Bool→Act→World→Prop) (hB:headB (l.take n)=true) (hs:Region.sinkB .any l.toArray n=true) (hc:Region.chainB .any l.toArray n=true) (hn:n<l.toArray.size)
  (hstep:∀ (i:Nat) (o:Oper) (listed:Array Bool) (a:Act) (w:World),i<n→l[i]?=some o→listed.getD i false=false→(∀ e ∈ o.after,Region.binds .any e=true→listed.getD e.on false=true)→J listed a w →
    if Region.wanted o (yielded l.toArray a.tmps)=true then o.wp P a w (J (listed.setIfInBounds i true)) Q else J (listed.setIfInBounds i true) (a.put o.dst undef) w)
  (hL:∀ listed a w,HeadInv .any l.toArray n listed→(∀ i,i<n→listed.getD i false=true)→J listed a w→wpAny P .any l.toArray Q g listed a w) :
  ∀ (f:Nat) (listed:Array Bool) (a:Act) (w:World),HeadInv .any l.toArray n listed→(listed.toList.take n).count false=f→J listed a w→wpAny P .any l.toArray Q (f+g) listed a w:=by
 have hn':n<l.length:=by simpa using hn
 intro f
 induction f with
 | zero =>
  intro listed a w inv hct hJ
  have hsz:listed.size=l.length:=by have:=inv.size;simpa using this
  rw [Nat.zero_add]
  refine hL listed a w inv (fun i hi=>?_) hJ
  cases hb:listed.getD i false with
  | true=>rfl
  | false =>
   have hlt:i<listed.size:=by omega
   have e:listed[i]=false:=by rw [Array.getD_eq_getD_getElem?] at hb;simpa [hlt] using hb
   have hm:false ∈ listed.toList.take n:=by
    rw [List.mem_iff_getElem?]
    exact ⟨i,by rw [List.getElem?_take,if_pos hi];simp [hlt,e]⟩
   exact absurd hm (List.count_eq_zero.1 hct)
 | succ f ih =>
  intro listed a w inv hct hJ
  have hsz:listed.size=l.length:=by have:=inv.size;simpa using this
  by_cases hr:Region.ready .any (l.take n).toArray listed=[]
  ·exfalso
   have hall:=head_done hB hsz hr
   have hz:(listed.toList.take n).count false=0:=by
    rw [List.count_eq_zero]
    intro hm
    obtain ⟨i,hi⟩:=List.getElem?_of_mem hm
    rw [List.getElem?_take] at hi
    split at hi
    next q =>
     have:=hall i q (by omega)
     rw [Array.getD_eq_getD_getElem?] at this
     rw [Array.getElem?_toList] at hi
     rw [hi] at this;cases this
    ·cases hi
   omega
  ·obtain ⟨i0,hi0⟩:=List.exists_mem_of_ne_nil _ hr
   obtain ⟨u0,o0,ho0,ha0⟩:=mem_ready.1 hi0
   obtain ⟨hi0n,ho0'⟩:=take_get (by simpa using ho0)
   have hr0:i0 ∈ Region.ready .any l.toArray listed:=mem_ready.2 ⟨u0,o0,by simpa using ho0',ha0⟩
   rw [Nat.succ_add]
   refine ⟨fun q=>(by rw [q] at hr0;cases hr0),fun i hi=>?_⟩
   have hin:i<n:=by
    rcases Nat.lt_or_ge i n with q | q
    ·exact q
    ·exact absurd hi (tail_waits hs hc hn inv _ i0 rfl hi0n u0 i q)
   obtain ⟨u1,o1,ho1,ha1⟩:=mem_ready.1 hi
   have hlt:i<listed.size:=by omega
   have hb:listed.getD i false=false:=(getD_tt hlt).1 u1
   have e:listed[i]=false:=by rw [Array.getD_eq_getD_getElem?] at hb;simpa [hlt] using hb
   have hct':((listed.setIfInBounds i true).toList.take n).count false=f:=by
    rw [Array.toList_setIfInBounds,List.take_set,List.count_set (by simp;omega)]
    simp [e,hct]
   have hs2:=hstep i o1 listed a w hin (by simpa using ho1) hb ha1 hJ
   unfold wpOp
   rw [ho1]
   dsimp only
   split
   next hw =>
    rw [if_pos hw] at hs2
    exact .inl (Oper.wp_mono (fun a' w' h=>ih _ a' w' (inv.set hi hin) hct' h) hs2)
   next hw =>
    rw [if_neg hw] at hs2
    exact ih _ _ _ (inv.set hi hin) hct' hs2
/-- The Bools over a region whose tail begins at n, the head by a spec. -/
def specB (l:List Oper) (n:Nat):Bool :=
 headB (l.take n) && Region.sinkB .any l.toArray n && Region.chainB .any l.toArray n && decide (n<l.length) && (l.take n).all (fun o=>o.guard.isNone) &&
  Region.seqB .any l.toArray (l.length-n) n ((List.replicate n true++List.replicate (l.length-n) false).toArray)
/-- A REGION, its head by what is known of each operation's value, its tail walked in its order. -/
theorem wp_region_spec_tail {id:Nat} {a:Act} {w W:World} {l:List Oper} (n:Nat) (fr:(Nat→Value)→Act) (sp:Nat→Value→World→Prop) (hm:P.follows .mixedOrders=true) (hB:specB l n=true)
  (hmono:∀ i v w w',sp i v w→Gr w w'→sp i v w') (x0:Nat→Value) (h0:a=fr x0) (g:Gr W w)
  (hstep:∀ (i:Nat) (o:Oper),i<n→l[i]?=some o→∀ (x:Nat→Value) (w:World),Gr W w→(∀ e ∈ o.after,Region.binds .any e=true→sp e.on (x e.on) w)→o.wp P (fr x) w (fun a' w'=>∃ v,a'=fr (upd x i v)∧sp i v w'∧Gr w w') Q)
  (hdone:∀ (x:Nat→Value) (w:World),Gr W w→(∀ i,i<n→sp i (x i) w)→wpList P l.toArray Q (l.drop n) (fr x) w):(Code.region id l.toArray true).wp P Q a w:=by
 simp only [specB,Bool.and_eq_true,decide_eq_true_eq] at hB
 obtain ⟨⟨⟨⟨⟨b3,b4⟩,b5⟩,b6⟩,b2⟩,b7⟩:=hB
 have inv0:HeadInv .any l.toArray n (Array.replicate l.toArray.size false) :=
  ⟨by simp,fun j oj _ hl=>(by rw [getD_replicate_false] at hl;cases hl),fun t _ ht=>getD_in (by simpa using ht) (getD_replicate_false _ _)⟩
 refine wp_region_any hm ?_
 have H2:=wpAny_of_headJ (P:=P) (Q:=Q) (l:=l) (n:=n) (g:=l.length-n) (fun listed a w=>∃ x,a=fr x∧Gr W w∧∀ i,i<n→listed.getD i false=true→sp i (x i) w) b3 b4 b5 (by simpa using b6) (fun i o listed a w hin hi hb haft hJ=>by
     obtain ⟨x,rfl,gw,hx⟩:=hJ
     have hg:o.guard=none:=by
       have:=List.all_eq_true.1 b2 o (List.mem_of_getElem? (show (l.take n)[i]?=some o by rw [List.getElem?_take,if_pos hin];exact hi))
       simpa using this
     rw [if_pos (by unfold Region.wanted;rw [hg])]
     have hsp:=headB_spec b3 (i:=i) (o:=o) (by rw [List.getElem?_take,if_pos hin];exact hi)
     refine Oper.wp_mono ?_ (hstep i o hin hi x w gw fun e he hbd=>hx e.on (by have:=hsp.1 e he hbd;omega) (haft e he hbd))
     rintro a' w' ⟨v,rfl,hv,g'⟩
     refine ⟨upd x i v,rfl,gw.trans g',fun j hj hl=>?_⟩
     unfold upd
     by_cases e:j=i
     · subst e;rw [if_pos rfl];exact hv
     · rw [if_neg e]
       refine hmono j _ _ _ (hx j hj ?_) g'
       rw [Array.getD_eq_getD_getElem?,Array.getElem?_setIfInBounds_ne (Ne.symm e),← Array.getD_eq_getD_getElem?] at hl
       exact hl)
  (fun listed a' w' inv hl hJ=>by
    obtain ⟨x,rfl,gw,hx⟩:=hJ
    have e:listed=(List.replicate n true++List.replicate (l.length-n) false).toArray:=by
      have hsz:listed.size=l.length:=by have:=inv.size;simpa using this
      apply Array.ext
      · simp;omega
      · intro i h1 h2
        rcases Nat.lt_or_ge i n with q | q
        · have:=hl i q
          rw [Array.getD_eq_getD_getElem?,Array.getElem?_eq_getElem h1] at this
          simp [List.getElem_append,q]
          simpa using this
        · have:=inv.tail i q (by simpa using (show i<l.length by omega))
          rw [Array.getD_eq_getD_getElem?,Array.getElem?_eq_getElem h1] at this
          simp [List.getElem_append,show ¬ i<n by omega]
          simpa using this
    have:=wpAny_of_seq (P:=P) (md:=.any) (Q':=Q) (l.drop n) n listed (fr x) w' (fun j=>by simp [List.getElem?_drop]) (by rw [e];simpa using b7) (hdone x w' gw fun i hi=>hx i hi (hl i hi))
    simpa using this) n (Array.replicate l.toArray.size false) a w.drew inv0 (by simp;omega) ⟨x0,h0,g.drew,fun i hi h=>by rw [getD_replicate_false] at h;cases h⟩
 rw [show n+(l.length-n)=l.toArray.size by simp;omega] at H2
 exact H2
end
end Go.Proofs.YthfhamagopbgcaaGreat

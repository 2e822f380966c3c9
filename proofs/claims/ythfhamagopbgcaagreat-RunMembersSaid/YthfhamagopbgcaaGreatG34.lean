/- A region that draws its order: its head only reads (or makes memory), its tail comes last: one walk of the head, then the tail in its order. No program in sight. -/
import Derived.Test.YthfhamagopbgcaaGreatG33
import Derived.StillTail
import Derived.BigQuiet
namespace Go.Proofs.YthfhamagopbgcaaGreat
set_option linter.unusedSimpArgs false
open Go Go.RowKit

section
variable {P:Program} {md:Region.Mode} {ops:Array Oper} {C:World→Prop} {Q:Exit→Act→World→Prop}

theorem wpAny_one_more:∀ (f:Nat) (listed:Array Bool) (a:Act) (w:World),wpAny P md ops Q f listed a w→wpAny P md ops Q (f+1) listed a w
 | 0,listed,a,w,h=>⟨fun _=>h.2,fun i hi=>by rw [h.1] at hi;cases hi⟩
 | f+1,listed,a,w,h=>⟨h.1,fun i hi=>wpOp_mono (fun a' w' h'=>wpAny_one_more f _ a' w' h') (h.2 i hi)⟩
theorem wpAny_more (f g:Nat) (listed:Array Bool) (a:Act) (w:World) (h:wpAny P md ops Q f listed a w):wpAny P md ops Q (g+f) listed a w:=by
 induction g with
 | zero=>rwa [Nat.zero_add]
 | succ g ih=>rw [Nat.succ_add];exact wpAny_one_more _ _ _ _ ih

/-- What is asked of the head's operations: each waits for earlier ones alone, and so does its guard. -/
def headB (hd:List Oper):Bool:=(List.range hd.length).all fun i=>((hd[i]?).map fun o=>(o.after.all fun e=>!Region.binds .any e || decide (e.on<i)) && (o.guard.map fun p=>decide (p.1<i)).getD true).getD true
theorem headB_spec {hd:List Oper} (h:headB hd=true) {i:Nat} {o:Oper} (hi:hd[i]?=some o):(∀ e ∈ o.after,Region.binds .any e=true→e.on<i)∧∀ p,o.guard=some p→p.1<i:=by
 have hlt:=(List.getElem?_eq_some_iff.1 hi).1
 have h1:=List.all_eq_true.1 h i (List.mem_range.2 hlt)
 rw [hi] at h1
 simp only [Option.map_some,Option.getD_some,Bool.and_eq_true] at h1
 refine ⟨fun e he hb=>?_,fun p hp=>?_⟩
 ·have h2:=h1.1
  rw [Array.all_eq_true_iff_forall_mem] at h2
  have:=h2 e he
  rw [hb] at this
  simpa using this
 ·have h2:=h1.2
  rw [hp] at h2
  simpa using h2
theorem take_get {l:List Oper} {n i:Nat} {o:Oper} (h:(l.take n)[i]?=some o):i<n∧l[i]?=some o:=by
 rw [List.getElem?_take] at h
 split at h
 next q=>exact ⟨q,h⟩
 ·cases h
theorem qOp_take {l:List Oper} {n i:Nat} (hB:headB (l.take n)=true) (hin:i<n) {K:Act→Prop} {a:Act} (h:qOp P (l.take n).toArray C i K a):qOp P l.toArray C i K a:=by
 unfold qOp at *
 have e:(l.take n).toArray[i]?=l.toArray[i]?:=by simp [List.getElem?_take,hin]
 rw [e] at h
 cases ho:l.toArray[i]? with
 | none=>rw [ho] at h;exact h
 | some o =>
  rw [ho] at h
  dsimp only at h ⊢
  have hg:=(headB_spec hB (i:=i) (o:=o) (by simpa using e.trans ho)).2
  have ew:Region.wanted o (yielded (l.take n).toArray a.tmps)=Region.wanted o (yielded l.toArray a.tmps):=by
   unfold Region.wanted
   cases hq:o.guard with
   | none=>rfl
   | some p =>
    have hp:=hg p hq
    obtain ⟨j,b⟩:=p
    dsimp only at hp ⊢
    unfold yielded
    rw [show (l.take n).toArray[j]?=l.toArray[j]? by simp [List.getElem?_take,show j<n by omega]]
  rwa [ew] at h
/-- All of the head has come up, or one of it may come up now. -/
theorem head_done {l:List Oper} {n:Nat} (hB:headB (l.take n)=true) {listed:Array Bool} (hsz:listed.size=l.length) (hr:Region.ready .any (l.take n).toArray listed=[]):∀ i,i<n→i<l.length→listed.getD i false=true:=by
 intro i
 induction i using Nat.strongRecOn with
 | ind i ih =>
  intro hi hil
  cases hb:listed.getD i false with
  | true=>rfl
  | false =>
   obtain ⟨o,ho⟩:∃ o,(l.take n)[i]?=some o:=⟨_,List.getElem?_eq_getElem (by simp;omega)⟩
   have hm:i ∈ Region.ready .any (l.take n).toArray listed:=mem_ready.2 ⟨getD_in (by omega) hb,o,by simpa using ho,fun e he hbd=>by
     have hlt:=(headB_spec hB ho).1 e he hbd
     exact ih e.on hlt (by omega) (by omega)⟩
   rw [hr] at hm;cases hm
theorem wpAny_of_headQ {l:List Oper} {n g:Nat} {L:Act→Prop} (hB:headB (l.take n)=true) (hs:Region.sinkB .any l.toArray n=true) (hc:Region.chainB .any l.toArray n=true) (hn:n<l.toArray.size)
  (hL:∀ listed a w,HeadInv .any l.toArray n listed→(∀ i,i<n→listed.getD i false=true)→C w→L a→wpAny P .any l.toArray Q g listed a w) :
  ∀ (f:Nat) (listed:Array Bool) (a:Act) (w:World),HeadInv .any l.toArray n listed→C w→wpAnyQ P .any (l.take n).toArray C L f listed a→wpAny P .any l.toArray Q (f+g) listed a w:=by
 have hn':n<l.length:=by simpa using hn
 intro f
 induction f with
 | zero =>
  intro listed a w inv hw h
  rw [Nat.zero_add]
  exact hL listed a w inv (fun i hi=>head_done hB (by have:=inv.size;simpa using this) h.1 i hi (by omega)) hw h.2
 | succ f ih =>
  intro listed a w inv hw h
  have hsz:listed.size=l.length:=by have:=inv.size;simpa using this
  by_cases hr:Region.ready .any (l.take n).toArray listed=[]
  ·exact wpAny_more g (f+1) listed a w (hL listed a w inv (fun i hi=>head_done hB hsz hr i hi (by omega)) hw (h.1 hr))
  ·obtain ⟨i0,hi0⟩:=List.exists_mem_of_ne_nil _ hr
   obtain ⟨u0,o0,ho0,ha0⟩:=mem_ready.1 hi0
   obtain ⟨hi0n,ho0'⟩:=take_get (by simpa using ho0)
   have hr0:i0 ∈ Region.ready .any l.toArray listed:=mem_ready.2 ⟨u0,o0,by simpa using ho0',ha0⟩
   rw [Nat.succ_add]
   refine ⟨fun q=>(by rw [q] at hr0;cases hr0),fun i hi=>?_⟩
   have hin:i<n:=by
    rcases Nat.lt_or_ge i n with q | q
    ·exact q
    ·exact absurd hi (tail_waits hs hc hn inv _ i0 rfl hi0n u0 i q)
   obtain ⟨u1,o1,ho1,ha1⟩:=mem_ready.1 hi
   have hi2:i ∈ Region.ready .any (l.take n).toArray listed:=mem_ready.2 ⟨u1,o1,by simpa [List.getElem?_take,hin] using ho1,ha1⟩
   exact wpOp_of_qOp hw (fun a' w' hw' hk=>ih _ a' w' (inv.set hi hin) hw' hk) (qOp_take hB hin (h.2 i hi2))
/-- The Bools over a region whose tail begins at n. -/
def tailQB (l:List Oper) (n:Nat):Bool :=
 Region.noSelect (l.take n).toArray && Region.lexFrom .any (l.take n).toArray n 0 (Array.replicate l.length false) && headB (l.take n) && Region.sinkB .any l.toArray n && Region.chainB .any l.toArray n && decide (n<l.length) &&
  Region.seqB .any l.toArray (l.length-n) n ((List.replicate n true++List.replicate (l.length-n) false).toArray)
theorem wp_region_quiet_tail {id:Nat} {a:Act} {w:World} {l:List Oper} (n:Nat) (hm:P.follows .mixedOrders=true) (hB:tailQB l n=true) (hC:C w.drew)
  (h:wpQuiet P (l.take n).toArray C (fun a'=>∀ w',C w'→wpList P l.toArray Q (l.drop n) a' w') (l.take n) a):(Code.region id l.toArray true).wp P Q a w:=by
 simp only [tailQB,Bool.and_eq_true,decide_eq_true_eq] at hB
 obtain ⟨⟨⟨⟨⟨⟨b1,b2⟩,b3⟩,b4⟩,b5⟩,b6⟩,b7⟩:=hB
 have htl:(l.take n).length=n:=by simp;omega
 have inv0:HeadInv .any l.toArray n (Array.replicate l.toArray.size false) :=
  ⟨by simp,fun j oj _ hl=>(by rw [getD_replicate_false] at hl;cases hl),fun t _ ht=>getD_in (by simpa using ht) (getD_replicate_false _ _)⟩
 have H:=wpAnyQ_lex (P:=P) (C:=C) (md:=.any) b1 (l.take n) 0 (Array.replicate l.length false) a (by intro j;simp) (by rw [htl];exact b2) h
 refine wp_region_any hm ?_
 have H2:=wpAny_of_headQ (P:=P) (Q:=Q) (C:=C) (L:=fun a'=>∀ w',C w'→wpList P l.toArray Q (l.drop n) a' w') (g:=l.length-n) b3 b4 b5 (by simpa using b6) (fun listed a' w' inv hl hw' hq=>by
   have e:listed=(List.replicate n true++List.replicate (l.length-n) false).toArray:=by
     have hsz:listed.size=l.length:=by have:=inv.size;simpa using this
     apply Array.ext
     · simp;omega
     · intro i h1 h2
       rcases Nat.lt_or_ge i n with q | q
       · have:=hl i q
         rw [Array.getD_eq_getD_getElem?,Array.getElem?_eq_getElem h1] at this
         simp [List.getElem_append,q]
         simpa using this
       · have:=inv.tail i q (by simpa using (show i<l.length by omega))
         rw [Array.getD_eq_getD_getElem?,Array.getElem?_eq_getElem h1] at this
         simp [List.getElem_append,show ¬ i<n by omega]
         simpa using this
   have:=wpAny_of_seq (P:=P) (md:=.any) (Q':=Q) (l.drop n) n listed a' w' (fun j=>by simp [List.getElem?_drop]) (by rw [e];simpa using b7) (hq w' hw')
   simpa using this) _ _ _ _ inv0 hC (by simpa using H)
 rw [show min n l.length+(l.length-n)=l.toArray.size by simp;omega] at H2
 exact H2
end
/-- .. in the worlds that have grown from this one. -/
theorem wp_region_tailGr {P:Program} {id:Nat} {Q:Exit→Act→World→Prop} {a:Act} {w:World} {l:List Oper} (n:Nat) (hm:P.follows .mixedOrders=true) (hB:tailQB l n=true)
  (h:wpQuiet P (l.take n).toArray (fun w'=>∃ u:GrW w,w'=u.val) (fun a'=>∀ w',(∃ u:GrW w,w'=u.val)→wpList P l.toArray Q (l.drop n) a' w') (l.take n) a):(Code.region id l.toArray true).wp P Q a w :=
 wp_region_quiet_tail (C:=fun w'=>∃ u:GrW w,w'=u.val) n hm hB ⟨⟨w.drew,(Gr.refl w).drew⟩,rfl⟩ h
end Go.Proofs.YthfhamagopbgcaaGreat

import Derived.Test.YtjkajidbdmbbaaaGreatN28
import Derived.StillTail
set_option linter.unusedSimpArgs false
set_option linter.unusedVariables false
set_option maxRecDepth 100000
set_option maxHeartbeats 16000000
namespace Go.Proofs.YtjkajidbdmbbaaaGreat
variable {a:Act}{Q:Exit->Act->World->Prop}{hd l:List Oper}{i id n:Nat}{o:Oper}{P:Program}{w:World}
section
open Go Go.RowKit
section
variable {P:Program}{md:Region.Mode}{ops:Array Oper}{C:World->Prop}{Q:Exit->Act->World->Prop}
theorem fY:∀(f:Nat)(listed:Array Bool)(a:Act)(w:World),wpAny P md ops Q f listed a w->wpAny P md ops Q (f+1) listed a w
 | 0,listed,a,w,h=>⟨fun _=>h.2,fun i hi=>by rw[h.1]at hi;cases hi⟩
 | f+1,listed,a,w,h=>⟨h.1,fun i hi=>wpOp_mono (fun a' w' h'=>fY f _ a' w' h') (h.2 i hi)⟩
theorem pY (f g:Nat)(listed:Array Bool)(a:Act)(w:World)(h:wpAny P md ops Q f listed a w):wpAny P md ops Q (g+f) listed a w:=by
 induction g with
 | zero=>rwa [Nat.zero_add]
 | succ g ih=>rw[Nat.succ_add];exact fY _ _ _ _ ih
def re (hd:List Oper):Bool:=(List.range hd.length).all fun i=>((hd[i]?).map fun o=>(o.after.all fun e=>!Region.binds .any e || decide (e.on<i)) && (o.guard.map fun p=>decide (p.1<i)).getD true).getD true
theorem jO (h:re hd=true)(hi:hd[i]?=some o):(∀e∈o.after,Region.binds .any e=true->e.on<i)/\∀p,o.guard=some p->p.1<i:=by
 have j:=(xS.1 hi).1;have g:=ym.1 h i (List.mem_range.2 j);rw[hi]at g;simp only[Option.map_some,Option.getD_some,yu]at g;refine⟨fun e m l=>?_,fun p hp=>?_⟩
 ·have d:=g.1;rw[Array.all_eq_true_iff_forall_mem]at d;have:=d e m;rw[l]at this;simpa using this
 ·have d:=g.2;rw[hp]at d;simpa using d
theorem ur (h:(l.take n)[i]?=some o):i<n/\l[i]?=some o:=by
 rw[yf]at h;split at h;next q=>exact⟨q,h⟩
 ·cases h
theorem uh (hB:re (l.take n)=true)(hin:i<n){K:Act->Prop}(h:qOp P (l.take n).toArray C i K a):qOp P l.toArray C i K a:=by
 unfold qOp at *;have e:(l.take n).toArray[i]?=l.toArray[i]?:=by simp[yf,hin]
 rw[e]at h
 cases ho:l.toArray[i]? with
 | none=>rw[ho]at h;exact h
 | some o =>
  rw[ho]at h;dsimp only at h ⊢;have g:=(jO hB (i:=i) (o:=o) (by simpa using e.trans ho)).2
  have d:Region.wanted o (yielded (l.take n).toArray a.tmps)=Region.wanted o (yielded l.toArray a.tmps):=by
   unfold Region.wanted
   cases hq:o.guard with
   | none=>rfl
   | some p =>
    have m:=g p hq;obtain⟨j,b⟩:=p;dsimp only at m ⊢;unfold yielded;rw[show (l.take n).toArray[j]?=l.toArray[j]? by simp[yf,show j<n by omega]]
  rwa [d]at h
theorem lF (hB:re (l.take n)=true){listed:Array Bool}(hsz:listed.size=l.length)(hr:Region.ready .any (l.take n).toArray listed=[]):∀i,i<n->i<l.length->listed.getD i false=true:=by
 intro i
 induction i using Nat.strongRecOn with
 | ind i ih =>
  intro p m
  cases hb:listed.getD i false with
  | true=>rfl
  | false =>
   obtain⟨o,j⟩:∃o,(l.take n)[i]?=some o:=⟨_,xR (by simp;omega)⟩
   have g:i∈Region.ready .any (l.take n).toArray listed:=mem_ready.2 ⟨getD_in (by omega) hb,o,by simpa using j,fun e he hbd=>by
     have d:=(jO hB j).1 e he hbd
     exact ih e.on d (by omega) (by omega)⟩
   rw[hr]at g;cases g
theorem jD {g:Nat}{L:Act->Prop}(hB:re (l.take n)=true)(hs:Region.sinkB .any l.toArray n=true)(hc:Region.chainB .any l.toArray n=true)(hn:n<l.toArray.size)
  (hL:∀listed a w,HeadInv .any l.toArray n listed->(∀i,i<n->listed.getD i false=true)->C w->L a->wpAny P .any l.toArray Q g listed a w) :
  ∀(f:Nat)(listed:Array Bool)(a:Act)(w:World),HeadInv .any l.toArray n listed->C w->wpAnyQ P .any (l.take n).toArray C L f listed a->wpAny P .any l.toArray Q (f+g) listed a w:=by
 have M:n<l.length:=by simpa using hn
 intro f
 induction f with
 | zero =>
  intro listed a w inv t h;rw[Nat.zero_add];exact hL listed a w inv (fun i d=>lF hB (by have:=inv.size;simpa using this) h.1 i d (by omega)) t h.2
 | succ f ih =>
  intro listed a w inv t h;have F:listed.size=l.length:=by have:=inv.size;simpa using this
  by_cases E:Region.ready .any (l.take n).toArray listed=[]
  ·exact pY g (f+1) listed a w (hL listed a w inv (fun i d=>lF hB F E i d (by omega)) t (h.1 E))
  ·obtain⟨H,z⟩:=List.exists_mem_of_ne_nil _ E;obtain⟨I,N,B,u⟩:=mem_ready.1 z;obtain⟨m,p⟩:=ur (by simpa using B);have r:H∈Region.ready .any l.toArray listed:=mem_ready.2 ⟨I,N,by simpa using p,u⟩;rw[Nat.succ_add];refine⟨fun q=>(by rw[q]at r;cases r),fun i d=>?_⟩
   have j:i<n:=by
    rcases yw i n with q|q
    ·exact q
    ·exact absurd d (tail_waits hs hc hn inv _ H rfl m I i q)
   obtain⟨R,O,D,y⟩:=mem_ready.1 d;have A:i∈Region.ready .any (l.take n).toArray listed:=mem_ready.2 ⟨R,O,by simpa[yf,j] using D,y⟩;exact wpOp_of_qOp t (fun J w' G K=>ih _ J w' (inv.set d j) G K) (uh hB j (h.2 i A))
def ou (l:List Oper)(n:Nat):Bool :=
 Region.noSelect (l.take n).toArray && Region.lexFrom .any (l.take n).toArray n 0 (Array.replicate l.length false) && re (l.take n) && Region.sinkB .any l.toArray n && Region.chainB .any l.toArray n && decide (n<l.length) &&
  Region.seqB .any l.toArray (l.length-n) n ((List.replicate n true++List.replicate (l.length-n) false).toArray)
theorem eJ (n:Nat)(hm:P.follows .mixedOrders=true)(hB:ou l n=true)(hC:C w.drew)
  (h:wpQuiet P (l.take n).toArray C (fun a'=>∀w',C w'->wpList P l.toArray Q (l.drop n) a' w') (l.take n) a):(Code.region id l.toArray true).wp P Q a w:=by
 simp only[ou,yu,decide_eq_true_eq]at hB;obtain⟨⟨⟨⟨⟨⟨u,y⟩,z⟩,A⟩,B⟩,D⟩,E⟩:=hB;have m:(l.take n).length=n:=by simp;omega
 have d:HeadInv .any l.toArray n (Array.replicate l.toArray.size false) :=
  ⟨by simp,fun j J _ hl=>(by rw[getD_replicate_false]at hl;cases hl),fun t _ G=>getD_in (by simpa using G) (getD_replicate_false _ _)⟩
 have H:=wpAnyQ_lex (P:=P) (C:=C) (md:=.any) u (l.take n) 0 (Array.replicate l.length false) a (by intro j;simp) (by rw[m];exact y) h;refine wp_region_any hm ?_
 have p:=jD (P:=P) (Q:=Q) (C:=C) (L:=fun a'=>∀w',C w'->wpList P l.toArray Q (l.drop n) a' w') (g:=l.length-n) z A B (by simpa using D) (fun listed a' w' inv hl hw' hq=>by
   have e:listed=(List.replicate n true++List.replicate (l.length-n) false).toArray:=by
     have F:listed.size=l.length:=by have:=inv.size;simpa using this
     apply Array.ext
     · simp;omega
     · intro i r I
       rcases yw i n with q|q
       · have:=hl i q
         rw[Array.getD_eq_getD_getElem?,Array.getElem?_eq_getElem r]at this
         simp[List.getElem_append,q]
         simpa using this
       · have:=inv.tail i q (by simpa using (show i<l.length by omega))
         rw[Array.getD_eq_getD_getElem?,Array.getElem?_eq_getElem r]at this
         simp[List.getElem_append,show ¬i<n by omega]
         simpa using this
   have:=wpAny_of_seq (P:=P) (md:=.any) (Q':=Q) (l.drop n) n listed a' w' (fun j=>by simp[List.getElem?_drop]) (by rw[e];simpa using E) (hq w' hw')
   simpa using this) _ _ _ _ d hC (by simpa using H)
 rw[show min n l.length+(l.length-n)=l.toArray.size by simp;omega]at p;exact p
end
theorem dC (n:Nat)(hm:P.follows .mixedOrders=true)(hB:ou l n=true)
  (h:wpQuiet P (l.take n).toArray (fun w'=>∃u:GrW w,w'=u.val) (fun a'=>∀w',(∃u:GrW w,w'=u.val)->wpList P l.toArray Q (l.drop n) a' w') (l.take n) a):(Code.region id l.toArray true).wp P Q a w :=
 eJ (C:=fun w'=>∃u:GrW w,w'=u.val) n hm hB ⟨⟨w.drew,(yO w).drew⟩,rfl⟩ h
end

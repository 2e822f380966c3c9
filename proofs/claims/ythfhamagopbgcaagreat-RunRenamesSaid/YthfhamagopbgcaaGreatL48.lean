/- Parts. -/
import Derived.Test.YthfhamagopbgcaaGreatL47
import Derived.Deep.RegionLaw
set_option linter.unusedSimpArgs false
set_option linter.unusedVariables false
set_option maxRecDepth 100000
set_option maxHeartbeats 16000000
namespace Go.Proofs.YthfhamagopbgcaaGreat
section
open Go.RowKit
theorem dp {w:World}{B:Nat}{T:TypeId}{x0 x1 x2 x3 x4 x5:Value}(hr:w.heap[B]?=some (.cells #[x0,x1,x2,x3,x4,x5] T (0,0))) :
  (w.cell? ⟨B,0,none⟩=some x0/\w.cell? ⟨B,1,none⟩=some x1/\w.cell? ⟨B,2,none⟩=some x2/\w.cell? ⟨B,3,none⟩=some x3/\w.cell? ⟨B,4,none⟩=some x4/\w.cell? ⟨B,5,none⟩=some x5) /\
  w.frozen? ⟨B,0,none⟩=false/\w.frozen? ⟨B,1,none⟩=false/\w.frozen? ⟨B,2,none⟩=false/\w.frozen? ⟨B,3,none⟩=false/\w.frozen? ⟨B,4,none⟩=false/\w.frozen? ⟨B,5,none⟩=false :=
 ⟨⟨vX _ _ 0 _ _ _ hr,vX _ _ 1 _ _ _ hr,vX _ _ 2 _ _ _ hr,vX _ _ 3 _ _ _ hr,vX _ _ 4 _ _ _ hr,vX _ _ 5 _ _ _ hr⟩,
   vY _ _ 0 _ _ hr,vY _ _ 1 _ _ hr,vY _ _ 2 _ _ hr,vY _ _ 3 _ _ hr,vY _ _ 4 _ _ hr,vY _ _ 5 _ _ hr⟩
theorem qi {l:List Int}{k:Nat}{z:Int}(g:Int->Int)(h:l[k]?=some z):(l.take (k+1)).map g=(l.take k).map g++[g z]:=by rw[List.take_add_one,h,List.map_append];rfl
structure Dn (f:Fn)(o:List Nat)(N:Nat)(ns:List Int)(k i:Nat):Prop where
 len:ns.length=N
 par:∀v:Nat,v<f.params.length->ns[v]?=some (v:Int)
 blk:∀(j b:Nat)(l:List Ins)(i':Nat),o[j]?=some b->f.blocks[b]?=some l->i'<l.length->(j<k\/j=k/\i'<i)->ns[Ref.number f b+i']?=some (Ref.num f o ((Ref.number f b+i':Nat):Int))
section
variable {f:Fn}{o:List Nat}{N:Nat}{ns:List Int}{k i:Nat}
theorem Dn.start (h1:ns.length=N)(h2:∀v:Nat,v<f.params.length->ns[v]?=some (v:Int)):Dn f o N ns 0 0 :=
 ⟨h1,h2,fun j b l d _ _ _ h=>by omega⟩
theorem Dn.step (h:Dn f o N ns k i){b:Nat}{l:List Ins}(hb:o[k]?=some b)(hl:f.blocks[b]?=some l)(hi:i<l.length)(hN:Ref.number f b+i<N):Dn f o N (ns.set (Ref.number f b+i) (Ref.num f o ((Ref.number f b+i:Nat):Int))) k (i+1):=by
 refine⟨by rw[List.length_set];exact h.len,fun v hv=>?_,fun j c l' i' hj hc hi' d=>?_⟩
 ·rw[List.getElem?_set_ne (by unfold Ref.number;omega)];exact h.par v hv
 ·by_cases e:Ref.number f b+i=Ref.number f c+i'
  ·rw[<-e,ww (by rw[h.len];exact hN)]
  ·rw[List.getElem?_set_ne e];refine h.blk j c l' i' hj hc hi' ?_;rcases d with d|⟨d,g⟩
   ·exact .inl d
   ·subst d;rw[hb]at hj;cases hj;exact .inr ⟨rfl,by omega⟩
theorem Dn.next (h:Dn f o N ns k i){b:Nat}{l:List Ins}(hb:o[k]?=some b)(hl:f.blocks[b]?=some l)(hi:i=l.length):Dn f o N ns (k+1) 0:=by
 refine⟨h.len,h.par,fun j c r p m d g t=>h.blk j c r p m d g ?_⟩;rcases (by omega:j<k\/j=k) with q|q
 ·exact .inl q
 ·subst q;rw[hb]at m;cases m;rw[hl]at d;cases d;exact .inr ⟨rfl,by omega⟩
theorem Dn.says {tos:List Int}(h:Dn f o N ns o.length 0)(hl:tos.length=f.blocks.length)(hto:∀t:Int,0<=t->t<f.blocks.length->Ref.at0 tos t=Ref.toOf o t):Ref.Says f o ns tos:=by
 refine⟨hl,hto,fun v hv=>?_⟩;unfold Ref.at0;rcases hv with ⟨r,g⟩|⟨j,b,q,l,x,d,m,p,rfl⟩
 ·rw[Ref.num_param g,vA,h.par v.toNat (by omega)];show ((v.toNat:Nat):Int)=v;omega
 ·rw[vG,vA,h.blk j b l q d m (yC.1 p).1 (.inl (yC.1 d).1)];rfl
end
theorem xu {f:Fn}{o:List Nat}(hv:Ref.Val f)(hk:Ref.Keeps f o){k b:Nat}{l:List Ins}(hb:o[k]?=some b)(hl:f.blocks[b]?=some l):Ref.start f (o.take k)+l.length<=43:=by
 obtain⟨q,d,g⟩:=Ref.moved_blk hk.toOrd hb;rw[hl]at d;cases d;have j:=Ref.number_count (Ref.moved f o) g;rw[Ref.moved_number,vS]at j;have m:=hk.toOrd.total;obtain⟨s1,s2,s3,s4,s5⟩:=hv.size;have p:Ref.count (Ref.moved f o)=f.params.length+Ref.total (Ref.moved f o).blocks:=by unfold Ref.count Ref.number;rw[wg];rfl
 omega
theorem o_pos' {f:Fn}{o:List Nat}(hk:Ref.Keeps f o):1<=o.length:=Ref.o_pos hk.toOrd
end

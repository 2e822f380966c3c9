import Derived.Test.YtjkajidbdmbbaaaGreatN27
import Derived.Shelf.RegionOpenPlain
import Derived.Laws.CopyRow
import Derived.Lib.AppendZeros
import Derived.Lib.Overlaps
import Derived.Laws.Externs
import Derived.Shelf.Spec.SlicesInsertGrow
set_option linter.unusedSimpArgs false
set_option linter.unusedVariables false
set_option maxRecDepth 100000
set_option maxHeartbeats 16000000
open Go.Proofs.Tryz
namespace Go.Proofs.YtjkajidbdmbbaaaGreat
open Go.RowKit
variable {a:Act}{args:Array Value}{Q:Exit->Act->World->Prop}{l:List Oper}{L xs ys:List Value}{B b g i id n o vb:Nat}{S:Nat->Prop}{P:Program}{t t2:TypeId}{v:Value}{w:World}
theorem eM (w:World)(dT sT ty elem:TypeId)(g o dLen dCap:Nat)(a:Addr)(sLen sCap size:Nat)(cur:Array Value)(t:TypeId)(cs:List Value)
  (hu:P.underlying dT=some (.slice elem)) (hs:(P.info? elem).map (·.size)=some size)
  (hg:w.heap[g]?=some (.cells cur t (0,0))) (hn:cs.length=Nat.min sLen dLen*size)
  (hsrc:∀j v,cs[j]?=some v->w.cell? (a.add j)=some v) (hfit:o+cs.length<=cur.size) (h1:∀v∈cs,v.oneCell'=true) :
  (Builtin.copy_ #[dT,sT] ty #[.slice (some ⟨g,o,none⟩) dLen dCap,.slice (some a) sLen sCap]).run P w =
   .ok (goInt (Nat.min sLen dLen)) (w.setRow g (cur.toList.take o++cs++cur.toList.drop (o+cs.length)).toArray):=by
 have hl:=run_loadCells_list (P:=P) w a cs hsrc;have d:=run_storeCells_at P g o t cs 0 cur w hg (by simpa using hfit) h1
 cases hq:P.info? elem with
 | none=>simp[hq]at hs
 | some i =>
  have l:i.size=size:=by simpa[hq] using hs
  rw[hn]at hl;simp[Builtin.copy_,run_underlying hu,Builtin.lenOf,Builtin.firstCells,sizeOf,typeInfo,hq,l,hl,d]
theorem kB:(prog.info? 27).map (fun i=>(i.zero,i.size,i.bytes))=some (some (.agg #[.int .i64 0,.bool false,.int .i64 0,.int .u32 0,.slice none 0 0]),5,56):=by kernel_rfl
theorem vr (h:w.ownsRow B 27 5 v n xs)(hB:B<=w.heap.size)(hn:n<=1000)(hy:ys.length=5)(hyc:∀j u,ys[j]?=some u->w.cell? ⟨vb,j,none⟩=some u)(h1:∀y∈ys,y.oneCell'=true) :
  Calls prog 83 #[v,.int .i64 n,.slice (some ⟨vb,0,none⟩) 1 1] w fun e w'=>∃A c,e=.returned (.slice A (n+1) c)/\w'.ownsRow B 27 5 (.slice A (n+1) c) (n+1) (xs++ys)/\w.grownBy w' v.ownBlock/\∀k,(Value.slice A (n+1) c).ownBlock=some k->v.ownBlock=some k\/w.heap.size<=k:=by
 obtain⟨N,t,z,C,D⟩:=info_parts kB;obtain⟨A,c,rfl,X,-,R⟩:=dE h;have p:Src w (.slice (some ⟨vb,0,none⟩) 1 1) 5 1 ys:=⟨_,_,rfl,by omega,fun _=>⟨_,rfl,fun j x hx=>by rw[eC,Nat.zero_add];exact hyc j x hx⟩⟩
 have S:c<=9223372036854775807:=by
  rcases h.2 with ⟨e,-⟩|⟨g,H,I,e,-,-,-,Q,-⟩
  ·injection e with _ _ e;omega
  ·injection e with _ _ e;unfold maxLen at Q;omega
 have F:=dJ h;have M:=dJ p;have L:=dJ h1;clear h p hyc R h1 hy
 cases A with
 | none =>
  obtain rfl:n=0:=by
   rcases F.out.2 with ⟨-,e⟩|⟨g,H,I,e,-⟩
   ·exact e
   ·cases e
  go_enter func83, ntmps83
  go_wp2_with (at_builtin;refine dF rfl (.tmp 23) (.tmp 24) 31 rfl B 27 N _ 5 56 underlying31 t z C D rfl (by decide) _ 0 _ rfl F.out _ 1 ys rfl M.out L.out (by unfold maxLen;omega) (by omega) hB ?_;intro T w' l r d;obtain⟨E,G,rfl,K,-,J⟩:=dE l);go_ret;exact⟨E,G,rfl,l,r,fun k m=>d.elim (fun q=>.inl (q ▸ m)) (fun q=>.inr (by rw[q]at m;injection m with m;omega))⟩
 | some a =>
  obtain⟨U,W,O⟩:=a
  go_enter func83, ntmps83
  go_wp2_with (at_builtin;refine dF rfl (.tmp 23) (.tmp 24) 31 rfl B 27 N _ 5 56 underlying31 t z C D rfl (by decide) _ n _ rfl F.out _ 1 ys rfl M.out L.out (by unfold maxLen;omega) (by omega) hB ?_;intro T w' l r d;obtain⟨E,G,rfl,K,-,J⟩:=dE l);all_goals go_ret
  all_goals exact⟨E,G,rfl,l,r,fun k m=>d.elim (fun q=>.inl (q ▸ m)) (fun q=>.inr (by rw[q]at m;injection m with m;omega))⟩
theorem ez {cur row:Array Value}{fr:Nat × Nat}(h:w.heap[g]?=some (.cells cur t fr)):(w.setRow g row).heap[g]?=some (.cells row t fr):=setRow_heap w g cur row t fr h
theorem pF {k:Nat}{row:Array Value}(h:k≠g):(w.setRow g row).heap[k]?=w.heap[k]?:=by unfold World.setRow;simp[Array.getElem?_modify,Ne.symm h]
theorem jn (w:World)(g:Nat)(row:Array Value):(w.setRow g row).heap.size=w.heap.size:=by unfold World.setRow;simp
theorem FrS.setRow {a:World}(h:FrS S w a)(hg:S g)(row:Array Value):FrS S w (a.setRow g row) :=
 ⟨h.os,h.tape,h.output,by rw[jn];exact h.size,fun k j d=>(pF (fun e=>d (by rw[e];exact hg))).trans (h.block k j d)⟩
def dH (L:List Value)(o:Nat)(cs:List Value):List Value:=L.take o++cs++L.drop (o+cs.length)
theorem fS {cs:List Value}(h:o+cs.length<=L.length):(dH L o cs).length=L.length:=by unfold dH;simp;omega
theorem mc (hL:L.take (n*5)=xs)(hx:xs.length=n*5)(hi:i<=n)(hy:ys.length=5)(hLn:(n+1)*5<=L.length) :
  (dH (dH L ((i+1)*5) (xs.drop (i*5))) (i*5) ys).take ((n+1)*5)=xs.take (i*5)++ys++xs.drop (i*5):=by
 have m:(xs.drop (i*5)).length=(n-i)*5:=by rw[List.length_drop,hx];omega
 have j:(L.take ((i+1)*5)).length=(i+1)*5:=by rw[List.length_take];omega
 have d:(dH L ((i+1)*5) (xs.drop (i*5))).take (i*5)=xs.take (i*5):=by unfold dH;rw[List.append_assoc,List.take_append_of_le_length (by omega),List.take_take,<-hL,List.take_take];congr 1;omega
 have g:(dH L ((i+1)*5) (xs.drop (i*5))).drop (i*5+5)=xs.drop (i*5)++L.drop ((i+1)*5+(xs.drop (i*5)).length):=by unfold dH;rw[List.append_assoc,List.drop_append_of_le_length (by omega),show i*5+5=(i+1)*5 by omega];rw[yj (by omega)];rfl
 have l:(xs.take (i*5)).length=i*5:=by rw[List.length_take];omega
 show ((dH L ((i+1)*5) (xs.drop (i*5))).take (i*5)++ys++(dH L ((i+1)*5) (xs.drop (i*5))).drop (i*5+ys.length)).take ((n+1)*5)=_;rw[hy,d,g,<-List.append_assoc,List.take_append_of_le_length (by simp;omega)];exact yh (by simp;omega)
theorem nC (hL:L.take (i*5)=xs.take (i*5))(hx:xs.length=n*5)(hi:i<=n)(hy:ys.length=5)(hLn:(n+1)*5<=L.length) :
  (dH (dH L (i*5) ys) ((i+1)*5) (xs.drop (i*5))).take ((n+1)*5)=xs.take (i*5)++ys++xs.drop (i*5):=by
 have l:(xs.drop (i*5)).length=(n-i)*5:=by rw[List.length_drop,hx];omega
 have g:(L.take (i*5)).length=i*5:=by rw[List.length_take];omega
 have d:(dH L (i*5) ys).take ((i+1)*5)=xs.take (i*5)++ys:=by unfold dH;rw[List.take_append_of_le_length (by simp;omega),hL];exact yh (by rw[<-hL];simp;omega)
 have j:(xs.take (i*5)).length=i*5:=by rw[List.length_take];omega
 show ((dH L (i*5) ys).take ((i+1)*5)++xs.drop (i*5)++(dH L (i*5) ys).drop ((i+1)*5+(xs.drop (i*5)).length)).take ((n+1)*5)=_;rw[d,List.take_append_of_le_length (by simp;omega)];exact yh (by simp;omega)
theorem FrS.weak {S':Nat->Prop}{w':World}(h:FrS S w w')(hs:∀k,k<w.heap.size->S k->S' k):FrS S' w w':=⟨h.os,h.tape,h.output,h.size,fun k d g=>h.block k d fun q=>g (hs k d q)⟩
theorem tH (h:w.ownsRow B 27 5 (.slice (some ⟨b,0,none⟩) n n) n xs)(hB:B<=w.heap.size)(hn:n<=1000)(hi:i<n)(hy:ys.length=5)(hyc:∀j u,ys[j]?=some u->w.cell? ⟨vb,j,none⟩=some u)(h1:∀y∈ys,y.oneCell'=true)(hx1:∀y∈xs,y.oneCell'=true) :
  Calls prog 83 #[.slice (some ⟨b,0,none⟩) n n,.int .i64 i,.slice (some ⟨vb,0,none⟩) 1 1] w fun e w'=>∃A c,e=.returned (.slice A (n+1) c)/\w'.ownsRow B 27 5 (.slice A (n+1) c) (n+1) (xs.take (i*5)++ys++xs.drop (i*5))/\FrS (fun _=>False) w w'/\∀k,(Value.slice A (n+1) c).ownBlock=some k->w.heap.size<=k:=by
 obtain⟨iu,Z,ah,ac,ad⟩:=info_parts kB;have D:xs.length=n*5:=h.1
 have M:∀j v,xs[j]?=some v->w.cell? ⟨b,j,none⟩=some v:=fun j v l=>by have ar:=(xS.1 l).1;rw[<-l];obtain⟨b',e,-,-,hc⟩:=dx h rfl (by omega);injection e with e;injection e with e _ _;subst e;exact hc j (by omega)
 have af:b<w.heap.size:=(dt h b rfl).2;have ai:vb<w.heap.size:=World.block_lt_of_cell? w ⟨vb,0,none⟩ (hyc 0 ys[0] (xR (by omega)))
 have H:(Builtin.firstCells iu.size i (.slice (some ⟨b,0,none⟩) i n)).run prog w.drew=.ok (xs.take (i*5)).toArray w.drew:=by
  rw[ac]
  exact run_firstCells_some w.drew 5 i ⟨b,0,none⟩ i n (xs.take (i*5)) (by rw[List.length_take];omega) (fun j v l=>by
    rw[eC,Nat.zero_add]
    rw[yf]at l
    split at l
    · exact M j v l
    · cases l)
 have O:i+(n+1-i)=n+1:=by omega
 have aa:(n:Int)+1-(i:Int)=((n+1-i:Nat):Int):=by omega
 obtain⟨G,hG⟩:=xJ (grownCap w (n+1) n 27);obtain⟨d,g⟩:∃d:Array Value,(xs.take (i*5)).toArray++Builtin.zeroCells #[.int .i64 0,.bool false,.int .i64 0,.int .u32 0,.slice none 0 0] (n+1-i)++Builtin.zeroCells #[.int .i64 0,.bool false,.int .i64 0,.int .u32 0,.slice none 0 0] (G-(n+1))=d:=⟨_,rfl⟩;obtain⟨F,r⟩:=xJ (w.drew.alloc (.cells d 27))
 have ag:∀ty,(Builtin.append_ #[31,3] ty #[.slice (some ⟨b,0,none⟩) i n,.int .i64 ((n:Int)+1-(i:Int))]).run prog w=.ok (.slice (some ⟨w.heap.size,0,none⟩) (n+1) G) F:=fun ty=>by have:=Lib.run_append_grow_zeros (P:=prog) w 31 3 ty 27 iu _ .i64 .i64 underlying31 underlying3 Z ah (some ⟨b,0,none⟩) i n (xs.take (i*5)) H (n+1-i) (by omega) (by omega) (by omega) (by omega) (by rw[ad];omega) (by rw[ad,O];exact growslice_fits (by omega) (by omega));rw[O,hG]at this;rw[aa,<-r,<-g];exact this
 have ae:n+1<=G:=by rw[<-hG];exact grownCap_ge w _ _ _
 have an:G<=9223372036854775807:=by have:=grownCap_le_maxLen w (n+1) n 27 (by unfold maxLen;omega);rw[hG]at this;unfold maxLen at this;omega
 have p:d.size=G*5:=by rw[<-g];simp[Builtin.zeroCells];rw[Nat.min_eq_left (by omega)];omega
 have K:F.heap[w.heap.size]?=some (.cells d 27 (0,0)):=by rw[<-r];exact heap_alloc_new w.drew _
 have R:Gr w F:=by rw[<-r];exact((yO w).drew).alloc _
 have W:d.toList.take (i*5)=xs.take (i*5):=by rw[<-g];rw[Array.toList_append,Array.toList_append,List.append_assoc];rw[List.take_append_of_le_length (by simp;omega)];exact yh (by simp;omega)
 have ab:((prog).info? 27).map (·.size)=some 5:=by rw[Z];simp[ac]
 have m1:Nat.min 1 (n+1-i)=1:=by show min _ _=_;omega
 have m2:Nat.min (n-i) (n-i)=n-i:=Nat.min_self _;obtain⟨m,t⟩:=xJ (F.setRow w.heap.size (dH d.toList (i*5) ys).toArray);have L:m.heap[w.heap.size]?=some (.cells (dH d.toList (i*5) ys).toArray 27 (0,0)):=by rw[<-t];exact ez K
 have J:FrS (fun k=>k=w.heap.size) F m:=by rw[<-t];exact(FrS.refl (fun k=>k=w.heap.size) F).setRow rfl _
 have X:∀ty I,(Builtin.copy_ #[31,31] ty #[.slice (some ⟨w.heap.size,i*5,none⟩) (n+1-i) I,.slice (some ⟨vb,0,none⟩) 1 1]).run prog F=.ok (goInt 1) m:=fun ty I=>by have:=eM (P:=prog) F 31 31 ty 27 w.heap.size (i*5) (n+1-i) I ⟨vb,0,none⟩ 1 1 5 d 27 ys underlying31 ab K (by rw[hy,m1]) (fun j v l=>by rw[eC,Nat.zero_add,R.cell _ _ ai];exact hyc j v l) (by rw[hy,p];omega) h1;rw[this,<-t,m1];rfl
 obtain⟨Q,z⟩:=xJ (m.drew.setRow w.heap.size (dH (dH d.toList (i*5) ys) ((i+1)*5) (xs.drop (i*5))).toArray);have C:(dH d.toList (i*5) ys).length=G*5:=by rw[fS (by rw[hy];simp;omega)];simp[p]
 have U:Q.heap[w.heap.size]?=some (.cells (dH (dH d.toList (i*5) ys) ((i+1)*5) (xs.drop (i*5))).toArray 27 (0,0)):=by rw[<-z];exact ez (w:=m.drew) L
 have T:FrS (fun k=>k=w.heap.size) m Q:=by rw[<-z];exact(FrS.refl (fun k=>k=w.heap.size) m).drew.setRow rfl _
 have N:(xs.drop (i*5)).length=(n-i)*5:=by rw[List.length_drop,D];omega
 have Y:∀ty I sc,(Builtin.copy_ #[31,31] ty #[.slice (some ⟨w.heap.size,(i+1)*5,none⟩) (n-i) I,.slice (some ⟨b,i*5,none⟩) (n-i) sc]).run prog m.drew=.ok (goInt (n-i:Nat)) Q:=fun ty I sc=>by
  have:=eM (P:=prog) m.drew 31 31 ty 27 w.heap.size ((i+1)*5) (n-i) I ⟨b,i*5,none⟩ (n-i) sc 5 (dH d.toList (i*5) ys).toArray 27 (xs.drop (i*5)) underlying31 ab L (by rw[N,m2]) (fun j v l=>by
    rw[eC]
    rw[List.getElem?_drop]at l
    have h2:=M _ v l
    rw[<-h2,<-R.cell _ _ af]
    exact yE (J.block b (by have:=R.size;omega) (by omega))) (by simp[C,D];omega) (fun y aj=>hx1 y (List.mem_of_mem_drop aj))
  rw[this,<-z,m2];rfl
 have E:Hid (Q.ownsRow B 27 5 (.slice (some ⟨w.heap.size,0,none⟩) (n+1) G) (n+1) (xs.take (i*5)++ys++xs.drop (i*5))/\FrS (fun _=>False) w Q):=by
  refine⟨⟨by simp[D,hy];omega,.inr ⟨w.heap.size,G,_,rfl,hB,U,ae,by unfold maxLen;omega,?_,?_⟩⟩,?_⟩
  ·simp only[List.size_toArray];rw[fS (by rw[N,C];omega),C]
  ·simp only;exact nC W D (by omega) hy (by simp[p];omega)
  ·have hf:=((FrS.of_gr (S:=fun k=>w.heap.size<=k) R).trans (J.mono fun k hk=>by omega)).trans (T.mono fun k hk=>by omega);exact hf.weak fun k hk q=>by omega
 have ax:¬((i:Int)=(n:Int)):=by omega
 have ay:(n:Int)<(n:Int)+1:=by omega
 have aq:i<=n:=by omega
 have ao:(i:Int)<=(n:Int):=by omega
 have am:¬(G=i):=by omega
 have ak:¬(G=i+1):=by omega
 have ap:¬(n=i):=by omega
 have al:(i:Int)+1<=(n:Int)+1:=by omega
 clear h M H aa g r hG p K W L J U T C N t z R hyc h1 hx1 O
 go_enter func83, ntmps83
 go_wp2_with (first|(at_builtin;refine Lib.wpList_append_run _ rfl _ _ _ _ rfl _ _ rfl rfl _ _ (ag _) ?_)|(at_builtin;refine wpList_copy_runI _ rfl _ _ 31 31 rfl _ _ rfl rfl (X _ _) ?_))
 have mixed:(prog).follows .mixedOrders=true:=by kernel_rfl
 have au:IntKind.i64.wrap ((i:Int)+1)=(i:Int)+1:=IntWalk.i64_in _ (by omega);have av:(0:Int)<=(i:Int)+1:=by omega
 have aw:((i:Int)+1).toNat=i+1:=by omega
 go_region_law_o (refine step_copy_runI rfl (.tmp 50) (.tmp 53) 31 31 rfl (.slice (some ⟨w.heap.size,(i+1)*5,none⟩) (n-i) (G-(i+1))) (.slice (some ⟨b,i*5,none⟩) (n-i) (n-i)) (by simp[Act.eval,Act.put]) (by simp[Act.eval,Act.put]) (Y _ _ _) ?_)
 all_goals go_wp2
 all_goals go_ret
 all_goals exact⟨_,_,rfl,E.out.1,E.out.2,fun k hk=>by simp[Value.ownBlock]at hk;omega⟩
theorem rl {c:Nat}(h:w.ownsRow B 27 5 (.slice (some ⟨b,0,none⟩) n c) n xs)(hB:B<=w.heap.size)(hn:n<=1000)(hi:i<n)(hc:n+1<=c)(hy:ys.length=5)(hyb:w.heap[vb]?=some (.cells ys.toArray t2 (0,0)))(hvb:vb≠b)(h1:∀y∈ys,y.oneCell'=true)(hx1:∀y∈xs,y.oneCell'=true) :
  Calls prog 83 #[.slice (some ⟨b,0,none⟩) n c,.int .i64 i,.slice (some ⟨vb,0,none⟩) 1 1] w fun e w'=>e=.returned (.slice (some ⟨b,0,none⟩) (n+1) c)/\w'.ownsRow B 27 5 (.slice (some ⟨b,0,none⟩) (n+1) c) (n+1) (xs.take (i*5)++ys++xs.drop (i*5))/\FrS (fun k=>k=b) w w':=by
 obtain⟨iu,T,ai,W,aj⟩:=info_parts kB;have H:xs.length=n*5:=h.1
 obtain⟨d,l,F,q,G⟩:∃d:Array Value,w.heap[b]?=some (.cells d 27 (0,0))/\c<=maxLen/\d.size=c*5/\d.toList.take (n*5)=xs:=by
  rcases h.2 with ⟨e,-⟩|⟨g,ac,d,e,-,q1,-,q2,q3,q4⟩
  ·cases e
  ·injection e with J _ e2;injection J with J;injection J with J _ _;subst J;subst e2;exact⟨d,q1,q2,q3,q4⟩
 have S:B<=b:=(dt h b rfl).1;have O:((prog).info? 27).map (·.size)=some 5:=by rw[T];simp[W]
 have m1:Nat.min 1 (n+1-i)=1:=by show min _ _=_;omega
 have m2:Nat.min (n+1-i) (n-i)=n-i:=by show min _ _=_;omega
 have r:(xs.drop (i*5)).length=(n-i)*5:=by rw[List.length_drop,H];omega
 have Q:∀j u,ys[j]?=some u->w.cell? ⟨vb,j,none⟩=some u:=fun j u hj=>by rw[yo _ _ _ _ _ _ hyb];simpa using hj
 obtain⟨A,m⟩:=xJ (w.drew.setRow b (dH d.toList ((i+1)*5) (xs.drop (i*5))).toArray);have E:A.heap[b]?=some (.cells (dH d.toList ((i+1)*5) (xs.drop (i*5))).toArray 27 (0,0)):=by rw[<-m];exact ez (w:=w.drew) l
 have D:FrS (fun k=>k=b) w A:=by rw[<-m];exact(FrS.refl (fun k=>k=b) w).drew.setRow rfl _
 have t:(dH d.toList ((i+1)*5) (xs.drop (i*5))).length=c*5:=by rw[fS (by rw[r];simp;omega)];simp[q]
 have N:∀ty C Y,(Builtin.copy_ #[31,31] ty #[.slice (some ⟨b,(i+1)*5,none⟩) (n-i) C,.slice (some ⟨b,i*5,none⟩) (n+1-i) Y]).run prog w.drew=.ok (goInt (n-i:Nat)) A:=fun ty C Y=>by
  have:=eM (P:=prog) w.drew 31 31 ty 27 b ((i+1)*5) (n-i) C ⟨b,i*5,none⟩ (n+1-i) Y 5 d 27 (xs.drop (i*5)) underlying31 O l (by rw[r,m2]) (fun j v hj=>by
    rw[eC]
    rw[List.getElem?_drop,<-G,yf]at hj
    show w.cell? _=_
    rw[yo _ _ _ _ _ _ l]
    split at hj
    · simpa using hj
    · cases hj) (by rw[r,q];omega) (fun y X=>hx1 y (List.mem_of_mem_drop X))
  rw[this,<-m,m2];rfl
 obtain⟨I,p⟩:=xJ (A.setRow b (dH (dH d.toList ((i+1)*5) (xs.drop (i*5))) (i*5) ys).toArray);have L:I.heap[b]?=some (.cells (dH (dH d.toList ((i+1)*5) (xs.drop (i*5))) (i*5) ys).toArray 27 (0,0)):=by rw[<-p];exact ez E
 have K:FrS (fun k=>k=b) A I:=by rw[<-p];exact(FrS.refl (fun k=>k=b) A).setRow rfl _
 have M:∀ty C,(Builtin.copy_ #[31,31] ty #[.slice (some ⟨b,i*5,none⟩) (n+1-i) C,.slice (some ⟨vb,0,none⟩) 1 1]).run prog A=.ok (goInt 1) I:=fun ty C=>by
  have:=eM (P:=prog) A 31 31 ty 27 b (i*5) (n+1-i) C ⟨vb,0,none⟩ 1 1 5 _ 27 ys underlying31 O E (by rw[hy,m1]) (fun j v hj=>by
    rw[eC,Nat.zero_add,<-Q j v hj]
    exact yE (D.block vb (cY hyb) hvb)) (by rw[hy];simp[t];omega) h1
  rw[this,<-p,m1];rfl
 have z:Hid (I.ownsRow B 27 5 (.slice (some ⟨b,0,none⟩) (n+1) c) (n+1) (xs.take (i*5)++ys++xs.drop (i*5))/\FrS (fun k=>k=b) w I):=by
  refine⟨⟨by simp[H,hy];omega,.inr ⟨b,c,_,rfl,S,L,hc,F,?_,?_⟩⟩,D.trans K⟩
  ·simp only[List.size_toArray];rw[fS (by rw[hy,t];omega),t]
  ·simp only;exact mc G H (by omega) hy (by simp[q];omega)
 have U:∀lb R,(callFunc 125 #[.slice (some ⟨vb,0,none⟩) 1 1,.slice (some ⟨b,(i+1)*5,none⟩) lb R]).run prog w=.ok (.value (.bool false)) w:=fun lb R=>by
  rw[run_callFunc_extern (P:=prog) (f:=125) rfl (by kernel_rfl) (by kernel_rfl) (by kernel_rfl) (e:=Extern.SlicesOverlaps.overlaps #[31,31] #[4]) (by kernel_rfl),
    Lib.run_overlaps_apart w 31 4 27 underlying31 5 (fun w=>by kernel_rfl) ⟨vb,0,none⟩ ⟨b,(i+1)*5,none⟩ 1 1 lb R hvb t2 27 ys.toArray.size d.size (by unfold World.shape?;simp[hyb]) (by unfold World.shape?;simp[l]) (by omega) (yp _ _ _ _ _ hyb) (yp _ _ _ _ _ hyb)]
  rfl
 have an:¬((i:Int)=(n:Int)):=by omega
 have ao:¬((c:Int)<(n:Int)+1):=by omega
 have ah:i<=n:=by omega
 have ad:(i:Int)<=(n:Int):=by omega
 have ae:(n:Int)+1<=(c:Int):=by omega
 have af:(i:Int)<=(n:Int)+1:=by omega
 have ag:¬(c=i):=by omega
 have aa:¬(c=i+1):=by omega
 have ab:(i:Int)+1<=(n:Int)+1:=by omega
 have Z:c<=9223372036854775807:=by unfold maxLen at F;omega
 have mixed:(prog).follows .mixedOrders=true:=by kernel_rfl
 have ak:IntKind.i64.wrap ((i:Int)+1)=(i:Int)+1:=IntWalk.i64_in _ (by omega);have al:(0:Int)<=(i:Int)+1:=by omega
 have am:((i:Int)+1).toNat=i+1:=by omega
 clear h l q G E L D K t r m p hyb Q h1 hx1 F
 go_enter func83, ntmps83
 go_wp2_with (simp only[U])
 go_region_law_o (refine step_copy_runI rfl (.tmp 73) (.tmp 76) 31 31 rfl (.slice (some ⟨b,(i+1)*5,none⟩) (n-i) (c-(i+1))) (.slice (some ⟨b,i*5,none⟩) (n+1-i) (c-i)) (by simp[Act.eval,Act.put]) (by simp[Act.eval,Act.put]) (N _ _ _) ?_)
 all_goals go_wp2_with (at_builtin;refine wpList_copy_runI _ rfl _ _ 31 31 rfl _ _ rfl rfl (M _ _) ?_)
 all_goals go_ret
 all_goals exact⟨rfl,z.out.1,z.out.2⟩
theorem dc (hm:P.follows .mixedOrders=true)(hB:Region.lexB .any l.toArray=true)
  (h:wpQuiet P l.toArray (fun w'=>∃u:GrW w,w'=u.val) (fun a'=>∀w',(∃u:GrW w,w'=u.val)->Q .normal a' w') l a):(Code.region id l.toArray true).wp P Q a w :=
 wp_region_quiet (C:=fun w'=>∃u:GrW w,w'=u.val) hm hB ⟨⟨w.drew,(yO w).drew⟩,rfl⟩ (by simpa using h)
instance (w:World):Nonempty (GrW w):=⟨⟨w,yO w⟩⟩
theorem dk {f:FuncId}(u:GrW w)
  (h:Calls P f args u.val (RG v u.val)):Calls P f args u.val fun e w''=>e=.returned v/\∃u':GrW w,w''=u'.val :=
 h.mono fun _ w' ⟨d,g⟩=>⟨d,⟨w',u.gr.trans g⟩,rfl⟩

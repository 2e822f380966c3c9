/- Parts. -/
import Derived.Test.YtjkajidbdmbbaaaGreatI45
import Derived.Test.YtjkajidbdmbbaaaGreatI44
set_option linter.unusedSimpArgs false
set_option linter.unusedVariables false
set_option maxRecDepth 100000
set_option maxHeartbeats 16000000
open Go.Proofs.Tryz
namespace Go.Proofs.YtjkajidbdmbbaaaGreat
section
open Go.RowKit
theorem lo {z:Int}(h0:-9223372036854775808<=z)(h1:z<=9223372036854775807):IntKind.i64.wrap z=z:=IntWalk.i64_in z ⟨h0,h1⟩
theorem gN {n:Int}(h0:0<=n)(h1:n<=32):wrap64 (2 ^ n.toNat)=Wd.sz n:=by
 unfold Wd.sz
 have d:(2:Int) ^ n.toNat<=2 ^ 32:=by
  have:=Nat.pow_le_pow_right (n:=2) (by decide) (show n.toNat<=32 by omega)
  exact_mod_cast this
 have g:(0:Int)<2 ^ n.toNat:=Int.pow_pos (by decide);have j:(2:Int) ^ 32=4294967296:=by decide
 generalize (2:Int) ^ n.toNat=y at *;unfold wrap64;omega
namespace Rf
theorem bitsOf_snoc (l:List Int)(z:Int):bitsOf (l++[z])=bitsOf l+z:=by
 induction l with
 | nil=>simp[bitsOf]
 | cons a r ih=>rw[List.cons_append,bitsOf,bitsOf,ih];omega
theorem bitsOf_le {l:List Int}(h:∀z∈l,0<=z/\z<=32):0<=bitsOf l/\bitsOf l<=32*l.length:=by
 induction l with
 | nil=>simp[bitsOf]
 | cons a r ih =>
  have:=ih fun z hz=>h z (by simp[hz]);have:=h a (by simp);rw[bitsOf,List.length_cons];omega
theorem valid_widths {f:Fn}(h:Ref.validate f=0):f.params.length<=3/\(∀z∈f.params,0<=z/\z<=32)/\f.slots.length<=2/\∀z∈f.slots,0<=z/\z<=8:=by
 have hv:=(Ref.val_iff f).1 h;refine⟨hv.size.1,fun z d=>?_,hv.size.2.1,fun z d=>?_⟩
 ·have:=tu.1 hv.head.1 z d;unfold Ref.isWidth at this;simp only[tD,decide_eq_true_eq]at this;omega
 ·have:=tu.1 hv.head.2 z d;unfold Ref.isSlot at this;simp only[tD,decide_eq_true_eq]at this;omega
end Rf
theorem hH {w:World}{vf:Value}{f:Fn}(hf:FnAt w.heap.size w vf f)(hl:f.params.length<=3)(hz:∀z∈f.params,0<=z/\z<=32) :
  Calls prog 43 #[vf] w (RG (.int .i64 (Rf.bitsOf f.params)) w):=by
 obtain⟨vp,vs,vb,rfl,L,q,I⟩:=hf;obtain⟨D,H,rfl,Q,R,r⟩:=L;obtain⟨E,cs,rfl,-⟩:=q;obtain⟨C,G,rfl,-⟩:=I;have u:=dJ hz;have F:Hid (Gr w (w.alloc (.cells #[.slice D f.params.length H,.int .i64 f.ret,.slice E f.slots.length cs,.slice C f.blocks.length G] 36))):=(tX w).alloc _;clear hz
 go_enter func43, ntmps43
 go_wp2
 go_loopw [3,5,9] (fun s _ i wr=>∃k:Nat,k<=f.params.length/\i=.int .i64 k/\s=.int .i64 (Rf.bitsOf (f.params.take k))/\Hid (Gr w wr)) (fun _ _ i _=>f.params.length-(intOf i).toNat)
 case atStart=>exact⟨0,tR _,rfl,rfl,F.out⟩
 case round =>
  obtain⟨k,O,rfl,rfl,j⟩:=hrel;by_cases p:k<f.params.length
  ·obtain⟨b,off,rfl,g,A⟩:=r (by omega);obtain⟨z,hz⟩:∃z,f.params[k]?=some z:=⟨_,sQ p⟩;have N:=(j.out.cell _ _ g).trans (A k z hz);have d:=Rf.bitsOf_le (l:=f.params.take k) fun y hy=>u.out y (List.mem_of_mem_take hy);have M:=u.out z (sS hz);have t:Hid (Rf.bitsOf (f.params.take (k+1))=Rf.bitsOf (f.params.take k)+z):=by show _=_;rw[List.take_add_one,hz];exact Rf.bitsOf_snoc _ _
   have m:(f.params.take k).length<=3:=by simp;omega
   obtain⟨n,B⟩:=xJ (Rf.bitsOf (f.params.take k));rw[B]at d t ⊢;have K:n<=96:=by omega
   have J:=d.1;clear d B hz A r m;go_wp2;go_roundw;case rel=>exact⟨k+1,by omega,by go_num,by rw[t.out],j⟩
   case measure=>simp[intOf];omega
  ·obtain rfl:k=f.params.length:=by omega
   clear r;go_wp2;go_ret;exact⟨dc (by rw[tE]),j.out⟩
def dw (f:Fn):Value:=.tuple #[.int .i64 (Rf.inputsN f),.int .i64 (Rf.inputsE f)]
theorem eO {w:World}{vf:Value}{f:Fn}(hf:FnAt w.heap.size w vf f)(hn:fH f):Calls prog 22 #[vf] w (RG (dw f) w):=by
 have C:Hid (∀u,Gr w u->Calls prog 42 #[vf] u (RG (.int .i64 (Ref.validate f)) u)):=fun u q=>fB vf f u (hf.gr q) hn
 have D:Hid (Ref.validate f=0->∀u,Gr w u->Calls prog 43 #[vf] u (RG (.int .i64 (Rf.bitsOf f.params)) u)):=fun h u q=>by obtain⟨N,O,-⟩:=Rf.valid_widths h;exact hH (hf.gr q) N O
 have E:Hid (Ref.validate f=0->0<=Rf.bitsOf f.params/\Rf.bitsOf f.params<=96):=fun h=>by obtain⟨N,O,-⟩:=Rf.valid_widths h;have:=Rf.bitsOf_le O;omega
 have A:Hid (dw f=.tuple #[.int .i64 (if (if Ref.validate f≠0 then Ref.validate f else if 8<Rf.bitsOf f.params then 3 else 0)=0 then Wd.sz (Rf.bitsOf f.params) else 0),.int .i64 (if Ref.validate f≠0 then Ref.validate f else if 8<Rf.bitsOf f.params then 3 else 0)]):=by show _=_;rfl
 obtain⟨vp,vs,vb,rfl,hp,U,Q⟩:=hf;obtain⟨Ap,cp,rfl,-⟩:=hp;obtain⟨As,cs,rfl,-⟩:=U;obtain⟨Ab,cb,rfl,-⟩:=Q;obtain⟨W,hW⟩:=xJ (w.alloc (.cells #[.slice Ap f.params.length cp,.int .i64 f.ret,.slice As f.slots.length cs,.slice Ab f.blocks.length cb] 36));have m:Hid (Gr w W):=by show Gr _ _;rw[<-hW];exact(tX w).alloc _
 have K:Hid (∀u,Gr W u->FBox w.heap.size u f Ap As Ab cp cs cb):=fun u g=>by rw[<-hW]at g;exact FBox.new g rfl
 obtain⟨X,Y,Z,k3⟩:=K.out W (tX W);obtain⟨V,hV⟩:=xJ (Ref.validate f);obtain⟨n,I⟩:=xJ (Rf.bitsOf f.params);rw[hV]at C D A E;rw[I]at D A E;clear hV I hn;by_cases G:V=0
 ·subst G;have M:=dJ (D.out rfl);have Q:=E.out rfl;obtain⟨R,aa⟩:=Q;have d:Hid (dw f=.tuple #[.int .i64 (if (if 8<n then (3:Int) else 0)=0 then Wd.sz n else 0),.int .i64 (if 8<n then 3 else 0)]):=by show _=_;rw[A.out];simp
  clear D E A;by_cases y:32<n
  ·have p:Hid (dw f=.tuple #[.int .i64 0,.int .i64 3]):=by show _=_;rw[d.out];simp[show (8:Int)<n by omega]
   go_enter func22, ntmps22
   go_wp2_with (first|(go_at_call 42;refine(C.out _ m.out).mono ?_;rintro e t ⟨rfl,r⟩;have l:Hid (Gr W t):=r;clear r;obtain⟨X,Y,Z,k3⟩:=K.out t l.out)|(go_at_call 43;refine(M.out _ (m.out.trans l.out)).mono ?_;rintro e w2 ⟨rfl,F⟩))
   go_ret2;exact⟨dk (by rw[p.out];first|rfl|(rw[<-L];rfl)),m.out.trans (l.out.trans F)⟩
  ·have S:n<=32:=by omega
   have L:=gN R S;have J:=Wd.sz_pos n
   have j:(256<Wd.sz n)↔8<n:=by
    have e:(256:Int)=Wd.sz 8:=by decide
    unfold Wd.sz at *;have e2:(256:Int)=2 ^ 8:=by decide
    rw[e2];constructor
    ·intro h;apply Classical.byContradiction;intro q;have:(2:Int) ^ n.toNat<=2 ^ 8:=by exact_mod_cast Nat.pow_le_pow_right (n:=2) (by decide) (show n.toNat<=8 by omega)
     omega
    ·intro h
     exact_mod_cast Nat.pow_lt_pow_right (a:=2) (by decide) (show 8<n.toNat by omega)
   obtain⟨s,z⟩:=xJ (Wd.sz n);rw[z]at L d j J;by_cases B:8<n
   ·have H:256<s:=j.2 B;have p:Hid (dw f=.tuple #[.int .i64 0,.int .i64 3]):=by show _=_;rw[d.out];simp[B]
    have T:¬32<n:=y;clear j z d B
    go_enter func22, ntmps22
    go_wp2_with (first|(go_at_call 42;refine(C.out _ m.out).mono ?_;rintro e t ⟨rfl,r⟩;have l:Hid (Gr W t):=r;clear r;obtain⟨X,Y,Z,k3⟩:=K.out t l.out)|(go_at_call 43;refine(M.out _ (m.out.trans l.out)).mono ?_;rintro e w2 ⟨rfl,F⟩))
    go_ret2;exact⟨dk (by rw[p.out];first|rfl|(rw[<-L];rfl)),m.out.trans (l.out.trans F)⟩
   ·have H:¬256<s:=fun q=>B (j.1 q);have p:Hid (dw f=.tuple #[.int .i64 s,.int .i64 0]):=by show _=_;rw[d.out];simp[B]
    have T:¬32<n:=y;clear j z d B
    go_enter func22, ntmps22
    go_wp2_with (first|(go_at_call 42;refine(C.out _ m.out).mono ?_;rintro e t ⟨rfl,r⟩;have l:Hid (Gr W t):=r;clear r;obtain⟨X,Y,Z,k3⟩:=K.out t l.out)|(go_at_call 43;refine(M.out _ (m.out.trans l.out)).mono ?_;rintro e w2 ⟨rfl,F⟩))
    go_ret2;exact⟨dk (by rw[p.out];first|rfl|(rw[<-L];rfl)),m.out.trans (l.out.trans F)⟩
 ·have N:(V != 0)=true:=by simpa using G
  have d:Hid (dw f=.tuple #[.int .i64 0,.int .i64 V]):=by show _=_;rw[A.out,tB G,tC G]
  clear D E A G
  go_enter func22, ntmps22
  go_wp2_with (go_at_call 42;refine(C.out _ m.out).mono ?_;rintro e t ⟨rfl,r⟩);go_ret2;exact⟨dk d.out.symm,m.out.trans r⟩
theorem FrS.weak {S S':Nat->Prop}{w w':World}(h:FrS S w w')(hs:∀k,k<w.heap.size->S k->S' k):FrS S' w w':=⟨h.os,h.tape,h.output,h.size,fun k d g=>h.block k d fun q=>g (hs k d q)⟩
theorem pz {B vb n i b:Nat}{xs ys:List Value}{w:World}(h:w.ownsRow B 27 5 (.slice (some ⟨b,0,none⟩) n n) n xs)(hB:B<=w.heap.size)(hn:n<=1000)(hi:i<n)(hy:ys.length=5)(hyc:∀j u,ys[j]?=some u->w.cell? ⟨vb,j,none⟩=some u)(h1:∀y∈ys,y.oneCell'=true)(hx1:∀y∈xs,y.oneCell'=true) :
  Calls prog 83 #[.slice (some ⟨b,0,none⟩) n n,.int .i64 i,.slice (some ⟨vb,0,none⟩) 1 1] w fun e w'=>∃A c,e=.returned (.slice A (n+1) c)/\w'.ownsRow B 27 5 (.slice A (n+1) c) (n+1) (xs.take (i*5)++ys++xs.drop (i*5))/\FrS (fun _=>False) w w'/\∀k,(Value.slice A (n+1) c).ownBlock=some k->w.heap.size<=k:=by
 obtain⟨iu,Z,ah,ac,ad⟩:=info_parts iJ;have D:xs.length=n*5:=h.1
 have M:∀j v,xs[j]?=some v->w.cell? ⟨b,j,none⟩=some v:=fun j v l=>by have ar:=(sR.1 l).1;rw[<-l];obtain⟨b',e,-,-,hc⟩:=dq h rfl (by omega);injection e with e;injection e with e _ _;subst e;exact hc j (by omega)
 have af:b<w.heap.size:=(dv h b rfl).2;have ai:vb<w.heap.size:=World.block_lt_of_cell? w ⟨vb,0,none⟩ (hyc 0 ys[0] (sQ (by omega)))
 have H:(Builtin.firstCells iu.size i (.slice (some ⟨b,0,none⟩) i n)).run prog w.drew=.ok (xs.take (i*5)).toArray w.drew:=by
  rw[ac]
  exact run_firstCells_some w.drew 5 i ⟨b,0,none⟩ i n (xs.take (i*5)) (by rw[List.length_take];omega) (fun j v l=>by
    rw[dZ,Nat.zero_add]
    rw[tk]at l
    split at l
    · exact M j v l
    · cases l)
 have O:i+(n+1-i)=n+1:=by omega
 have aa:(n:Int)+1-(i:Int)=((n+1-i:Nat):Int):=by omega
 obtain⟨G,hG⟩:=xJ (grownCap w (n+1) n 27);obtain⟨d,g⟩:∃d:Array Value,(xs.take (i*5)).toArray++Builtin.zeroCells #[.int .i64 0,.bool false,.int .i64 0,.int .u32 0,.slice none 0 0] (n+1-i)++Builtin.zeroCells #[.int .i64 0,.bool false,.int .i64 0,.int .u32 0,.slice none 0 0] (G-(n+1))=d:=⟨_,rfl⟩;obtain⟨F,r⟩:=xJ (w.drew.alloc (.cells d 27))
 have ag:∀ty,(Builtin.append_ #[31,3] ty #[.slice (some ⟨b,0,none⟩) i n,.int .i64 ((n:Int)+1-(i:Int))]).run prog w=.ok (.slice (some ⟨w.heap.size,0,none⟩) (n+1) G) F:=fun ty=>by have:=Lib.run_append_grow_zeros (P:=prog) w 31 3 ty 27 iu _ .i64 .i64 underlying31 underlying3 Z ah (some ⟨b,0,none⟩) i n (xs.take (i*5)) H (n+1-i) (by omega) (by omega) (by omega) (by omega) (by rw[ad];omega) (by rw[ad,O];exact growslice_fits (by omega) (by omega));rw[O,hG]at this;rw[aa,<-r,<-g];exact this
 have ae:n+1<=G:=by rw[<-hG];exact grownCap_ge w _ _ _
 have an:G<=9223372036854775807:=by have:=grownCap_le_maxLen w (n+1) n 27 (by unfold maxLen;omega);rw[hG]at this;unfold maxLen at this;omega
 have p:d.size=G*5:=by rw[<-g];simp[Builtin.zeroCells];rw[Nat.min_eq_left (by omega)];omega
 have K:F.heap[w.heap.size]?=some (.cells d 27 (0,0)):=by rw[<-r];exact heap_alloc_new w.drew _
 have R:Gr w F:=by rw[<-r];exact((tX w).drew).alloc _
 have W:d.toList.take (i*5)=xs.take (i*5):=by rw[<-g];rw[Array.toList_append,Array.toList_append,List.append_assoc];rw[List.take_append_of_le_length (by simp;omega)];exact tm (by simp;omega)
 have ab:((prog).info? 27).map (·.size)=some 5:=by rw[Z];simp[ac]
 have m1:Nat.min 1 (n+1-i)=1:=by show min _ _=_;omega
 have m2:Nat.min (n-i) (n-i)=n-i:=Nat.min_self _;obtain⟨m,t⟩:=xJ (F.setRow w.heap.size (dz d.toList (i*5) ys).toArray);have L:m.heap[w.heap.size]?=some (.cells (dz d.toList (i*5) ys).toArray 27 (0,0)):=by rw[<-t];exact eA K
 have J:FrS (fun k=>k=w.heap.size) F m:=by rw[<-t];exact(FrS.refl (fun k=>k=w.heap.size) F).setRow rfl _
 have X:∀ty I,(Builtin.copy_ #[31,31] ty #[.slice (some ⟨w.heap.size,i*5,none⟩) (n+1-i) I,.slice (some ⟨vb,0,none⟩) 1 1]).run prog F=.ok (goInt 1) m:=fun ty I=>by have:=dU (P:=prog) F 31 31 ty 27 w.heap.size (i*5) (n+1-i) I ⟨vb,0,none⟩ 1 1 5 d 27 ys underlying31 ab K (by rw[hy,m1]) (fun j v l=>by rw[dZ,Nat.zero_add,R.cell _ _ ai];exact hyc j v l) (by rw[hy,p];omega) h1;rw[this,<-t,m1];rfl
 obtain⟨Q,z⟩:=xJ (m.drew.setRow w.heap.size (dz (dz d.toList (i*5) ys) ((i+1)*5) (xs.drop (i*5))).toArray);have C:(dz d.toList (i*5) ys).length=G*5:=by rw[eR (by rw[hy];simp;omega)];simp[p]
 have U:Q.heap[w.heap.size]?=some (.cells (dz (dz d.toList (i*5) ys) ((i+1)*5) (xs.drop (i*5))).toArray 27 (0,0)):=by rw[<-z];exact eA (w:=m.drew) L
 have T:FrS (fun k=>k=w.heap.size) m Q:=by rw[<-z];exact(FrS.refl (fun k=>k=w.heap.size) m).drew.setRow rfl _
 have N:(xs.drop (i*5)).length=(n-i)*5:=by rw[List.length_drop,D];omega
 have Y:∀ty I sc,(Builtin.copy_ #[31,31] ty #[.slice (some ⟨w.heap.size,(i+1)*5,none⟩) (n-i) I,.slice (some ⟨b,i*5,none⟩) (n-i) sc]).run prog m.drew=.ok (goInt (n-i:Nat)) Q:=fun ty I sc=>by
  have:=dU (P:=prog) m.drew 31 31 ty 27 w.heap.size ((i+1)*5) (n-i) I ⟨b,i*5,none⟩ (n-i) sc 5 (dz d.toList (i*5) ys).toArray 27 (xs.drop (i*5)) underlying31 ab L (by rw[N,m2]) (fun j v l=>by
    rw[dZ]
    rw[List.getElem?_drop]at l
    have h2:=M _ v l
    rw[<-h2,<-R.cell _ _ af]
    exact tN (J.block b (by have:=R.size;omega) (by omega))) (by simp[C,D];omega) (fun y aj=>hx1 y (List.mem_of_mem_drop aj))
  rw[this,<-z,m2];rfl
 have E:Hid (Q.ownsRow B 27 5 (.slice (some ⟨w.heap.size,0,none⟩) (n+1) G) (n+1) (xs.take (i*5)++ys++xs.drop (i*5))/\FrS (fun _=>False) w Q):=by
  refine⟨⟨by simp[D,hy];omega,.inr ⟨w.heap.size,G,_,rfl,hB,U,ae,by unfold maxLen;omega,?_,?_⟩⟩,?_⟩
  ·simp only[List.size_toArray];rw[eR (by rw[N,C];omega),C]
  ·simp only;exact lf W D (by omega) hy (by simp[p];omega)
  ·have hf:=((FrS.of_gr (S:=fun k=>w.heap.size<=k) R).trans (J.mono fun k hk=>by omega)).trans (T.mono fun k hk=>by omega);exact hf.weak fun k hk q=>by omega
 have ax:¬((i:Int)=(n:Int)):=by omega
 have ay:(n:Int)<(n:Int)+1:=by omega
 have aq:i<=n:=by omega
 have ao:(i:Int)<=(n:Int):=by omega
 have am:¬(G=i):=by omega
 have ak:¬(G=i+1):=by omega
 have ap:¬(n=i):=by omega
 have al:(i:Int)+1<=(n:Int)+1:=by omega
 clear h M H aa g r hG p K W L J U T C N t z R hyc h1 hx1 O
 go_enter func83, ntmps83
 go_wp2_with (first|(at_builtin;refine Lib.wpList_append_run _ rfl _ _ _ _ rfl _ _ rfl rfl _ _ (ag _) ?_)|(at_builtin;refine wpList_copy_runI _ rfl _ _ 31 31 rfl _ _ rfl rfl (X _ _) ?_))
 have mixed:(prog).follows .mixedOrders=true:=by kernel_rfl
 have au:IntKind.i64.wrap ((i:Int)+1)=(i:Int)+1:=IntWalk.i64_in _ (by omega);have av:(0:Int)<=(i:Int)+1:=by omega
 have aw:((i:Int)+1).toNat=i+1:=by omega
 go_region_law_o (refine step_copy_runI rfl (.tmp 50) (.tmp 53) 31 31 rfl (.slice (some ⟨w.heap.size,(i+1)*5,none⟩) (n-i) (G-(i+1))) (.slice (some ⟨b,i*5,none⟩) (n-i) (n-i)) (by simp[Act.eval,Act.put]) (by simp[Act.eval,Act.put]) (Y _ _ _) ?_)
 all_goals go_wp2
 all_goals go_ret
 all_goals exact⟨_,_,rfl,E.out.1,E.out.2,fun k hk=>by simp[Value.ownBlock]at hk;omega⟩
theorem nJ {B vb n i b c:Nat}{xs ys:List Value}{w:World}(h:w.ownsRow B 27 5 (.slice (some ⟨b,0,none⟩) n c) n xs)(hB:B<=w.heap.size)(hn:n<=1000)(hi:i<n)(hc:n+1<=c)(hy:ys.length=5){t2:TypeId}(hyb:w.heap[vb]?=some (.cells ys.toArray t2 (0,0)))(hvb:vb≠b)(h1:∀y∈ys,y.oneCell'=true)(hx1:∀y∈xs,y.oneCell'=true) :
  Calls prog 83 #[.slice (some ⟨b,0,none⟩) n c,.int .i64 i,.slice (some ⟨vb,0,none⟩) 1 1] w fun e w'=>e=.returned (.slice (some ⟨b,0,none⟩) (n+1) c)/\w'.ownsRow B 27 5 (.slice (some ⟨b,0,none⟩) (n+1) c) (n+1) (xs.take (i*5)++ys++xs.drop (i*5))/\FrS (fun k=>k=b) w w':=by
 obtain⟨iu,T,ai,W,aj⟩:=info_parts iJ;have H:xs.length=n*5:=h.1
 obtain⟨d,l,F,q,G⟩:∃d:Array Value,w.heap[b]?=some (.cells d 27 (0,0))/\c<=maxLen/\d.size=c*5/\d.toList.take (n*5)=xs:=by
  rcases h.2 with ⟨e,-⟩|⟨g,ac,d,e,-,q1,-,q2,q3,q4⟩
  ·cases e
  ·injection e with J _ e2;injection J with J;injection J with J _ _;subst J;subst e2;exact⟨d,q1,q2,q3,q4⟩
 have S:B<=b:=(dv h b rfl).1;have O:((prog).info? 27).map (·.size)=some 5:=by rw[T];simp[W]
 have m1:Nat.min 1 (n+1-i)=1:=by show min _ _=_;omega
 have m2:Nat.min (n+1-i) (n-i)=n-i:=by show min _ _=_;omega
 have r:(xs.drop (i*5)).length=(n-i)*5:=by rw[List.length_drop,H];omega
 have Q:∀j u,ys[j]?=some u->w.cell? ⟨vb,j,none⟩=some u:=fun j u hj=>by rw[tv _ _ _ _ _ _ hyb];simpa using hj
 obtain⟨A,m⟩:=xJ (w.drew.setRow b (dz d.toList ((i+1)*5) (xs.drop (i*5))).toArray);have E:A.heap[b]?=some (.cells (dz d.toList ((i+1)*5) (xs.drop (i*5))).toArray 27 (0,0)):=by rw[<-m];exact eA (w:=w.drew) l
 have D:FrS (fun k=>k=b) w A:=by rw[<-m];exact(FrS.refl (fun k=>k=b) w).drew.setRow rfl _
 have t:(dz d.toList ((i+1)*5) (xs.drop (i*5))).length=c*5:=by rw[eR (by rw[r];simp;omega)];simp[q]
 have N:∀ty C Y,(Builtin.copy_ #[31,31] ty #[.slice (some ⟨b,(i+1)*5,none⟩) (n-i) C,.slice (some ⟨b,i*5,none⟩) (n+1-i) Y]).run prog w.drew=.ok (goInt (n-i:Nat)) A:=fun ty C Y=>by
  have:=dU (P:=prog) w.drew 31 31 ty 27 b ((i+1)*5) (n-i) C ⟨b,i*5,none⟩ (n+1-i) Y 5 d 27 (xs.drop (i*5)) underlying31 O l (by rw[r,m2]) (fun j v hj=>by
    rw[dZ]
    rw[List.getElem?_drop,<-G,tk]at hj
    show w.cell? _=_
    rw[tv _ _ _ _ _ _ l]
    split at hj
    · simpa using hj
    · cases hj) (by rw[r,q];omega) (fun y X=>hx1 y (List.mem_of_mem_drop X))
  rw[this,<-m,m2];rfl
 obtain⟨I,p⟩:=xJ (A.setRow b (dz (dz d.toList ((i+1)*5) (xs.drop (i*5))) (i*5) ys).toArray);have L:I.heap[b]?=some (.cells (dz (dz d.toList ((i+1)*5) (xs.drop (i*5))) (i*5) ys).toArray 27 (0,0)):=by rw[<-p];exact eA E
 have K:FrS (fun k=>k=b) A I:=by rw[<-p];exact(FrS.refl (fun k=>k=b) A).setRow rfl _
 have M:∀ty C,(Builtin.copy_ #[31,31] ty #[.slice (some ⟨b,i*5,none⟩) (n+1-i) C,.slice (some ⟨vb,0,none⟩) 1 1]).run prog A=.ok (goInt 1) I:=fun ty C=>by
  have:=dU (P:=prog) A 31 31 ty 27 b (i*5) (n+1-i) C ⟨vb,0,none⟩ 1 1 5 _ 27 ys underlying31 O E (by rw[hy,m1]) (fun j v hj=>by
    rw[dZ,Nat.zero_add,<-Q j v hj]
    exact tN (D.block vb (cX hyb) hvb)) (by rw[hy];simp[t];omega) h1
  rw[this,<-p,m1];rfl
 have z:Hid (I.ownsRow B 27 5 (.slice (some ⟨b,0,none⟩) (n+1) c) (n+1) (xs.take (i*5)++ys++xs.drop (i*5))/\FrS (fun k=>k=b) w I):=by
  refine⟨⟨by simp[H,hy];omega,.inr ⟨b,c,_,rfl,S,L,hc,F,?_,?_⟩⟩,D.trans K⟩
  ·simp only[List.size_toArray];rw[eR (by rw[hy,t];omega),t]
  ·simp only;exact jQ G H (by omega) hy (by simp[q];omega)
 have U:∀lb R,(callFunc 125 #[.slice (some ⟨vb,0,none⟩) 1 1,.slice (some ⟨b,(i+1)*5,none⟩) lb R]).run prog w=.ok (.value (.bool false)) w:=fun lb R=>by
  rw[run_callFunc_extern (P:=prog) (f:=125) rfl (by kernel_rfl) (by kernel_rfl) (by kernel_rfl) (e:=Extern.SlicesOverlaps.overlaps #[31,31] #[4]) (by kernel_rfl),
    Lib.run_overlaps_apart w 31 4 27 underlying31 5 (fun w=>by kernel_rfl) ⟨vb,0,none⟩ ⟨b,(i+1)*5,none⟩ 1 1 lb R hvb t2 27 ys.toArray.size d.size (by unfold World.shape?;simp[hyb]) (by unfold World.shape?;simp[l]) (by omega) (tx _ _ _ _ _ hyb) (tx _ _ _ _ _ hyb)]
  rfl
 have an:¬((i:Int)=(n:Int)):=by omega
 have ao:¬((c:Int)<(n:Int)+1):=by omega
 have ah:i<=n:=by omega
 have ad:(i:Int)<=(n:Int):=by omega
 have ae:(n:Int)+1<=(c:Int):=by omega
 have af:(i:Int)<=(n:Int)+1:=by omega
 have ag:¬(c=i):=by omega
 have aa:¬(c=i+1):=by omega
 have ab:(i:Int)+1<=(n:Int)+1:=by omega
 have Z:c<=9223372036854775807:=by unfold maxLen at F;omega
 have mixed:(prog).follows .mixedOrders=true:=by kernel_rfl
 have ak:IntKind.i64.wrap ((i:Int)+1)=(i:Int)+1:=IntWalk.i64_in _ (by omega);have al:(0:Int)<=(i:Int)+1:=by omega
 have am:((i:Int)+1).toNat=i+1:=by omega
 clear h l q G E L D K t r m p hyb Q h1 hx1 F
 go_enter func83, ntmps83
 go_wp2_with (simp only[U])
 go_region_law_o (refine step_copy_runI rfl (.tmp 73) (.tmp 76) 31 31 rfl (.slice (some ⟨b,(i+1)*5,none⟩) (n-i) (c-(i+1))) (.slice (some ⟨b,i*5,none⟩) (n+1-i) (c-i)) (by simp[Act.eval,Act.put]) (by simp[Act.eval,Act.put]) (N _ _ _) ?_)
 all_goals go_wp2_with (at_builtin;refine wpList_copy_runI _ rfl _ _ 31 31 rfl _ _ rfl rfl (M _ _) ?_)
 all_goals go_ret
 all_goals exact⟨rfl,z.out.1,z.out.2⟩
theorem qP {B vb n i:Nat}{v:Value}{xs ys:List Value}{w:World}(h:w.ownsRow B 27 5 v n xs)(hB:B<=w.heap.size)(hn:n<=1000)(hi:i<=n)(hy:ys.length=5){t2:TypeId}(hyb:w.heap[vb]?=some (.cells ys.toArray t2 (0,0)))(hvb:v.ownBlock≠some vb)(h1:∀y∈ys,y.oneCell'=true)(hx1:∀y∈xs,y.oneCell'=true) :
  Calls prog 83 #[v,.int .i64 i,.slice (some ⟨vb,0,none⟩) 1 1] w fun e w'=>∃A c,e=.returned (.slice A (n+1) c)/\w'.ownsRow B 27 5 (.slice A (n+1) c) (n+1) (xs.take (i*5)++ys++xs.drop (i*5))/\FrS (fun k=>v.ownBlock=some k) w w'/\∀k,(Value.slice A (n+1) c).ownBlock=some k->v.ownBlock=some k\/w.heap.size<=k:=by
 have l:∀j u,ys[j]?=some u->w.cell? ⟨vb,j,none⟩=some u:=fun j u hj=>by rw[tv _ _ _ _ _ _ hyb];simpa using hj
 have I:xs.length=n*5:=h.1;rcases tF i n with g|H
 ·obtain⟨A,c,rfl,J,G,p⟩:=dE h
  cases A with
  | none=>have:=p rfl;omega
  | some a =>
   obtain⟨D,E,a3,a4⟩:=G a rfl;obtain⟨b,o,s⟩:=a;dsimp only at D E a3 a4;subst a3;subst a4;rcases tF n c with q|q
   ·refine(nJ h hB hn g q hy hyb (fun e=>hvb (by rw[e];rfl)) h1 hx1).mono fun e w' r=>⟨_,_,r.1,r.2.1,r.2.2.mono fun k d=>by rw[d];rfl,fun k d=>.inl d⟩
   ·obtain rfl:c=n:=by omega
    exact(pz h hB hn g hy l h1 hx1).mono fun e w' ⟨A,F,m,t,z,C⟩=>⟨A,F,m,t,z.mono fun k d=>d.elim,fun k d=>.inr (C k d)⟩
 ·obtain rfl:i=n:=by omega
  refine(qQ h hB hn hy l h1).mono fun e w' ⟨A,c,m,t,z,C⟩=>⟨A,c,m,?_,(FrS.refl _ w).grown z (fun k d=>.inl d),C⟩;rw[tm (by omega),tq (by omega),List.append_nil];exact t
def qw (o:Rn.Out)(vm:Value):List Value:=[.int .i64 o.kind,.bool o.ret.p,.int .i64 o.ret.s,.int .u32 o.ret.n,vm]
def dY:List Rn.Out->List Value->List Value
 | o::os,v::vs=>qw o v++dY os vs
 | _,_=>[]
theorem gv:∀(os:List Rn.Out)(vs:List Value)(j t:Nat)(o:Rn.Out)(v:Value),os[j]?=some o->vs[j]?=some v->t<5->(dY os vs)[j*5+t]?=(qw o v)[t]?
 | [],_,j,t,o,v,h,_,_=>by simp at h
 | _::_,[],j,t,o,v,_,h,_=>by simp at h
 | o'::os,v'::vs,0,t,o,v,h1,h2,ht=>by
  simp at h1 h2;subst h1;subst h2
  rw[dY,Nat.zero_mul,Nat.zero_add,te (by show t<5;exact ht)]
 | o'::os,v'::vs,j+1,t,o,v,h1,h2,ht=>by
  rw[dY,tj (by show 5<=_;omega)]
  rw[show (j+1)*5+t-(qw o' v').length=j*5+t by show _-5=_;omega]
  exact gv os vs j t o v (by simpa using h1) (by simpa using h2) ht
theorem fQ:∀(os os':List Rn.Out)(vs vs':List Value),vs.length=os.length->dY (os++os') (vs++vs')=dY os vs++dY os' vs'
 | [],os',[],vs',_=>rfl
 | o::os,os',v::vs,vs',h=>by
  have:=fQ os os' vs vs' (by simpa using h)
  simp only[List.cons_append,dY,this,List.append_assoc]
 | [],_,_::_,_,h=>by simp at h
 | _::_,_,[],_,h=>by simp at h
def RowsIn (D:Nat->Prop)(w:World)(vm:Value)(ns:List Nat):Prop :=
 ∃(A:Option Addr)(c:Nat),vm=.slice A ns.length c/\ns.length<=c/\(0<ns.length->∃(Bm:Nat)(row:Array Value),A=some ⟨Bm,0,none⟩/\D Bm/\w.heap[Bm]?=some (.cells row 33 (0,0)) /\
   ∀(j n:Nat),ns[j]?=some n->∃(b cp:Nat)(cur:Array Value),row[j]?=some (.slice (some ⟨b,0,none⟩) n cp)/\n<=cp/\D b/\w.heap[b]?=some (.cells cur 3 (0,0))/\∀i,i<n->∃z,cur[i]?=some (.int .i64 z))
theorem RowsIn.more {D D':Nat->Prop}{w:World}{vm:Value}{ns:List Nat}(h:RowsIn D w vm ns)(hD:∀k,D k->D' k):RowsIn D' w vm ns:=by obtain⟨A,c,e,t,r⟩:=h;refine⟨A,c,e,t,fun y=>?_⟩;obtain⟨Bm,row,l,m,p,q⟩:=r y;refine⟨Bm,row,l,hD _ m,p,fun j n u=>?_⟩;obtain⟨b,g,d,z,B,C,E⟩:=q j n u;exact⟨b,g,d,z,B,hD _ C,E⟩
def Keeps (D:Nat->Prop)(w:World)(vm:Value)(mem:List (List Int)):Prop:=(∀k,D k->k<w.heap.size)/\(∃A c,vm=.slice A mem.length c)/\∀w':World,(∀k,D k->w'.heap[k]?=w.heap[k]?)->w.heap.size<=w'.heap.size->TabAt w'.heap.size w' vm mem/\RowsIn D w' vm (mem.map List.length)
theorem Keeps.frs {D S:Nat->Prop}{w w':World}{vm:Value}{mem:List (List Int)}(h:Keeps D w vm mem)(hF:FrS S w w')(hS:∀k,D k->¬S k):Keeps D w' vm mem :=
 ⟨fun k d=>by have:=h.1 k d;have:=hF.size;omega,h.2.1,fun j g l=>h.2.2 j (fun k d=>(g k d).trans (hF.block k (h.1 k d) (hS k d))) (by have:=hF.size;omega)⟩
theorem Keeps.tab {D:Nat->Prop}{w:World}{vm:Value}{mem:List (List Int)}(h:Keeps D w vm mem):TabAt w.heap.size w vm mem:=(h.2.2 w (fun _ _=>rfl) (tS _)).1
theorem Keeps.rows {D:Nat->Prop}{w:World}{vm:Value}{mem:List (List Int)}(h:Keeps D w vm mem):RowsIn D w vm (mem.map List.length):=(h.2.2 w (fun _ _=>rfl) (tS _)).2
theorem Keeps.gr {D:Nat->Prop}{w w':World}{vm:Value}{mem:List (List Int)}(h:Keeps D w vm mem)(g:Gr w w'):Keeps D w' vm mem:=h.frs (FrS.of_gr (S:=fun _=>False) g) (fun _ _ q=>q)
theorem Keeps.more {D D':Nat->Prop}{w:World}{vm:Value}{mem:List (List Int)}(h:Keeps D w vm mem)(hD:∀k,D k->D' k)(hD':∀k,D' k->k<w.heap.size):Keeps D' w vm mem:=⟨hD',h.2.1,fun w' d g=>have q:=h.2.2 w' (fun k hk=>d k (hD k hk)) g;⟨q.1,q.2.more hD⟩⟩
structure OutsAt (D:Nat->Prop)(B:Nat)(w:World)(v:Value)(outs:List Rn.Out)(vms:List Value):Prop where
 len:vms.length=outs.length
 own:w.ownsRow B 27 5 v outs.length (dY outs vms)
 at_:∀(j:Nat)(o:Rn.Out)(vm:Value),outs[j]?=some o->vms[j]?=some vm->Keeps D w vm o.mem
theorem nC (os:List Rn.Out)(vs:List Value)(h:∀v∈vs,v.oneCell'=true):∀y∈dY os vs,y.oneCell'=true:=by
 induction os generalizing vs with
 | nil=>intro y d;cases vs<;>simp[dY]at d
 | cons o os ih =>
  cases vs with
  | nil=>intro y d;simp[dY]at d
  | cons v vs =>
   intro y d;rw[dY,tI]at d;rcases d with d|d
   ·simp[qw]at d;rcases d with rfl|rfl|rfl|rfl|rfl
    ·rfl
    ·rfl
    ·rfl
    ·rfl
    ·exact h _ (by simp)
   ·exact ih vs (fun u g=>h u (by simp[g])) y d
theorem OutsAt.one {D:Nat->Prop}{B:Nat}{w:World}{v:Value}{outs:List Rn.Out}{vms:List Value}(h:OutsAt D B w v outs vms):∀y∈dY outs vms,y.oneCell'=true :=
 nC _ _ fun u m=>by obtain⟨j,g⟩:=List.getElem?_of_mem m;have d:=(sR.1 g).1;obtain⟨o,l⟩:∃o,outs[j]?=some o:=⟨_,sQ (by rw[<-h.len];exact d)⟩;obtain⟨-,⟨A,c,rfl⟩,-⟩:=h.at_ j o u l g;rfl
theorem ie:∀(os:List Rn.Out)(vs:List Value)(i:Nat),vs.length=os.length->(dY os vs).take (i*5)=dY (os.take i) (vs.take i)/\(dY os vs).drop (i*5)=dY (os.drop i) (vs.drop i)
 | [],[],i,_=>by simp[dY]
 | o::os,v::vs,0,_=>by simp[dY]
 | o::os,v::vs,i+1,h=>by
  have:=ie os vs i (by simpa using h)
  rw[show (i+1)*5=(qw o v).length+i*5 by show _=5+_;omega];constructor
  ·rw[dY,List.take_length_add_append,this.1];rfl
  ·rw[dY,List.drop_length_add_append,this.2];rfl
 | [],_::_,_,h=>by simp at h
 | _::_,[],_,h=>by simp at h
theorem px {D:Nat->Prop}{B i vb:Nat}{w:World}{v:Value}{outs:List Rn.Out}{vms:List Value}(h:OutsAt D B w v outs vms)(hB:B<=w.heap.size)(hn:outs.length<=1000)(hi:i<=outs.length){x:Rn.Out}{vx:Value}(hx:Keeps D w vx x.mem){t2:TypeId}(hyb:w.heap[vb]?=some (.cells (qw x vx).toArray t2 (0,0)))(hvb:v.ownBlock≠some vb)(hD:∀k,D k->v.ownBlock≠some k) :
  Calls prog 83 #[v,.int .i64 i,.slice (some ⟨vb,0,none⟩) 1 1] w fun e w'=>∃A c,e=.returned (.slice A (outs.length+1) c)/\OutsAt D B w' (.slice A (outs.length+1) c) (outs.take i++x::outs.drop i) (vms.take i++vx::vms.drop i)/\FrS (fun k=>v.ownBlock=some k) w w'/\∀k,(Value.slice A (outs.length+1) c).ownBlock=some k->v.ownBlock=some k\/w.heap.size<=k:=by
 have p:vx.oneCell'=true:=by obtain⟨-,⟨A,c,rfl⟩,-⟩:=hx;rfl
 refine(qP (i:=i) h.own hB hn hi rfl hyb hvb (by
   intro y r
   simp[qw]at r
   rcases r with rfl|rfl|rfl|rfl|rfl
   · rfl
   · rfl
   · rfl
   · rfl
   · exact p) h.one).mono fun e w' ⟨A,c,z,t,u,H⟩=>⟨A,c,z,⟨?_,?_,?_⟩,u,H⟩
 ·simp[h.len]
 ·have C:(outs.take i++x::outs.drop i).length=outs.length+1:=by simp;omega
  rw[C];obtain⟨F,G⟩:=ie outs vms i h.len;rw[fQ _ _ _ _ (by simp[h.len])];rw[F,G,List.append_assoc]at t;exact t
 ·intro j o vm d g
  have l:Keeps D w vm o.mem:=by
   rcases Nat.lt_trichotomy j i with q|q|q
   ·rw[te (by simp;omega),tk,tB q]at d;rw[te (by simp[h.len];omega),tk,tB q]at g;exact h.at_ j o vm d g
   ·subst q;rw[tj (by simp;omega)]at d;rw[tj (by simp;omega)]at g;simp[Nat.min_eq_left hi]at d;simp[h.len,Nat.min_eq_left hi]at g;subst d;subst g;exact hx
   ·rw[tj (by simp;omega)]at d;rw[tj (by simp;omega)]at g;obtain⟨m,E⟩:∃m,j=i+1+m:=⟨j-i-1,by omega⟩;subst E;rw[show i+1+m-(outs.take i).length=m+1 by simp[Nat.min_eq_left hi];omega]at d;rw[show i+1+m-(vms.take i).length=m+1 by simp[h.len,Nat.min_eq_left hi];omega]at g;simp at d g;exact h.at_ (i+m) o vm d g
  exact l.frs u (fun k l=>hD k l)
theorem lx {B:Nat}{e:TypeId}{w:World}{A:Option Addr}{n c k:Nat}{xs:List Value}(h:Own1 B e w (.slice A n c) xs)(hk:k<=xs.length):Own1 B e w (.slice A k c) (xs.take k):=by
 obtain⟨E,t⟩:=h;have j:(xs.take k).length=k:=by rw[List.length_take];omega
 refine⟨by omega,?_⟩;rcases t with ⟨hv,D⟩|⟨g,q,d,hv,u,y,F,z,C,p⟩
 ·injection hv with l r m;subst l;subst m;exact .inl ⟨by rw[show k=0 by omega],by rw[j];omega⟩
 ·injection hv with l r m;subst l;subst m;refine .inr ⟨g,c,d,by rw[j],u,y,by rw[j];omega,z,C,?_⟩;rw[Nat.mul_one]at p;have e:xs.take k=(d.toList.take xs.length).take k:=by rw[p]
  rw[j,Nat.mul_one,e,List.take_take,Nat.min_eq_left hk]
theorem rl {B:Nat}{e:TypeId}{w:World}{b n c j:Nat}{xs:List Value}(h:Own1 B e w (.slice (some ⟨b,0,none⟩) n c) xs)(hj:j<xs.length)(y:Value):Own1 B e (w.setCell ⟨b,j,none⟩ y) (.slice (some ⟨b,0,none⟩) n c) (xs.set j y):=by
 obtain⟨F,u⟩:=h;refine⟨by rw[List.length_set];omega,?_⟩;rcases u with ⟨hv,E⟩|⟨g,q,d,hv,z,A,G,C,D,p⟩
 ·cases hv
 ·injection hv with l r t;have m:b=g:=by injection l with l;injection l
  subst m;subst t;refine .inr ⟨b,c,d.setIfInBounds j y,by rw[List.length_set,<-r],z,cY y A,by rw[List.length_set];omega,C,by simpa using D,?_⟩;rw[Nat.mul_one]at p;have e:xs.set j y=(d.toList.take xs.length).set j y:=by rw[p]
  rw[List.length_set,Nat.mul_one,Array.toList_setIfInBounds,e,List.take_set]
namespace Rn
theorem bump_take (p:List Int)(k:Nat)(h:k<p.length):(p.set k (p.getD k 0+1)).take (k+1)=bump p k:=by
 unfold bump;rw[List.take_set,List.take_add_one,sQ h];have e:(p.take k).length=k:=by rw[List.length_take];omega
 rw[List.set_append];rw[tC (by omega),e,Nat.sub_self];rfl
end Rn
theorem lW {B Bg:Nat}{w:World}{p ws:List Int}{u:Nat}{vp vw:Value}(h:ExAt B Bg w p ws u vp vw)(hl:ws.length=p.length)(hp:p.length<=1000000)(hw:∀z∈ws,Wd.Wid z)(hr:∀z∈p,0<=z/\z<4294967296)
  {R:Option Nat} (hR:Rn.nextK p ws p.length=R) :
  Calls prog 84 #[.pointer (some ⟨Bg,0,none⟩)] w fun e w'=>e=.returned (.bool R.isSome)/\FrS (exO Bg vp vw) w w' /\
   (R=none->ExAt B Bg w' p ws 0 vp vw)/\∀k,R=some k->∃vp' vw',ExAt B Bg w' (Rn.bump p k) (ws.take (k+1)) 0 vp' vw'/\∀k,exO Bg vp' vw' k->exO Bg vp vw k:=by
 have ao:=h.pth.form;obtain⟨A,c,rfl⟩:=ao;have ar:=h.wid.form;obtain⟨A',D,rfl⟩:=ar;rw[tt]at h;rw[tt]at h;rw[tt,tt];have f2:w.frozen? ⟨Bg,2,none⟩=false:=tx _ _ 2 _ _ h.st;have g2:w.cell? ⟨Bg,2,none⟩=some (.int .i64 u):=tv _ _ 2 _ _ _ h.st;obtain⟨W,hW⟩:=xJ (w.setCell ⟨Bg,2,none⟩ (.int .i64 0));have hF:FrS (fun k=>k=Bg) w W:=by rw[<-hW];exact(FrS.refl (fun k=>k=Bg) w).setCell (p:=⟨Bg,2,none⟩) rfl _
 have h0:ExAt B Bg W p ws 0 (.slice A p.length c) (.slice A' ws.length D):=by rw[<-hW];exact h.used 0
 have c0:W.cell? ⟨Bg,0,none⟩=some (.slice A p.length c):=tv _ _ 0 _ _ _ h0.st;have c1:W.cell? ⟨Bg,1,none⟩=some (.slice A' p.length D):=by rw[<-hl];exact tv _ _ 1 _ _ _ h0.st
 have l:=dJ h0;have HF:=dJ hF;have HL:=dJ hl;have ac:=dJ hw;have ab:=dJ hr;have HR:=dJ hR;clear h h0 hF hl hw hr hR
 go_enter func84, ntmps84
 go_wp2
 go_loop [3] (fun s3=>∃(n:Nat)(z:Int),n<=p.length/\z+1=n/\s3=.int .i64 z/\Hid (Rn.nextK p ws n=R)) (fun s3=>(intOf s3+1).toNat)
 case atStart=>exact⟨p.length,(p.length:Int)-1,tS _,by omega,rfl,HR⟩
 case round =>
  obtain⟨n,z,hn,hz,rfl,t⟩:=hrel;rcases Nat.eq_zero_or_pos n with rfl|aB
  ·obtain rfl:z=-1:=by omega
   have H:Hid (R=none):=by show _=_;rw[<-t.out];rfl
   clear t;go_wp2;go_ret;refine⟨cZ (by rw[H.out];rfl),HF.out.mono fun k d=>.inl d,fun _=>l.out,fun k d=>by rw[H.out]at d;cases d⟩
  ·obtain⟨j,rfl⟩:∃j,n=j+1:=⟨n-1,by omega⟩;obtain rfl:z=(j:Int):=by omega
   clear hz;obtain⟨x,M⟩:∃x,p[j]?=some x:=⟨_,sQ (by omega)⟩;obtain⟨y,hy⟩:∃y,ws[j]?=some y:=⟨_,sQ (by have:=HL.out;omega)⟩;obtain⟨b,cc,ev,q1,-,q3,q4,q5⟩:=ga l.out.pth (j:=j) (x:=.int .u32 x) (by rw[td,M];rfl);injection ev with af ag ah;clear ag;subst af;subst ah;obtain⟨r,aC,ae,aa,-,aF,aG,aH⟩:=ga l.out.wid (j:=j) (x:=.int .i64 y) (by rw[td,hy];rfl);injection ae with Q S T;clear S;subst Q;subst T;rw[tt]at q1 aa;have L:=ac.out y (sS hy);obtain⟨x0,x1⟩:=ab.out x (sS M);have CM:=dJ (jh y W L);have aq:=Wd.sz_32 L;have ap:=Wd.sz_pos y;have X:j<p.length:=by omega
   have ai:b≠Bg:=by obtain⟨-,-,ad,q⟩:=de l.out.pth (k:=b) rfl;exact df q l.out.st (by decide)
   have aD:b≠r:=by obtain⟨-,-,ad,q⟩:=de l.out.pth (k:=b) rfl;obtain⟨-,-,O,q'⟩:=de l.out.wid (k:=r) rfl;exact df q q' (by decide)
   have E:Rn.nextK p ws (j+1)=if x+1<Wd.sz y then some j else Rn.nextK p ws j:=by rw[Rn.nextK,sU,M,sU,hy];rfl
   have J:=dJ E;have aj:=HL.out;have aE:p.length<=D:=by omega
   have gx:p.getD j 0=x:=by rw[sU,M];rfl
   obtain⟨m,Z⟩:=xJ (Wd.sz y);rw[Z]at CM aq ap J;have HY:=dJ hy;have HX:=dJ M;have HG:=dJ gx;clear M hy L E Z gx aj aa;by_cases Y:x+1<m
   ·have H:Hid (R=some j):=by show _=_;rw[<-t.out,J.out,tB Y]
    have au:x<m-1:=by omega
    have f0:W.frozen? ⟨Bg,0,none⟩=false:=tx _ _ 0 _ _ l.out.st;have f1:W.frozen? ⟨Bg,1,none⟩=false:=tx _ _ 1 _ _ l.out.st;obtain⟨C,U⟩:=xJ (W.setCell ⟨b,j,none⟩ (.int .u32 (x+1)));have G:FrS (fun k=>k=b) W C:=by rw[<-U];exact(FrS.refl (fun k=>k=b) W).setCell (p:=⟨b,j,none⟩) rfl _
    have g:C.heap[Bg]?=some (.cells #[.slice (some ⟨b,0,none⟩) p.length c,.slice (some ⟨r,0,none⟩) ws.length D,.int .i64 (0:Nat)] 101 (0,0)):=(G.block Bg (cX l.out.st) (fun e=>ai e.symm)).trans l.out.st;have av:=dJ g
    have I:Own1 B 22 C (.slice (some ⟨b,0,none⟩) p.length c) ((p.set j (x+1)).map (Value.int .u32)):=by rw[<-U,List.map_set];have:=rl l.out.pth (j:=j) (by rw[tt];exact X) (.int .u32 (x+1));exact this
    have F:Own1 B 3 C (.slice (some ⟨r,0,none⟩) ws.length D) (ws.map (Value.int .i64)):=dh l.out.wid fun k d=>G.block k (de l.out.wid d).2.1 (fun e=>by
      have:k=r:=by simp[Value.ownBlock]at d;exact d.symm
      omega)
    have d0:C.cell? ⟨Bg,0,none⟩=some (.slice (some ⟨b,0,none⟩) p.length c):=tv _ _ 0 _ _ _ g;have d1:C.cell? ⟨Bg,1,none⟩=some (.slice (some ⟨r,0,none⟩) p.length D):=by rw[<-HL.out];exact tv _ _ 1 _ _ _ g
    have z0:C.frozen? ⟨Bg,0,none⟩=false:=tx _ _ 0 _ _ g;have z1:C.frozen? ⟨Bg,1,none⟩=false:=tx _ _ 1 _ _ g;have am:j+1<=ws.length:=by have:=HL.out;omega
    have aw:(j:Int)+1<=(c:Int):=by omega
    have ax:(j:Int)+1<=(D:Int):=by omega
    have ay:IntKind.i64.wrap ((j:Int)+1)=(j:Int)+1:=IntWalk.i64_in _ (by omega);have az:(0:Int)<=(j:Int)+1:=by omega
    have aA:((j:Int)+1).toNat=j+1:=by omega
    have N:Hid (∀w9,w9=((C.setCell ⟨Bg,0,none⟩ (.slice (some ⟨b,0,none⟩) (j+1) c)).setCell ⟨Bg,1,none⟩ (.slice (some ⟨r,0,none⟩) (j+1) D)).drew ->
        FrS (exO Bg (.slice (some ⟨b,0,none⟩) p.length c) (.slice (some ⟨r,0,none⟩) ws.length D)) w w9/\∃vp' vw',ExAt B Bg w9 (Rn.bump p j) (ws.take (j+1)) 0 vp' vw'/\∀k,exO Bg vp' vw' k->exO Bg (.slice (some ⟨b,0,none⟩) p.length c) (.slice (some ⟨r,0,none⟩) ws.length D) k):=by
     rintro w9 rfl;have f9:FrS (fun k=>k=Bg) C (((C.setCell ⟨Bg,0,none⟩ (.slice (some ⟨b,0,none⟩) (j+1) c)).setCell ⟨Bg,1,none⟩ (.slice (some ⟨r,0,none⟩) (j+1) D)).drew):=(((FrS.refl (fun k=>k=Bg) C).setCell (p:=⟨Bg,0,none⟩) rfl _).setCell (p:=⟨Bg,1,none⟩) rfl _).drew;refine⟨((HF.out.mono fun k d=>.inl d).trans (G.mono fun k d=>.inr (.inl (by rw[d];rfl)))).trans (f9.mono fun k d=>.inl d),.slice (some ⟨b,0,none⟩) (j+1) c,.slice (some ⟨r,0,none⟩) (j+1) D,⟨cY (i:=1) _ (cY (i:=0) _ g),?_,?_,l.out.ge⟩,fun k d=>d⟩
     ·have K:=lx I (k:=j+1) (by rw[tt,List.length_set];omega);rw[<-List.map_take,<-HG.out,Rn.bump_take p j X]at K
      exact dh K fun k d=>f9.block k (de K d).2.1 (fun e=>by
        have:k=b:=by simp[Value.ownBlock]at d;exact d.symm
        omega)
     ·have K:=lx F (k:=j+1) (by rw[tt];omega);rw[<-List.map_take]at K;obtain⟨-,-,O,q'⟩:=de F (k:=r) rfl
      exact dh K fun k d=>f9.block k (de K d).2.1 (fun e=>by
        have an:k=r:=by simp[Value.ownBlock]at d;exact d.symm
        subst an
        exact df q' g (by decide) e)
    clear G I F g t am;go_wp2_with (go_at_call 116;refine CM.out.mono ?_;rintro e w1 ⟨rfl,rfl⟩)
    go_region_with (fail)
    all_goals go_wp2
    all_goals go_ret
    all_goals
     obtain⟨e1,e2⟩:=N.out _ rfl;refine⟨cZ (by rw[H.out];rfl),e1,?_,?_⟩
     ·intro q;rw[H.out]at q;cases q
     ·intro k d;rw[H.out]at d;injection d with d;subst d;exact e2
   ·have H:Hid (Rn.nextK p ws j=R):=by show _=_;rw[<-t.out,J.out,tC Y]
    have au:¬x<m-1:=by omega
    clear t;go_wp2_with (go_at_call 116;refine CM.out.mono ?_;rintro e w1 ⟨rfl,rfl⟩);go_round
    case rel =>
     have ak:j<=p.length:=by omega
     have al:(j:Int)-1+1=(j:Int):=by omega
     exact⟨j,(j:Int)-1,ak,al,rfl,H⟩
    case measure=>first|(simp[intOf];done)|(simp[intOf];omega)
theorem U32At.frs {B:Nat}{w w':World}{v:Value}{zs:List Int}{S:Nat->Prop}(h:U32At B w v zs)(hB:B<=w.heap.size)(hF:FrS S w w')(hS:∀k,S k->B<=k):U32At B w' v zs :=
 SlAt.imp h fun b off l d j z g=>by rw[<-d j z g];exact tN (hF.block b (by omega) (fun q=>by have:=hS b q;omega))
namespace Rn
theorem padded_snoc {p:List Int}{n:Nat}(h:p.length<=n):padded p n++[0]=padded p (n+1):=by unfold padded;rw[List.append_assoc,show n+1-p.length=(n-p.length)+1 by omega,List.replicate_succ']
theorem padded_self (p:List Int):padded p p.length=p:=by unfold padded;simp
theorem take_snoc {ws fin:List Int}{n:Int}(h:ws++[n] <+: fin):fin.take ws.length++[n]=fin.take (ws.length+1)/\fin.getD ws.length 0=n:=by
 obtain⟨t,rfl⟩:=h;constructor
 ·simp[List.take_append,List.take_add_one]
 ·simp[sU]
end Rn
theorem sn (p:Addr)(w:World):(method 360 99 (.pointer (some p)) "backstay/run.choose").run prog w=.ok (263,.pointer (some p)) w:=by kernel_rfl
theorem sk (p:Value)(n:Int)(w:World):(callFunc 263 #[p,.int .i64 n]).run prog w=.ok (.enter 263 #[p,.int .i64 n]) w:=by kernel_rfl
def qB (B Bg:Nat)(p0 fin:List Int)(w:World)(ws:List Int)(vp vw:Value):Prop :=
 ExAt B Bg w (Rn.padded p0 (max p0.length ws.length)) (fin.take (max p0.length ws.length)) ws.length vp vw
def lX (c:Cfg)(B Bg:Nat)(p0:List Int)(fin:List Int)(hch:c.ch=.iface 99 (.pointer (some ⟨Bg,0,none⟩)))(hB:c.n₀<=B)(hp:p0.length<=fin.length)(hgood:∀j:Nat,j<p0.length->0<=p0.getD j 0/\p0.getD j 0<Wd.sz (fin.getD j 0))(hfin:fin.length<=1000000) :
  dW c (Rn.given p0) fin where
 ty:=99
 ptr:=.pointer (some ⟨Bg,0,none⟩)
 fnum:=263
 ech:=hch
 inv:=fun w=>sn _ w
 ent:=fun n w=>sk _ n w
 At:=fun w ws O=>(∃vp vw,qB B Bg p0 fin w ws vp vw/\O=exO Bg vp vw)/\(∀k,Kept c k->k<w.heap.size)/\∀k,O k->¬Kept c k
 apart:=fun {w ws O} h k hk=>by
  obtain⟨⟨vp,vw,h1,rfl⟩,h2,h3⟩:=h;refine⟨?_,?_,h3 k hk⟩
  ·rcases hk with rfl|hk|hk
   ·have:=h1.ge;omega
   ·have:=(de h1.pth hk).1;omega
   ·have:=(de h1.wid hk).1;omega
  ·rcases hk with rfl|hk|hk
   ·exact cX h1.st
   ·exact(de h1.pth hk).2.1
   ·exact(de h1.wid hk).2.1
 keep:=fun {w w' ws O S} h hF hS=>by obtain⟨⟨vp,vw,h1,rfl⟩,h2,h3⟩:=h;exact⟨⟨vp,vw,h1.frs hF (fun k hk q=>(hS k q).2 hk),rfl⟩,fun k hk=>by have:=h2 k hk;have:=hF.size;omega,h3⟩
 call:=fun {w ws O} n h hn hpre=>by
  obtain⟨⟨vp,vw,h1,rfl⟩,h2,h3⟩:=h;have hl:=hpre.length_le;rw[tT,List.length_singleton]at hl;obtain⟨t1,t2⟩:=Rn.take_snoc hpre;rcases tF ws.length p0.length with hk|hk
  ·have hm:max p0.length ws.length=p0.length:=by omega
   have h1':ExAt B Bg w p0 (fin.take p0.length) ws.length vp vw:=by have:=h1;unfold qB at this;rwa [hm,Rn.padded_self]at this
   refine(ko h1' hk (by omega) n).mono fun e w' h=>⟨?_,h.2.2.mono fun k hk=>.inl hk,exO Bg vp vw,⟨⟨vp,vw,?_,rfl⟩,fun k hk=>by have:=h2 k hk;have:=h.2.2.size;omega,h3⟩,fun k hk=>.inl hk⟩
   ·rw[h.1];have hg:=hgood ws.length hk;unfold Rn.given;rw[tB hk,Int.emod_eq_of_lt hg.1 (by rw[<-t2];exact hg.2)]
   ·unfold qB;rw[tT,List.length_singleton,show max p0.length (ws.length+1)=p0.length by omega,Rn.padded_self];exact h.2.1
  ·have hm:max p0.length ws.length=ws.length:=by omega
   have hpl:(Rn.padded p0 ws.length).length=ws.length:=Rn.padded_len hk;have h1':ExAt B Bg w (Rn.padded p0 ws.length) (fin.take ws.length) (Rn.padded p0 ws.length).length vp vw:=by have:=h1;unfold qB at this;rw[hm]at this;rw[hpl];exact this
   refine(jo h1' (by rw[hpl,List.length_take];omega) (by omega) n).mono fun e w' h=>⟨?_,?_⟩
   ·rw[h.1,Rn.given_out hk]
   ·obtain⟨-,vp',vw',q1,q2,q3⟩:=h;refine⟨q2,exO Bg vp' vw',⟨⟨vp',vw',?_,rfl⟩,fun k hk=>by have:=h2 k hk;have:=q2.size;omega,fun k hk hK=>?_⟩,q3⟩
    ·unfold qB;rw[tT,List.length_singleton,show max p0.length (ws.length+1)=ws.length+1 by omega,<-Rn.padded_snoc hk,<-t1];rw[hpl]at q1;exact q1
    ·rcases q3 k hk with q|q
     ·exact h3 k q hK
     ·have:=h2 k hK;omega
def Dc (c:Cfg)(k:Nat):Prop:=(0<c.us.length/\k=c.Bm)\/∃j cp:Nat,c.us[j]?=some (k,cp)
theorem Dc.kept {c:Cfg}{k:Nat}(h:Dc c k):Kept c k:=by
 rcases h with ⟨-,h⟩|⟨j,d,h⟩
 ·exact .inr (.inr h)
 ·exact .inl (.inr (.inr (.inr ⟨j,d,h⟩)))
theorem oz {B size n:Nat}{e:TypeId}{w w':World}{v:Value}{xs:List Value}(h:w.ownsRow B e size v n xs)(hw:∀k,v.ownBlock=some k->w'.heap[k]?=w.heap[k]?):w'.ownsRow B e size v n xs:=by
 obtain⟨l,j⟩:=h;refine⟨l,?_⟩;rcases j with j|⟨k,d,g,hv,m,p,r⟩
 ·exact .inl j
 ·exact .inr ⟨k,d,g,hv,m,(hw k (by rw[hv];rfl)).trans p,r⟩
theorem le {f:Fn}(hf:Ref.Val f){mem:List (List Int)}(hsl:mem.map (fun r=>(r.length:Int))=f.slots):mem.length<=1000/\∀l∈mem,l.length<=8:=by
 have m:mem.length=f.slots.length:=by rw[<-hsl,tt]
 have p:=hf.size;refine⟨by omega,fun l j=>?_⟩;have g:(l.length:Int)∈f.slots:=by rw[<-hsl];exact List.mem_map_of_mem j
 have d:=tu.1 hf.head.2 _ g;unfold Ref.isSlot at d;simp at d;omega
theorem nU {c:Cfg}{w:World}{mem:List (List Int)}(hM:qD c w mem)(hS:jY c w)(hlt:∀k,Dc c k->k<w.heap.size)(hBm:c.Bm<w.heap.size)(hf:Ref.Val c.f)(hsl:mem.map (fun r=>(r.length:Int))=c.f.slots):Keeps (Dc c) w c.mv mem:=by
 have m:=hM.1;obtain⟨T,R⟩:=le hf hsl;refine⟨hlt,⟨c.Am,c.cm,by rw[m];rfl⟩,fun w' D O=>?_⟩;obtain⟨Q,S,L⟩:=hS;refine⟨?_,c.Am,c.cm,by rw[tt,m];rfl,by rw[tt,m];exact Q,fun y=>?_⟩
 rotate_left
 ·rw[tt]at y;obtain⟨e,B,F,G⟩:=L (by omega);refine⟨c.Bm,B,e,.inl ⟨by omega,rfl⟩,(D c.Bm (.inl ⟨by omega,rfl⟩)).trans F,fun j n C=>?_⟩;rw[td,Option.map_eq_some_iff]at C;obtain⟨l,q,rfl⟩:=C;have C:=(sR.1 q).1;obtain⟨⟨d,g⟩,A⟩:∃u,c.us[j]?=some u:=⟨_,sQ (by omega)⟩;have I:c.f.slots[j]?=some (l.length:Int):=by rw[<-hsl,td,q];rfl
  obtain⟨J,P,p,E,K⟩:=hM.2 j d g l A q;exact⟨d,g,p,G j d g l.length A I,J,.inr ⟨j,g,A⟩,(D d (.inr ⟨j,g,A⟩)).trans E,fun i N=>⟨l[i],K i _ (sQ N)⟩⟩
 refine⟨c.Am,c.cm,by rw[m];rfl,by omega,by omega,fun y=>?_⟩;obtain⟨e,B,F,G⟩:=L (by omega);have H:c.Bm<w'.heap.size:=by omega
 refine⟨c.Bm,0,e,H,fun j l q=>?_⟩;have C:=(sR.1 q).1;obtain⟨⟨d,g⟩,A⟩:∃u,c.us[j]?=some u:=⟨_,sQ (by omega)⟩;have I:c.f.slots[j]?=some (l.length:Int):=by rw[<-hsl,td,q];rfl
 obtain⟨J,P,p,E,K⟩:=hM.2 j d g l A q;have M:d<w.heap.size:=cX E;refine⟨.slice (some ⟨d,0,none⟩) l.length g,?_,?_⟩
 ·rw[tv _ _ _ _ _ _ ((D c.Bm (.inl ⟨by omega,rfl⟩)).trans F),Nat.zero_add];exact G j d g l.length A I
 ·have:=R l (sS q);refine⟨some ⟨d,0,none⟩,g,rfl,J,by omega,fun _=>⟨d,0,rfl,by omega,fun t z hz=>?_⟩⟩;rw[tv _ _ _ _ _ _ ((D d (.inr ⟨j,g,A⟩)).trans E),Nat.zero_add];exact K t z hz
theorem PS.keeps {c:Cfg}{w:World}{s:Rn.St}{b frm:Int}{vt:Value}(h:PS c w s b frm vt)(hBm:c.Bm<w.heap.size)(hf:Ref.Val c.f)(hsl:s.mem.map (fun r=>(r.length:Int))=c.f.slots):Keeps (Dc c) w c.mv s.mem:=nU h.mem h.slots (fun k d=>h.kept_lt hBm d.kept) hBm hf hsl
theorem jy (D:Nat->Prop)(w:World)(h:∀k,D k->k<w.heap.size):Keeps D w (.slice none 0 0) [] :=
 ⟨h,⟨none,0,rfl⟩,fun w' _ _=>⟨⟨none,0,rfl,tS _,by decide,fun h=>absurd h (by decide)⟩,none,0,rfl,tS _,fun h=>absurd h (by decide)⟩⟩
def rV (c:Cfg)(o:Rn.Out):Value:=if o.kind=0 then c.mv else .slice none 0 0
theorem oh {c:Cfg}{w:World}{s:Rn.St}{b frm:Int}{vt:Value}(h:PS c w s b frm vt)(hBm:c.Bm<w.heap.size)(hf:Ref.Val c.f)(hI:Rn.Inv c.f s){o:Rn.Out}(ho:Rn.OutOf c.f s o):Keeps (Dc c) w (rV c o) o.mem:=by
 unfold rV;rcases ho with ⟨g,j,-⟩|rfl|rfl
 ·rw[tB g,j];exact h.keeps hBm hf hI.mem
 ·exact jy _ _ fun k d=>h.kept_lt hBm d.kept
 ·exact jy _ _ fun k d=>h.kept_lt hBm d.kept
structure Rd (D:Nat->Prop)(B Bg:Nat)(w:World)(v vp vw:Value)(vms:List Value)(p ws:List Int)(u:Nat)(outs:List Rn.Out):Prop where
 ex:ExAt B Bg w p ws u vp vw
 at_:OutsAt D B w v outs vms
 dlt:∀k,D k->B<=k/\k<w.heap.size/\¬exO Bg vp vw k/\v.ownBlock≠some k
 vo:∀k,v.ownBlock=some k->¬exO Bg vp vw k
section
variable {D:Nat->Prop}{B Bg u:Nat}{w w':World}{v vp vw:Value}{vms:List Value}{p ws:List Int}{outs:List Rn.Out}
theorem OutsAt.frs {S:Nat->Prop}(h:OutsAt D B w v outs vms)(hF:FrS S w w')(hD:∀k,D k->¬S k)(hv:∀k,v.ownBlock=some k->¬S k):OutsAt D B w' v outs vms where
 len:=h.len
 own:=oz h.own fun k d=>hF.block k (dv h.own k d).2 (hv k d)
 at_:=fun j o vm g l=>(h.at_ j o vm g l).frs hF hD
theorem OutsAt.more {D':Nat->Prop}(h:OutsAt D B w v outs vms)(hD:∀k,D k->D' k)(hD':∀k,D' k->k<w.heap.size):OutsAt D' B w v outs vms where
 len:=h.len
 own:=h.own
 at_:=fun j o vm d g=>(h.at_ j o vm d g).more hD hD'
theorem jn (h:ExAt B Bg w p ws u vp vw){k:Nat}(hk:exO Bg vp vw k):B<=k/\k<w.heap.size:=by
 rcases hk with rfl|hk|hk
 ·exact⟨h.ge,cX h.st⟩
 ·have:=de h.pth hk;exact⟨this.1,this.2.1⟩
 ·have:=de h.wid hk;exact⟨this.1,this.2.1⟩
theorem Rd.gr (h:Rd D B Bg w v vp vw vms p ws u outs)(g:Gr w w'):Rd D B Bg w' v vp vw vms p ws u outs where
 ex:=h.ex.frs (FrS.of_gr (S:=fun _=>False) g) (fun _ _ q=>q)
 at_:=h.at_.frs (FrS.of_gr (S:=fun _=>False) g) (fun _ _ q=>q) (fun _ _ q=>q)
 dlt:=fun k d=>by obtain⟨h1,h2,h3⟩:=h.dlt k d;exact⟨h1,by have:=g.size;omega,h3⟩
 vo:=h.vo
theorem Rd.insert (h:Rd D B Bg w v vp vw vms p ws u outs){v':Value}{outs':List Rn.Out}{vms':List Value}(ho:OutsAt D B w' v' outs' vms')(hF:FrS (fun k=>v.ownBlock=some k) w w')(hv:∀k,v'.ownBlock=some k->v.ownBlock=some k\/w.heap.size<=k) :
  Rd D B Bg w' v' vp vw vms' p ws u outs' where
 ex:=h.ex.frs hF fun k d q=>h.vo k q d
 at_:=ho
 dlt:=fun k d=>by
  obtain⟨g,m,j,l⟩:=h.dlt k d;refine⟨g,by have:=hF.size;omega,j,fun q=>?_⟩;rcases hv k q with q|q
  ·exact l q
  ·omega
 vo:=fun k d q=>by
  rcases hv k d with r|r
  ·exact h.vo k r q
  ·have:=(jn h.ex q).2;omega
theorem Rd.next (h:Rd D B Bg w v vp vw vms p ws u outs){vp' vw':Value}{p' ws':List Int}{u':Nat}(he:ExAt B Bg w' p' ws' u' vp' vw')(hF:FrS (exO Bg vp vw) w w')(hO:∀k,exO Bg vp' vw' k->exO Bg vp vw k):Rd D B Bg w' v vp' vw' vms p' ws' u' outs where
 ex:=he
 at_:=h.at_.frs hF (fun k d q=>(h.dlt k d).2.2.1 q) (fun k d q=>h.vo k d q)
 dlt:=fun k d=>by obtain⟨g,m,j,l⟩:=h.dlt k d;exact⟨g,by have:=hF.size;omega,fun q=>j (hO k q),l⟩
 vo:=fun k d q=>h.vo k d (hO k q)
end
theorem pU {D:Nat->Prop}{B Bg:Nat}{f:Fn}{i:Rn.Inp}{w0 w:World}{v vp vw:Value}{vms:List Value}{p:List Int}{outs:List Rn.Out}(h:Rd D B Bg w0 v vp vw vms p ((Rn.wids f i p).take p.length) 0 outs)(hg:Rn.Good f i p)
  (hRA:Ref.RcAll) (hf:VFn f) (hin:Rn.validInput f i=0) (ha:∀a∈i.args,0<=a) (g:Gr w0 w) {c:Cfg} (cn:c.n₀=B) (cf:c.f=f) (cch:c.ch=.iface 99 (.pointer (some ⟨Bg,0,none⟩))) (hp:PS c w (Rn.start f i) 0 (-1) (.slice none 0 0)) (hK:∀k,Kept c k->w0.heap.size<=k) (hBm:c.Bm<w.heap.size) :
  Calls prog 80 #[.pointer (some ⟨c.Bs,0,none⟩)] w fun e w'=>∃vx,e=.returned (gG (Rn.run f (Rn.given p) i).1 vx)/\∃(D':Nat->Prop)(vp' vw':Value),Rd D' B Bg w' v vp' vw' vms (Rn.padded p (Rn.wids f i p).length) (Rn.wids f i p) (Rn.wids f i p).length outs/\Keeps D' w' vx (Rn.run f (Rn.given p) i).1.mem/\FrS (fun k=>B<=k) w w':=by
 subst cn;subst cf;obtain⟨q1,q2,S,T⟩:=Rn.run_ok hRA hf.val hf.im hin ha p;obtain⟨l,R,Q⟩:=Rn.start_ent hRA hin ha;have H:=h.gr g;have y:∀k,exO Bg vp vw k->k<w0.heap.size:=fun k d=>(jn h.ex d).2
 let ch:=lX c c.n₀ Bg p (Rn.wids c.f i p) cch (tS _) hg.1 hg.2 (by omega)
 have N:ch.At w (Rn.start c.f i).widths (exO Bg vp vw):=by refine⟨⟨vp,vw,?_,rfl⟩,fun k d=>hp.kept_lt hBm d,fun k d q=>by have:=y k d;have:=hK k q;omega⟩;unfold qB;rw[show (Rn.start c.f i).widths=[] from rfl,List.length_nil,Nat.max_eq_left (tR _),Rn.padded_self];exact H.ex
 refine(jM (pick:=Rn.given p) (fin:=Rn.wids c.f i p) (b:=0) hp hBm hf hRA R Q (Rn.given_ok p) ch N (tR _) (List.prefix_refl _)).mono ?_;rintro e w' ⟨rfl,b,L,vq,Z,G,U,W,A,X⟩;obtain⟨⟨vp',vw',C,rfl⟩,r7,Y⟩:=U;have z:Rn.from_ c.f (Rn.given p) 401 0 (-1) (Rn.start c.f i)=Rn.run c.f (Rn.given p) i:=rfl;rw[z]at G W C ⊢
 have O:ExAt c.n₀ Bg w' (Rn.padded p (Rn.wids c.f i p).length) (Rn.wids c.f i p) (Rn.wids c.f i p).length vp' vw':=by have J:(Rn.run c.f (Rn.given p) i).2.1.widths=Rn.wids c.f i p:=rfl;have K:max p.length (Rn.wids c.f i p).length=(Rn.wids c.f i p).length:=Nat.max_eq_right hg.1;unfold qB at C;rw[J,K,tE]at C;exact C
 have r:c.Bm<w'.heap.size:=by have:=A.size;omega
 have t:=oh G r hf.val S T
 have E:∀k,D k->¬(Mut c k\/exO Bg vp vw k):=fun k d q=>by
  obtain⟨d1,d2,d3,d4⟩:=h.dlt k d;rcases q with q|q
  ·have:=hK k (.inl q);omega
  ·exact d3 q
 have F:∀k,v.ownBlock=some k->¬(Mut c k\/exO Bg vp vw k):=fun k d q=>by
  rcases q with q|q
  ·have:=hK k (.inl q);have:=(dv h.at_.own k d).2;omega
  ·exact h.vo k d q
 have u:∀k,k<w0.heap.size->¬exO Bg vp vw k->¬exO Bg vp' vw' k:=fun k M h2 q=>by
  rcases X k q with q|q
  ·exact h2 q
  ·have:=g.size;omega
 have m:∀k,D k\/Dc c k->k<w'.heap.size:=fun k d=>by
  rcases d with d|d
  ·have:=(h.dlt k d).2.1;have:=g.size;have:=A.size;omega
  ·exact G.kept_lt r d.kept
 refine⟨rV c _,rfl,(fun k=>D k\/Dc c k),vp',vw',⟨O,(H.at_.frs A E F).more (fun k d=>.inl d) m,fun k d=>?_,fun k d=>?_⟩,t.more (fun k d=>.inr d) m,A.mono fun k d=>?_⟩
 ·rcases d with d|d
  ·obtain⟨d1,d2,d3,d4⟩:=h.dlt k d;exact⟨d1,m k (.inl d),u k d2 d3,d4⟩
  ·have M:=hK k d.kept;refine⟨?_,m k (.inr d),fun q=>Y k q d.kept,fun q=>?_⟩
   ·have:=hp.n₀;rcases d with ⟨-,rfl⟩|⟨j,I,d⟩
    ·exact hp.old.2.2.2.2.1
    ·exact(hp.old.2.2.2.2.2 j k I d).1
   ·have:=(dv h.at_.own k q).2;omega
 ·exact u k (dv h.at_.own k d).2 (h.vo k d)
 ·rcases d with d|d
  ·exact hp.mut d
  ·exact(jn h.ex d).1
theorem kh {D:Nat->Prop}{B:Nat}{w:World}{v:Value}{outs:List Rn.Out}{vms:List Value}(h:OutsAt D B w v outs vms)(hn:outs.length<=1000)(ha:Rn.Asc outs){x:Rn.Out}{vx:Value}(hx:Keeps D w vx x.mem) :
  Calls prog 81 #[v,gG x vx,.func (.func 82) #[] #[]] w (RG (.tuple #[.int .i64 (Rn.below x outs:Nat),.bool (decide (outs[Rn.below x outs]?=some x))]) w):=by
 obtain⟨L,J⟩:=xJ (Rn.below x outs);have M:L<=outs.length:=by rw[<-J];exact Rn.below_le x outs
 have ae:Hid (∀j y,outs[j]?=some y->(Rn.cmpOut y x<0↔j<L)):=fun j y H=>by rw[<-J];exact Rn.below_at x outs ha j y H
 obtain⟨F,hF⟩:∃F,decide (outs[L]?=some x)=F:=⟨_,rfl⟩;have aa:=dJ hF;obtain⟨W,hW⟩:=xJ (jD w x vx);have g1:Gr w W:=by rw[<-hW];exact(tX w).alloc _
 have r:Hid (∀wr,Gr W wr->∀u:GrW wr,_):=fun wr g u=>dK (w:=w) (o:=x) (vm:=vx) (w':=u.val) (by rw[hW];exact g.trans u.gr);obtain⟨A,c,hv,hc,hA,af⟩:=dE h.own;subst hv
 have Z:Hid (∀wr,Gr W wr->∀j y,outs[j]?=some y->∃b I,A=some ⟨b,0,none⟩/\(∃Y cy,I=.slice Y y.mem.length cy)/\(∀u:GrW wr,u.val.cell? ⟨b,j*5,none⟩=some (.int .i64 y.kind)/\u.val.cell? ⟨b,j*5+1,none⟩=some (.bool y.ret.p)/\u.val.cell? ⟨b,j*5+2,none⟩=some (.int .i64 y.ret.s)/\u.val.cell? ⟨b,j*5+3,none⟩=some (.int .u32 y.ret.n)/\u.val.cell? ⟨b,j*5+4,none⟩=some I) /\
     ∀u:GrW wr,Calls prog 82 #[gG y I,gG x vx] u.val (RG (.int .i64 (Rn.cmpOut y x)) u.val)):=fun wr g j y H=>by
  have hj:=(sR.1 H).1;obtain⟨b,e,ag,-,R⟩:=dq h.own rfl (by omega);obtain⟨I,ad⟩:∃I,vms[j]?=some I:=⟨_,sQ (by rw[h.len];exact hj)⟩;have hk:=h.at_ j y I H ad;refine⟨b,I,e,?_,fun u=>?_,fun u=>?_⟩
  ·obtain⟨-,⟨Y,cy,e2⟩,-⟩:=hk;exact⟨Y,cy,e2⟩
  ·have gg:Gr w u.val:=(g1.trans g).trans u.gr;have q:=fun t (ht:t<5)=>(gg.cell b (j*5+t) ag).trans ((R (j*5+t) (by omega)).trans (gv outs vms j t y I H ad ht));exact⟨q 0 (by decide),q 1 (by decide),q 2 (by decide),q 3 (by decide),q 4 (by decide)⟩
  ·have gg:Gr w u.val:=(g1.trans g).trans u.gr;exact kk (hk.gr gg).tab (hx.gr gg).tab (tS _)
 have ab:=dJ g1;obtain⟨-,⟨Ax,cx,rfl⟩,-⟩:=hx;obtain⟨n,K⟩:=xJ outs.length;have HN:=dJ K;rw[K]at hn M hc;rw[J,hF,K];clear h ha J hF g1 K hA af;unfold jD at hW;unfold gG at *
 go_enter func81, ntmps81
 go_wp2
 go_loopw [9,10] (fun s9 T wr=>∃C z:Nat,s9=.int .i64 (C:Int)/\T=.int .i64 (z:Int)/\C<=L/\L<=z/\z<=n/\Hid (Gr W wr)) (fun s9 T _=>(intOf T).toNat-(intOf s9).toNat)
 case atStart=>exact⟨0,n,rfl,rfl,tR _,M,tS _,tX _⟩
 case round =>
  obtain⟨C,z,rfl,rfl,h1,h2,h3,E⟩:=hrel;by_cases ak:C<z
  ·obtain⟨y,H⟩:∃y,outs[(C+z) / 2]?=some y:=⟨_,sQ (by have:=HN.out;omega)⟩;obtain⟨b,I,rfl,⟨Y,cy,rfl⟩,l,m⟩:=Z.out wr E.out _ y H;have S:=ae.out _ y H;have X:=dJ m;obtain⟨d,hd⟩:=xJ (Rn.cmpOut y x);rw[hd]at X S;have ac:=dJ S;have U0:=fun u=>(l u).1;have U1:=fun u=>(l u).2.1;have U2:=fun u=>(l u).2.2.1;have U3:=fun u=>(l u).2.2.2.1;have U4:=fun u=>(l u).2.2.2.2;have X0:=fun u=>(r.out wr E.out u).1;have X1:=fun u=>(r.out wr E.out u).2.1;have X2:=fun u=>(r.out wr E.out u).2.2.1;have X3:=fun u=>(r.out wr E.out u).2.2.2.1;have X4:=fun u=>(r.out wr E.out u).2.2.2.2;have ai:(C+z) / 2<n:=by omega
   clear H l m S hd;by_cases N:d<0
   ·go_wp2;refine dg (by kernel_rfl) (by kernel_rfl) ?_;repeat (go_big_quiet_step ((rename_i u;go_at_call 82;exact dt u (X.out u))))
    refine wpQuiet_nil ?_;intro w9 G;obtain⟨U,rfl⟩:=G;have O:=dJ (E.out.trans U.gr);clear U0 U1 U2 U3 U4 X0 X1 X2 X3 X4;go_wp2;have ah:(C+z) / 2<L:=ac.out.1 N;refine⟨⟨(C+z) / 2+1,z,by rw[show ((C:Int)+(z:Int)) / 2+1=(((C+z) / 2+1:Nat):Int) by omega],rfl,by omega,h2,h3,O⟩,by simp[intOf];omega⟩
   ·have ah:¬(C+z) / 2<L:=fun q=>N (ac.out.2 q);go_wp2;refine dg (by kernel_rfl) (by kernel_rfl) ?_;repeat (go_big_quiet_step ((rename_i u;go_at_call 82;exact dt u (X.out u))))
    refine wpQuiet_nil ?_;intro w9 G;obtain⟨U,rfl⟩:=G;have O:=dJ (E.out.trans U.gr);clear U0 U1 U2 U3 U4 X0 X1 X2 X3 X4;go_wp2;refine⟨⟨C,(C+z) / 2,rfl,by rw[show ((C:Int)+(z:Int)) / 2=(((C+z) / 2:Nat):Int) by omega],h1,by omega,by omega,O⟩,by simp[intOf];omega⟩
  ·obtain rfl:C=L:=by omega
   obtain rfl:z=C:=by omega
   by_cases aj:z<n
   ·obtain⟨y,H⟩:∃y,outs[z]?=some y:=⟨_,sQ (by have:=HN.out;omega)⟩;obtain⟨b,I,rfl,⟨Y,cy,rfl⟩,l,m⟩:=Z.out wr E.out _ y H;have X:=dJ m;have hz:=Rn.isCmp_out.zero y x;obtain⟨d,hd⟩:=xJ (Rn.cmpOut y x);rw[hd]at X hz
    have Q:Hid (F=decide (d=0)):=by show _=_;rw[<-aa.out,H];simp[hz]
    have U0:=fun u=>(l u).1;have U1:=fun u=>(l u).2.1;have U2:=fun u=>(l u).2.2.1;have U3:=fun u=>(l u).2.2.2.1;have U4:=fun u=>(l u).2.2.2.2;have X0:=fun u=>(r.out wr E.out u).1;have X1:=fun u=>(r.out wr E.out u).2.1;have X2:=fun u=>(r.out wr E.out u).2.2.1;have X3:=fun u=>(r.out wr E.out u).2.2.2.1;have X4:=fun u=>(r.out wr E.out u).2.2.2.2;clear H l m hz hd;by_cases h0:d=0
    all_goals
     go_wp2;refine dg (by kernel_rfl) (by kernel_rfl) ?_;repeat (go_big_quiet_step ((rename_i u;go_at_call 82;exact dt u (X.out u))))
     refine wpQuiet_nil ?_;intro w9 G;obtain⟨U,rfl⟩:=G;have O:=dJ (ab.out.trans (E.out.trans U.gr));clear U0 U1 U2 U3 U4 X0 X1 X2 X3 X4;go_wp2;go_ret2;refine⟨?_,O.out⟩;rw[Q.out];simp[h0]
   ·have Q:Hid (F=false):=by
     show _=_;rw[<-aa.out,tp (by have:=HN.out;omega)];simp
    go_wp2;refine dg (by kernel_rfl) (by kernel_rfl) ?_;repeat (go_big_quiet_step (fail))
    refine wpQuiet_nil ?_;intro w9 G;obtain⟨U,rfl⟩:=G;have O:=dJ (ab.out.trans (E.out.trans U.gr));go_wp2;go_ret2;refine⟨?_,O.out⟩;rw[Q.out];rfl
theorem mc:(prog.info? 33).map (fun i=>(i.zero,i.size,i.bytes))=some (some (.slice none 0 0),1,24):=by kernel_rfl
theorem mD {B0:Nat}{w:World}{f:Fn}{vf:Value}(hfn:FnAt B0 w vf f)(hB0:B0<=w.heap.size)(hf:VFn f){i:Rn.Inp}{va vm:Value}(ha:U32At B0 w va i.args)(hm:TabAt B0 w vm i.mem)(hi:Rn.validInput f i=0)(T:TypeId)(p:Value) :
  Calls prog 79 #[vf,.agg #[va,vm],.iface T p] w fun e w'=>∃c:Cfg,c.n₀=B0/\c.f=f/\c.ch=.iface T p/\e=.returned (.pointer (some ⟨c.Bs,0,none⟩))/\PS c w' (Rn.start f i) 0 (-1) (.slice none 0 0)/\Gr w w'/\(∀k,Kept c k->w.heap.size<=k)/\c.Bm<w'.heap.size:=by
 obtain⟨i0,cc,cy,cz,cA⟩:=info_parts dC;obtain⟨i1,cd,cu,cv,cw⟩:=info_parts mc;have cr:=Rn.valid_input hi;obtain⟨hv,b0,aq,ct,b7⟩:=cr;have aw:=hf.val.size
 have ah:Ref.count f<=1000:=by
  have e:Ref.count f=f.params.length+Ref.total f.blocks:=by unfold Ref.count Ref.number;rw[tE]
  omega
 have ck:f.params.length<=Ref.count f:=by unfold Ref.count Ref.number;omega
 have cD:f.blocks.length<=10:=aw.2.2.2.1;have cM:1<=f.blocks.length:=by omega
 obtain⟨vp,vs,vb,rfl,hp,hs,hb⟩:=hfn;have bu:Hid (FnAt B0 w (.agg #[vp,.int .i64 f.ret,vs,vb]) f):=⟨vp,vs,vb,rfl,hp,hs,hb⟩;obtain⟨N,hN⟩:=xJ w.heap.size;rw[hN]at hB0;obtain⟨W0,aB⟩:=xJ (w.alloc (.cells #[vp,.int .i64 f.ret,vs,vb] 36));obtain⟨W1,aC⟩:=xJ (W0.alloc (.cells #[va,vm] 41));obtain⟨W2,aD⟩:=xJ (W1.alloc (.cells #[vp,.int .i64 f.ret,vs,vb,.iface T p,.slice none 0 0,.slice none 0 0,.slice none 0 0,.slice none 0 0,.int .i64 0,.int .i64 (-1),.int .i64 0,.slice none 0 0] 145));have s0:W0.heap.size=N+1:=by rw[<-aB,<-hN];simp
 have s1:W1.heap.size=N+2:=by rw[<-aC];simp[s0]
 have s2:W2.heap.size=N+3:=by rw[<-aD];simp[s1]
 have q0:W0.heap[N]?=some (.cells #[vp,.int .i64 f.ret,vs,vb] 36 (0,0)):=by rw[<-aB,<-hN];exact heap_alloc_new _ _
 have gA:Gr W0 W1:=by rw[<-aC];exact(tX _).alloc _
 have gB:Gr W1 W2:=by rw[<-aD];exact(tX _).alloc _
 have gW:Gr w W0:=by rw[<-aB];exact(tX _).alloc _
 have q1:W1.heap[N+1]?=some (.cells #[va,vm] 41 (0,0)):=by rw[<-aC,<-s0];exact heap_alloc_new _ _
 have aT:Hid (SS N w W2 vp f.ret vs vb (.iface T p) va vm (.slice none 0 0) (.slice none 0 0) (.slice none 0 0) (.slice none 0 0)):={
   gr:=(gW.trans gA).trans gB
   n:=hN.symm
   fb:=(gB.heap _ (by omega)).trans ((gA.heap _ (by omega)).trans q0)
   ib:=(gB.heap _ (by omega)).trans q1
   st:=by rw[<-aD,<-s1];exact heap_alloc_new _ _}
 obtain⟨Ap,cp,rfl,p1,p2,-⟩:=hp;obtain⟨As,cs,rfl,-,-,-⟩:=hs;obtain⟨Ab,cb,rfl,b1,b2,b3⟩:=hb;obtain⟨bb,ob,rfl,cN,b4⟩:=b3 (by omega)
 have br:Hid (∀wr,Gr w wr->∀k l,f.blocks[k]?=some l->∃Al cl,wr.cell? ⟨bb,ob+k,none⟩=some (.slice Al l.length cl)):=fun wr g k l O=>by obtain⟨u,W,Al,cl,rfl,-⟩:=b4 k l O;exact⟨Al,cl,(g.cell _ _ (by omega)).trans W⟩
 have bC:Hid (∀k l,f.blocks[k]?=some l->Ref.number f (k+1)=Ref.number f k+l.length/\Ref.number f k+l.length<=1000):=fun k l O=>⟨Ref.number_next f O,by have:=Ref.number_count f O;omega⟩;have HA:=dJ ha
 have au:Hid (∀(k:Nat)(l:List Int),i.mem[k]?=some l->1<=l.length/\l.length<=8):=fun k l O=>by have D:=congrArg (fun q=>q[k]?) aq;simp only[td,O,Option.map_some]at D;have L:=tu.1 hf.val.head.2 _ (sS D.symm);unfold Ref.isSlot at L;simp at L;omega
 have bz:Hid (∀wr,Gr w wr->∀(k:Nat)(l:List Int),i.mem[k]?=some l->∃bm om bl ol cl,vm=.slice (some ⟨bm,om,none⟩) i.mem.length (match vm with|.slice _ _ c=>c|_=>0)/\wr.cell? ⟨bm,om+k,none⟩=some (.slice (some ⟨bl,ol,none⟩) l.length cl)/\∀F,Gr wr F->∀j z,l[j]?=some z->F.cell? ⟨bl,ol+j,none⟩=some (.int .i64 z)):=fun wr g k l O=>by obtain⟨A,c,rfl,-,-,h3⟩:=hm;obtain⟨b,o,rfl,hb,h4⟩:=h3 (by have:=(sR.1 O).1;omega);obtain⟨u,W,Al,cl,rfl,-,-,h5⟩:=h4 k l O;obtain⟨bl,ol,rfl,cP,h6⟩:=h5 (au.out k l O).1;exact⟨b,o,bl,ol,cl,rfl,(g.cell _ _ (by omega)).trans W,fun F X j z hz=>((g.trans X).cell _ _ (by omega)).trans (h6 j z hz)⟩
 have aS:Hid (i.mem.map (fun r=>(r.length:Int))=f.slots):=aq
 have bA:Hid (i.mem.length<=1000):=by show _<=_;have D:=congrArg List.length aq;rw[tt]at D;omega
 have aQ:Hid (i.args.length<=Ref.count f):=by show _<=_;omega
 have bp:Hid (∀wr,Gr w wr->∀k x,i.args[k]?=some x->∃b o,va=.slice (some ⟨b,o,none⟩) i.args.length (match va with|.slice _ _ c=>c|_=>0)/\wr.cell? ⟨b,o+k,none⟩=some (.int .u32 x)):=fun wr g k x hx=>by obtain⟨A,c,rfl,-,-,h3⟩:=HA.out;obtain⟨b,o,rfl,hb,h4⟩:=h3 (by have:=(sR.1 hx).1;omega);exact⟨b,o,rfl,(g.cell _ _ (by omega)).trans (h4 k x hx)⟩
 have HM:=dJ hm;have HV:=dJ hf;have HI:=dJ hi;have bq:=dJ hB0;have C:=dJ hN;have bP:W0.cell? ⟨N,0,none⟩=some (.slice Ap f.params.length cp):=tv _ _ 0 _ _ _ q0
 have I:∀(i:Nat)(v:Value),(#[Value.slice Ap f.params.length cp,.int .i64 f.ret,.slice As f.slots.length cs,.slice (some ⟨bb,ob,none⟩) f.blocks.length cb]:Array Value)[i]?=some v->W1.cell? ⟨N,i,none⟩=some v/\W2.cell? ⟨N,i,none⟩=some v:=fun i v hv =>
  ⟨(tv _ _ i _ _ _ ((gA.heap _ (by omega)).trans q0)).trans hv,(tv _ _ i _ _ _ aT.out.fb).trans hv⟩
 obtain⟨x0,y0⟩:=I 0 _ rfl;obtain⟨x1,y1⟩:=I 1 _ rfl;obtain⟨x2,y2⟩:=I 2 _ rfl;obtain⟨x3,y3⟩:=I 3 _ rfl;obtain⟨Aa,ca,rfl,-,-,-⟩:=ha;obtain⟨ae,ab,rfl,-,-,-⟩:=hm;clear b3 b4 hi hv ct b7 aw hN gA gB gW q0 q1 b0 aq bP I ck hf;rw[<-C.out]at s0 s1 s2 x0 x1 x2 x3 y0 y1 y2 y3
 go_enter func79, ntmps79
 go_wp2
 go_loopw [8,25] (fun s8 aL wr=>∃(k:Nat)(A:Option Addr)(c:Nat),k<=f.blocks.length/\aL=.int .i64 (k:Int)/\s8=.int .i64 (Ref.number f k:Nat) /\
     Hid (SS N w wr (.slice Ap f.params.length cp) f.ret (.slice As f.slots.length cs) (.slice (some ⟨bb,ob,none⟩) f.blocks.length cb) (.iface T p) (.slice Aa i.args.length ca) (.slice ae i.mem.length ab) (.slice none 0 0) (.slice none 0 0) (.slice A k c) (.slice none 0 0)) /\
     Hid (Own1 (N+3) 3 wr (.slice A k c) (frL f k))) (fun _ aL _=>f.blocks.length-(intOf aL).toNat)
 case atStart=>exact⟨0,none,0,tR _,rfl,by (congr 1),aT,Own1.nil _ _ _⟩
 case round =>
  obtain⟨k,A,c,hk,rfl,rfl,d,m⟩:=hrel;by_cases Z:k<f.blocks.length
  ·obtain⟨l,O⟩:∃l,f.blocks[k]?=some l:=⟨_,sQ Z⟩;obtain⟨Al,cl,b8⟩:=br.out wr d.out.gr k l O;obtain⟨n1,n2⟩:=bC.out k l O;have c7:wr.cell? ⟨w.heap.size+2,7,none⟩=some (.slice A k c):=by rw[C.out];exact tv _ _ 7 _ _ _ d.out.st
   have bB:Hid ((Ref.number f (k+1):Nat)=Ref.number f k+l.length):=n1;obtain⟨q,H⟩:=xJ (Ref.number f k);have HQ:=dJ H;rw[H]at n2;rw[H];clear O n1 H;go_wp2_with (at_builtin;refine qH (n:=k) (v:=.slice A k c) underlying33 cc cy cz cA rfl (by omega) rfl (.tmp 33) (.tmp 35) rfl (kr f k) rfl m.out rfl rfl (by omega) (by have:=d.out.lt;omega) ?_;intro J K R ac ak ag;have ap:=dJ (d.out.push m.out ak ac);have cU:R.cell? ⟨w.heap.size+2,7,none⟩=some (.slice A k c):=(by rw[C.out];exact tv _ _ 7 _ _ _ ap.out.1.st);have ar:R.frozen? ⟨w.heap.size+2,7,none⟩=false:=(by rw[C.out];exact tx _ _ 7 _ _ ap.out.1.st);clear ac ak ag)
   have bH:Hid (SS N w (R.setCell ⟨w.heap.size+2,7,none⟩ (.slice J (k+1) K)) (.slice Ap f.params.length cp) f.ret (.slice As f.slots.length cs) (.slice (some ⟨bb,ob,none⟩) f.blocks.length cb) (.iface T p) (.slice Aa i.args.length ca) (.slice ae i.mem.length ab) (.slice none 0 0) (.slice none 0 0) (.slice J (k+1) K) (.slice none 0 0)):=by rw[C.out];exact ap.out.1.put 7 _ rfl
   have bD:Hid (Own1 (N+3) 3 (R.setCell ⟨w.heap.size+2,7,none⟩ (.slice J (k+1) K)) (.slice J (k+1) K) (frL f (k+1))):=by rw[C.out,pt,HQ.out];exact ap.out.2.1 7
   refine⟨⟨k+1,J,K,by omega,by go_num,by rw[bB.out,HQ.out];go_num,bH,bD⟩,by simp[intOf];omega⟩
  ·obtain rfl:k=f.blocks.length:=by omega
   obtain⟨n,hn⟩:=xJ (Ref.count f);have a9:Ref.number f f.blocks.length=n:=hn;have ao:=dJ hn;rw[hn]at ah;rw[a9];clear hn a9 Z hk;obtain⟨Wa,bX⟩:∃Wa,Wa=wr:=⟨_,rfl⟩;subst bX;have bU:=fun T=>fg T n ah;have bF:Hid (Array.replicate n (Value.bool false)=((List.replicate n false).map Value.bool).toArray):=by (show _=_);simp
   have bT:=fun T=>pF T n ah;have bV:N+2<Wa.heap.size:=by have:=d.out.lt;omega
   have a5:Wa.cell? ⟨w.heap.size+2,5,none⟩=some (.slice none 0 0):=by rw[C.out];exact tv _ _ 5 _ _ _ d.out.st
   have a6:Wa.cell? ⟨w.heap.size+2,6,none⟩=some (.slice none 0 0):=by rw[C.out];exact tv _ _ 6 _ _ _ d.out.st
   have z5:Wa.frozen? ⟨w.heap.size+2,5,none⟩=false:=by rw[C.out];exact tx _ _ 5 _ _ d.out.st
   have z6:Wa.frozen? ⟨w.heap.size+2,6,none⟩=false:=by rw[C.out];exact tx _ _ 6 _ _ d.out.st
   have cL:w.heap.size+2<Wa.heap.size:=by rw[C.out];exact bV
   go_wp2
   go_cut [] (fun wx=>∃Bv Bh:Nat,Hid (MK N Wa wx (rM (.slice Ap f.params.length cp) f.ret (.slice As f.slots.length cs) (.slice (some ⟨bb,ob,none⟩) f.blocks.length cb) (.iface T p) (.slice (some ⟨Bv,0,none⟩) n n) (.slice (some ⟨Bh,0,none⟩) n n) (.slice A f.blocks.length c) (.slice none 0 0)) [(Bv,.cells (dF (List.replicate n Rn.zero)).toArray 24 (0,0)),(Bh,.cells ((List.replicate n false).map Value.bool).toArray 4 (0,0))]))
   case first =>
    go_region_with (fail)
    all_goals go_wp2
    all_goals go_meet
    all_goals rw[bF.out,C.out]
    all_goals first
     | exact⟨Wa.heap.size,Wa.heap.size+1,qu d.out.st _ _ _ _ _ _⟩
     | exact⟨Wa.heap.size+1,Wa.heap.size,(qu d.out.st _ _ _ _ _ _).mono (by intro q H;simp at H ⊢;exact H.symm)⟩
   case rest =>
    obtain⟨Bv,Bh,am⟩:=hcut;obtain⟨Wc,bY⟩:∃Wc,Wc=wc:=⟨_,rfl⟩;subst bY;have aj:=am.out.fr;obtain⟨aI,bk⟩:=am.out.at_ _ (List.mem_cons_self);obtain⟨aF,a4⟩:=am.out.at_ _ (List.mem_cons_of_mem _ (List.mem_cons_self))
    have aZ:Hid (SS N w Wc (.slice Ap f.params.length cp) f.ret (.slice As f.slots.length cs) (.slice (some ⟨bb,ob,none⟩) f.blocks.length cb) (.iface T p) (.slice Aa i.args.length ca) (.slice ae i.mem.length ab) (.slice (some ⟨Bv,0,none⟩) n n) (.slice (some ⟨Bh,0,none⟩) n n) (.slice A f.blocks.length c) (.slice none 0 0)):={
      gr:=Gr.below d.out.gr (aj.below (n:=N+2) (fun k hk=>by omega) (by omega)) (by rw[C.out];omega)
      n:=C.out.symm
      fb:=(aj.block _ (by omega) (by omega)).trans d.out.fb
      ib:=(aj.block _ (by omega) (by omega)).trans d.out.ib
      st:=am.out.st}
    have bW:Hid (Own1 (N+3) 3 Wc (.slice A f.blocks.length c) (frL f f.blocks.length)):=dh m.out fun k hk=>aj.block k (de m.out hk).2.1 (by have:=(de m.out hk).1;omega);have bS:N+3<=Bv:=by have:Wa.heap.size<=Bv:=bk;omega
    have bR:N+3<=Bh:=by have:Wa.heap.size<=Bh:=a4;omega
    have an:Bv≠Bh:=df aI aF (by decide);have bL:Hid (Wc.heap[Bv]?=some (.cells (dF (en Rn.zero (i.args.map Rn.word) n 0)).toArray 24 (0,0))):=by (show _=_);rw[ic];exact aI
    have bv:Hid (Wc.heap[Bh]?=some (.cells ((en false (i.args.map fun _=>true) n 0).map Value.bool).toArray 4 (0,0))):=by (show _=_);rw[ic];exact aF
    have a0:i.args.length<=n:=by have:=aQ.out;have:=ao.out;omega
    have c0:Wc.cell? ⟨w.heap.size+1,0,none⟩=some (.slice Aa i.args.length ca):=by rw[C.out];exact tv _ _ 0 _ _ _ aZ.out.ib
    clear am aj aI bk aF a4 d m a5 a6 z5 z6 bU bT;go_wp2
    go_loopw [57] (fun aM wr=>∃k:Nat,k<=i.args.length/\aM=.int .i64 (k:Int) /\
        Hid (SS N w wr (.slice Ap f.params.length cp) f.ret (.slice As f.slots.length cs) (.slice (some ⟨bb,ob,none⟩) f.blocks.length cb) (.iface T p) (.slice Aa i.args.length ca) (.slice ae i.mem.length ab) (.slice (some ⟨Bv,0,none⟩) n n) (.slice (some ⟨Bh,0,none⟩) n n) (.slice A f.blocks.length c) (.slice none 0 0)) /\
        Hid (Own1 (N+3) 3 wr (.slice A f.blocks.length c) (frL f f.blocks.length))/\Hid (wr.heap[Bv]?=some (.cells (dF (en Rn.zero (i.args.map Rn.word) n k)).toArray 24 (0,0))) /\
        Hid (wr.heap[Bh]?=some (.cells ((en false (i.args.map fun _=>true) n k).map Value.bool).toArray 4 (0,0)))) (fun aM _=>i.args.length-(intOf aM).toNat)
    case atStart=>exact⟨0,tR _,rfl,aZ,bW,bL,bv⟩
    case round =>
     obtain⟨k,hk,rfl,d,m,hv,hh⟩:=hrel;by_cases Z:k<i.args.length
     ·obtain⟨x,hx⟩:∃x,i.args[k]?=some x:=⟨_,sQ Z⟩;obtain⟨ba,oa,aJ,cQ⟩:=bp.out wr d.out.gr k x hx;injection aJ with aJ _ _;subst aJ;have c5:wr.cell? ⟨w.heap.size+2,5,none⟩=some (.slice (some ⟨Bv,0,none⟩) n n):=by rw[C.out];exact tv _ _ 5 _ _ _ d.out.st
      have c6:wr.cell? ⟨w.heap.size+2,6,none⟩=some (.slice (some ⟨Bh,0,none⟩) n n):=by rw[C.out];exact tv _ _ 6 _ _ _ d.out.st
      have a7:k<n:=by omega
      obtain⟨y,hy⟩:∃y,(en Rn.zero (i.args.map Rn.word) n k)[k]?=some y:=⟨_,sQ (by rw[gs _ _ _ _ (by simp;omega) (by simp;omega)];exact a7)⟩;obtain⟨z,hz⟩:∃z,(en false (i.args.map fun _=>true) n k)[k]?=some z:=⟨_,sQ (by rw[gs _ _ _ _ (by simp;omega) (by simp;omega)];exact a7)⟩;obtain⟨ar,aO,aP⟩:=eH _ _ _ hy;rw[Nat.mul_comm]at ar aO aP;have d0:wr.cell? ⟨Bv,k*3,none⟩=some (.bool y.p):=(tv _ _ _ _ _ _ hv.out).trans (by simpa using ar);have d1:wr.cell? ⟨Bv,k*3+1,none⟩=some (.int .i64 y.s):=(tv _ _ _ _ _ _ hv.out).trans (by simpa using aO);have d2:wr.cell? ⟨Bv,k*3+2,none⟩=some (.int .u32 y.n):=(tv _ _ _ _ _ _ hv.out).trans (by simpa using aP);have e0:wr.cell? ⟨Bh,k,none⟩=some (.bool z):=(tv _ _ _ _ _ _ hh.out).trans (by simp[hz]);have f0:wr.frozen? ⟨Bv,k*3,none⟩=false:=tx _ _ _ _ _ hv.out;have f1:wr.frozen? ⟨Bv,k*3+1,none⟩=false:=tx _ _ _ _ _ hv.out;have f2:wr.frozen? ⟨Bv,k*3+2,none⟩=false:=tx _ _ _ _ _ hv.out;have f3:wr.frozen? ⟨Bh,k,none⟩=false:=tx _ _ _ _ _ hh.out;have n1:w.heap.size+2≠Bv:=by rw[C.out];omega
      have n2:w.heap.size+2≠Bh:=by rw[C.out];omega
      have bh:=cY (i:=k*3) (.bool false) hv.out;have bi:=cY (i:=k*3+1) (.int .i64 0) bh;have bj:=cY (i:=k*3+2) (.int .u32 x) bi;have er:=iU (en Rn.zero (i.args.map Rn.word) n k) k (Rn.word x);rw[hU Rn.zero (i.args.map Rn.word) n k (by simp;omega) (Rn.word x) (by rw[td,hx];rfl)]at er;have az:=oB (en false (i.args.map fun _=>true) n k) k;rw[hU false (i.args.map fun _=>true) n k (by simp;omega) true (by rw[td,hx];rfl)]at az;obtain⟨W9,aE⟩:=xJ (((((wr.setCell ⟨Bv,k*3,none⟩ (.bool false)).setCell ⟨Bv,k*3+1,none⟩ (.int .i64 0)).setCell ⟨Bv,k*3+2,none⟩ (.int .u32 x)).setCell ⟨Bh,k,none⟩ (.bool true)))
      have aA:FrS (fun q=>q=Bv\/q=Bh) wr W9:=by rw[<-aE];exact((((FrS.refl (fun q=>q=Bv\/q=Bh) wr).setCell (p:=⟨Bv,k*3,none⟩) (.inl rfl) _).setCell (p:=⟨Bv,k*3+1,none⟩) (.inl rfl) _).setCell (p:=⟨Bv,k*3+2,none⟩) (.inl rfl) _).setCell (p:=⟨Bh,k,none⟩) (.inr rfl) _
      have bM:Hid (W9.drew.heap[Bv]?=some (.cells (dF (en Rn.zero (i.args.map Rn.word) n (k+1))).toArray 24 (0,0))):=by show W9.heap[Bv]?=_;rw[<-er,<-aE];exact(tH _ _ _ _ an).trans bj
      have bw:Hid (W9.drew.heap[Bh]?=some (.cells ((en false (i.args.map fun _=>true) n (k+1)).map Value.bool).toArray 4 (0,0))):=by show W9.heap[Bh]?=_;rw[<-az,<-aE];exact cY (i:=k) (.bool true) ((tH _ _ _ _ an.symm).trans ((tH _ _ _ _ an.symm).trans ((tH _ _ _ _ an.symm).trans hh.out)))
      have bI:=dJ ((d.out.keep aA (fun q H=>H.elim (fun e=>by omega) (fun e=>by omega))).grow ((tX W9).drew))
      have bE:Hid (Own1 (N+3) 3 W9.drew (.slice A f.blocks.length c) (frL f f.blocks.length)):=dh m.out fun q H=>aA.drew.block q (de m.out H).2.1 (by
        obtain⟨-,-,B,ht⟩:=de m.out H
        rintro (e|e)
        · subst e;exact df ht hv.out (by decide) rfl
        · subst e;exact df ht hh.out (by decide) rfl)
      clear hx hy hz ar aO aP bh bi bj er az d m hv hh aA;go_wp2
      go_region_with (fail)
      all_goals go_wp2
      all_goals exact⟨⟨k+1,by omega,by go_num,bI,bE,bM,bw⟩,by simp[intOf];omega⟩
     ·obtain rfl:k=i.args.length:=by omega
      obtain⟨We,bZ⟩:∃We,We=wr:=⟨_,rfl⟩;subst bZ
      have bN:Hid (We.heap[Bv]?=some (.cells (dF (Rn.start f i).vals).toArray 24 (0,0))):=by show _=_;rw[hv.out];unfold en Rn.start;rw[ao.out,tm (by simp)]
      have bx:Hid (We.heap[Bh]?=some (.cells ((Rn.start f i).had.map Value.bool).toArray 4 (0,0))):=by show _=_;rw[hh.out];unfold en Rn.start;rw[ao.out,tm (by simp)]
      have c1:We.cell? ⟨w.heap.size+1,1,none⟩=some (.slice ae i.mem.length ab):=by rw[C.out];exact tv _ _ 1 _ _ _ d.out.ib
      clear hv hh Z hk a0;go_wp2
      go_loopw [80] (fun aN wr=>∃(k:Nat)(us:List (Nat × Nat))(A8:Option Addr)(c8:Nat),k<=i.mem.length/\aN=.int .i64 (k:Int)/\us.length=k /\
          Hid (SS N w wr (.slice Ap f.params.length cp) f.ret (.slice As f.slots.length cs) (.slice (some ⟨bb,ob,none⟩) f.blocks.length cb) (.iface T p) (.slice Aa i.args.length ca) (.slice ae i.mem.length ab) (.slice (some ⟨Bv,0,none⟩) n n) (.slice (some ⟨Bh,0,none⟩) n n) (.slice A f.blocks.length c) (.slice A8 k c8)) /\
          Hid (Own1 (N+3) 3 wr (.slice A f.blocks.length c) (frL f f.blocks.length))/\Hid (wr.heap[Bv]?=some (.cells (dF (Rn.start f i).vals).toArray 24 (0,0))) /\
          Hid (wr.heap[Bh]?=some (.cells ((Rn.start f i).had.map Value.bool).toArray 4 (0,0))) /\
          Hid (MU N wr us i.mem (.slice A f.blocks.length c))/\Hid (Own1 (N+3) 33 wr (.slice A8 k c8) (usV us i.mem))) (fun aN _=>i.mem.length-(intOf aN).toNat)
      case atStart=>exact⟨0,[],none,0,tR _,rfl,rfl,d,m,bN,bx,MU.nil _ _ _ _,Own1.nil _ _ _⟩
      case round =>
       obtain⟨k,us,A8,c8,hk,rfl,M,d,m,hv,hh,G,Q⟩:=hrel;by_cases Z:k<i.mem.length
       ·obtain⟨l,O⟩:∃l,i.mem[k]?=some l:=⟨_,sQ Z⟩;obtain⟨bm,om,bl,ol,cl,aK,cR,a2⟩:=bz.out wr d.out.gr k l O;injection aK with aK _ _;subst aK;obtain⟨l1,l2⟩:=au.out k l O
        have CL:Hid (∀F,Gr wr F->Calls prog 100 #[.slice (some ⟨bl,ol,none⟩) l.length cl] F fun e w'=>∃b' E:Nat,e=.returned (.slice (some ⟨b',0,none⟩) l.length E)/\(F.heap.size<=b'/\l.length<=E/\E<=9223372036854775807/\∃B:Array Value,w'.heap[b']?=some (.cells B 3 (0,0))/\∀(i:Nat)(z:Int),l[i]?=some z->B[i]?=some (.int .i64 z))/\Gr F w'):=fun F X=>by
         refine(Tryz.slices_Clone_int bl ol l.length cl l F (tS _) (by omega) (fun j Y=>by
           rw[sU,sQ Y]
           exact a2 F X j _ (sQ Y))).mono ?_
         rintro e w' ⟨v',rfl,ho,ci,a1⟩;obtain⟨o1,o2⟩:=ho;rcases o2 with ⟨rfl,-⟩|⟨g,E,B,rfl,hg,hc,h3,h4,h5,h6⟩
         ·exact absurd rfl ci
         ·refine⟨g,E,rfl,⟨hg,h3,by unfold maxLen at h4;omega,B,hc,fun q z hz=>?_⟩,a1⟩;have H:=(sR.1 hz).1;have h7:=congrArg (fun r=>r[q]?) h6;simp only[tk,td,tE,hz,Option.map_some,Nat.mul_one,tB H]at h7;simpa using h7
        have ad:Hid (∀F,Gr wr F->Own1 (N+3) 33 F (.slice A8 k c8) (usV us i.mem)/\F.cell? ⟨w.heap.size+2,8,none⟩=some (.slice A8 k c8)/\F.frozen? ⟨w.heap.size+2,8,none⟩=false/\N+3<=F.heap.size):=fun F X=>by have D:=d.out.grow X;exact⟨Q.out.gr X,by rw[C.out];exact tv _ _ 8 _ _ _ D.st,by rw[C.out];exact tx _ _ 8 _ _ D.st,D.lt⟩
        have aR:Hid (∀(F R:World)(bn:Obj)(b' E:Nat)(J:Option Addr)(K:Nat),Gr wr F->(wr.heap.size<=b'/\l.length<=E/\E<=9223372036854775807/\∃B:Array Value,F.heap[b']?=some (.cells B 3 (0,0))/\∀(i:Nat)(z:Int),l[i]?=some z->B[i]?=some (.int .i64 z)) ->
            (F.alloc bn).grownBy R (Value.slice A8 k c8).ownBlock->Own1 (N+3) 33 R (.slice J (k+1) K) (usV us i.mem++[.slice (some ⟨b',0,none⟩) l.length E]) ->
            (R.cell? ⟨w.heap.size+2,8,none⟩=some (.slice A8 k c8)/\R.frozen? ⟨w.heap.size+2,8,none⟩=false) /\
            SS N w (R.setCell ⟨w.heap.size+2,8,none⟩ (.slice J (k+1) K)) (.slice Ap f.params.length cp) f.ret (.slice As f.slots.length cs) (.slice (some ⟨bb,ob,none⟩) f.blocks.length cb) (.iface T p) (.slice Aa i.args.length ca) (.slice (some ⟨bm,om,none⟩) i.mem.length ab) (.slice (some ⟨Bv,0,none⟩) n n) (.slice (some ⟨Bh,0,none⟩) n n) (.slice A f.blocks.length c) (.slice J (k+1) K) /\
            Own1 (N+3) 3 (R.setCell ⟨w.heap.size+2,8,none⟩ (.slice J (k+1) K)) (.slice A f.blocks.length c) (frL f f.blocks.length)/\((R.setCell ⟨w.heap.size+2,8,none⟩ (.slice J (k+1) K)).heap[Bv]?=some (.cells (dF (Rn.start f i).vals).toArray 24 (0,0))) /\
            ((R.setCell ⟨w.heap.size+2,8,none⟩ (.slice J (k+1) K)).heap[Bh]?=some (.cells ((Rn.start f i).had.map Value.bool).toArray 4 (0,0))) /\
            MU N (R.setCell ⟨w.heap.size+2,8,none⟩ (.slice J (k+1) K)) (us++[(b',E)]) i.mem (.slice A f.blocks.length c)/\Own1 (N+3) 33 (R.setCell ⟨w.heap.size+2,8,none⟩ (.slice J (k+1) K)) (.slice J (k+1) K) (usV (us++[(b',E)]) i.mem)):=by
         intro F R bn b' E J K X b6 hg ac;rw[C.out];have co:=d.out.grow X;have bd:=Q.out.gr X;obtain⟨p1,p2,p3⟩:=co.push bd hg ac;have hF:=p3 8
         have bc:∀{q:Nat} {B:Array Value} {t:TypeId},F.heap[q]?=some (.cells B t (0,0))->t≠33->N+3<=q->¬((Value.slice A8 k c8).ownBlock=some q\/q=N+2):=by
          rintro q B t H ht aY (e|e)
          ·obtain⟨-,-,af,cq⟩:=de bd e;exact df H cq ht rfl
          ·omega
         have aa:∀{q:Nat} {B:Array Value} {t:TypeId},F.heap[q]?=some (.cells B t (0,0))->t≠33->N+3<=q->(R.setCell ⟨N+2,8,none⟩ (.slice J (k+1) K)).heap[q]?=some (.cells B t (0,0)):=fun H ht aY=>(hF.block _ (cX H) (bc H ht aY)).trans H;obtain⟨b1,b2,bO,B,aU,b5⟩:=b6;have a8:=d.out.lt;have cG:=X.size;have cH:F.heap.size<=(R.setCell ⟨N+2,8,none⟩ (.slice J (k+1) K)).heap.size:=hF.size;refine⟨⟨tv _ _ 8 _ _ _ p1.st,tx _ _ 8 _ _ p1.st⟩,p1.put 8 _ rfl,dh m.out fun q H=>?_,aa ((X.heap _ (cX hv.out)).trans hv.out) (by decide) bS,aa ((X.heap _ (cX hh.out)).trans hh.out) (by decide) bR,⟨?_,?_,?_,?_⟩,?_⟩
         ·obtain⟨D,L,af,h3⟩:=de m.out H;exact(aa ((X.heap _ L).trans h3) (by decide) D).trans h3.symm
         ·intro j b U l' D L;rcases tF j us.length with Y|Y
          ·rw[te Y]at D;obtain⟨r1,r2,r3,af,r4,r5⟩:=G.out.row j b U l' D L;exact⟨r1,r2,r3,af,aa ((X.heap _ (cX r4)).trans r4) (by decide) r1,r5⟩
          ·rw[tj Y]at D
           obtain rfl:j=us.length:=by
            rcases tF us.length j with q|q
            ·rw[tp (by simp;omega)]at D;cases D
            ·omega
           rw[Nat.sub_self]at D;simp at D;obtain⟨rfl,rfl⟩:=D;rw[M,O]at L;injection L with L;subst L;exact⟨by omega,b2,bO,B,aa aU (by decide) (by omega),b5⟩
         ·rw[List.map_append,List.nodup_append];refine⟨G.out.apart,by simp,fun a ha b hb=>?_⟩;simp at hb;subst hb;obtain⟨u,W,rfl⟩:=List.mem_map.1 ha;have:=G.out.all u W;omega
         ·intro u W;rcases tI.1 W with W|W
          ·exact G.out.off u W
          ·simp at W;subst W;intro e;have:=(de m.out e).2.1;dsimp only at this;omega
         ·intro u W;rcases tI.1 W with W|W
          ·have:=G.out.all u W;omega
          ·simp at W;subst W;have:=cX aU;show b'<_;omega
         ·rw[lF us i.mem (b',E) l (by rw[M];exact O)];exact p2 8
        have aH:(usV us i.mem).length=k:=by rw[lg _ _ (by omega),M]
        have bJ:=dJ aH;have mixed:(prog).follows .mixedOrders=true:=by kernel_rfl
        obtain⟨-,o8,z8,-⟩:=ad.out wr (tX _);have Q8:=fun o=>(ad.out (wr.drew.alloc o) (((tX wr).drew).alloc o)).2.1;have bg:(us++[((0:Nat),(0:Nat))]).length=k+1:=by simp[M]
        have bK:Hid (∀u:Nat × Nat,(us++[u]).length=k+1):=fun u=>by simp[M]
        have bo:k<1000000:=by have:=HI.out;have h3:=aH;have:i.mem.length<=1000:=bA.out;omega
        clear O M d m hv hh G Q a2 aH bg;go_wp2
        go_region_law_o (first|(refine mT rfl (f:=100) (args:=#[.slice (some ⟨bl,ol,none⟩) l.length cl]) (by simp[go_sem,Act.eval,Act.put]) ((CL.out _ ((tX wr).drew)).mono ?_);rintro e F ⟨b',E,rfl,be,X⟩;refine⟨_,rfl,?_⟩;have G1:Hid (Gr wr F):=((tX wr).drew).trans X;have bG:=dJ be;have ay:=dJ (ad.out F G1.out);have cT:=ay.out.2.1;have cI:=fun o=>(ad.out (F.alloc o) (G1.out.alloc o)).2.1;clear be X)|(refine eq (n:=k) (v:=.slice A8 k c8) underlying25 cd cu cv cw rfl (by omega) rfl (.tmp 88) (.tmp 91) rfl bJ.out rfl ay.out.1 rfl rfl (by omega) ay.out.2.2.2 ?_;intro J K R ac ak ag;have ax:=dJ (aR.out F R _ b' E J K G1.out bG.out ak ac);have cV:=ax.out.1.1;have cW:=ax.out.1.2;clear ac ak ag))
        all_goals go_wp2
        all_goals
         obtain⟨-,j1,j2,j3,j4,j5,j6⟩:=ax.out;exact⟨⟨k+1,us++[(b',E)],J,K,by omega,by go_num,bK.out _,j1,j2,j3,j4,j5,j6⟩,by simp[intOf];omega⟩
       ·obtain rfl:k=i.mem.length:=by omega
        have a3:∃c9:Cfg,c9.n₀=B0/\c9.f=f/\c9.ch=.iface T p/\c9.Bs=w.heap.size+2/\PS c9 wr (Rn.start f i) 0 (-1) (.slice none 0 0)/\(∀k,Kept c9 k->w.heap.size<=k)/\c9.Bm<wr.heap.size:=by
         have a8:=d.out.lt;have cK:=C.out;have cB:B0<=N:=bq.out;obtain⟨bf,bQ,cO,cF,b9⟩:=dq (by have:=m.out;unfold Own1 at this;rw[kr]at this;exact this) rfl (by omega:0<f.blocks.length);subst bQ;obtain⟨-,cn⟩:=id m.out;have cE:N+3<=bf:=(de m.out (k:=bf) rfl).1;obtain⟨aV,ai⟩:=(de m.out (k:=bf) rfl).2.2
         have av:f.blocks.length<=c/\c<=9223372036854775807:=by
          rcases cn with ⟨e,-⟩|⟨g,E,B,e,-,-,D,L,-⟩
          ·cases e
          ·injection e with _ e1 e2;unfold maxLen at L;rw[kr]at D;omega
         have cj:i.mem.length<=c8/\c8<=9223372036854775807:=by
          obtain⟨-,hr⟩:=id Q.out;rcases hr with ⟨e,h0⟩|⟨g,E,B,e,-,-,D,L,-⟩
          ·injection e with _ e1 e2;omega
          ·injection e with _ e1 e2;unfold maxLen at L;rw[lg _ _ (by omega),M]at D;omega
         obtain⟨Bm,cC,aW,aX⟩:∃Bm:Nat,N+2<=Bm/\Bm<wr.heap.size/\(0<us.length->A8=some ⟨Bm,0,none⟩/\∃B:Array Value,wr.heap[Bm]?=some (.cells B 33 (0,0))/\∀j v,(usV us i.mem)[j]?=some v->B[j]?=some v):=by
          by_cases h0:0<us.length
          ·obtain⟨-,hr⟩:=id Q.out;rcases hr with ⟨e,D⟩|⟨g,E,B,e,D,L,-,-,-,h3⟩
           ·rw[lg _ _ (by omega)]at D;omega
           ·injection e with e1 _ _;refine⟨g,by omega,cX L,fun _=>⟨e1,B,L,fun j v Y=>?_⟩⟩;rw[<-h3,tk]at Y;split at Y
            ·simpa using Y
            ·cases Y
          ·exact⟨N+2,tS _,by omega,fun q=>absurd q h0⟩
         have cJ:us.length=0->A8=none\/True:=fun _=>.inr trivial;have cS:Bv≠Bh:=an;refine⟨{n₀:=B0,f:=f,vp:=.slice Ap f.params.length cp,vs:=.slice As f.slots.length cs,vb:=.slice (some ⟨bb,ob,none⟩) f.blocks.length cb,ch:=.iface T p,Bf:=bf,cf:=c,Am:=A8,Bm:=Bm,cm:=c8,us:=us,Bs:=N+2,Bv:=Bv,Bh:=Bh},rfl,rfl,rfl,by show N+2=_;omega,?_,?_,aW⟩
         ·exact {
             st:=by
               have D:=d.out.st
               have e1:(Rn.start f i).vals.length=n:=by
                 have:=aQ.out
                 have:=ao.out
                 unfold Rn.start;simp;omega
               rw[e1]
               show wr.heap[N+2]?=_
               rw[D]
               unfold rM mR Cfg.first Cfg.mv
               dsimp only
               rw[M];rfl
             vals:=hv.out
             had:=hh.out
             hlen:=by unfold Rn.start;simp
             mem:=⟨by show i.mem.length=us.length;omega,fun j b U l' D L=>by
               obtain⟨r1,r2,r3,r4⟩:=G.out.row j b U l' D L
               exact⟨r2,r3,r4⟩⟩
             slots:=⟨by show us.length<=c8;omega,cj.2,fun ce=>by
               obtain⟨q1,B,q2,q3⟩:=aX ce
               refine⟨q1,B,q2,fun j b U z D L=>q3 j _ ?_⟩
               have hz:i.mem[j]?.map (fun r=>(r.length:Int))=some z:=by rw[<-td,aS.out];exact L
               obtain⟨l',al,cx⟩:=Option.map_eq_some_iff.1 hz
               unfold usV
               rw[List.getElem?_zipWith,D,al,<-cx]
               rfl⟩
             fn:=bu.out.below (Below.mono d.out.gr (by omega))
             first:=⟨av.1,av.2,aV,ai,fun j Y=>by
               have aG:j<f.blocks.length:=Y
               have D:=b9 j (by omega)
               rw[tv _ _ j _ _ _ ai]at D
               rw[D]
               unfold frL
               rw[td,List.getElem?_range aG];rfl⟩
             old:=⟨by show B0<=N+2;omega,by show B0<=Bv;omega,by show B0<=Bh;omega,by show B0<=bf;omega,by show B0<=Bm;omega,fun j b U D=>by
               have cg:=sS D
               have Y:=(sR.1 D).1
               obtain⟨l',al⟩:∃l',i.mem[j]?=some l':=⟨_,sQ (by have:us.length=i.mem.length:=M;have aG:j<us.length:=Y;omega)⟩
               have r1:=(G.out.row j b U l' D al).1
               refine⟨by show B0<=b;omega,fun e=>?_⟩
               have e':b=bf:=e
               exact G.out.off (b,U) cg (by rw[e'];rfl)⟩
             apart:=G.out.apart}
         ·intro q H;rcases H with (e|e|e|⟨j,U,D⟩)|e|e
          ·have e':q=N+2:=e;omega
          ·have e':q=Bv:=e;omega
          ·have e':q=Bh:=e;omega
          ·have Y:=(sR.1 D).1;obtain⟨l',al⟩:∃l',i.mem[j]?=some l':=⟨_,sQ (by have:us.length=i.mem.length:=M;have aG:j<us.length:=Y;omega)⟩;have r1:=(G.out.row j q U l' D al).1;omega
          ·have e':q=bf:=e;omega
          ·have e':q=Bm:=e;omega
        obtain⟨c9,e1,e2,e3,e4,e5,e6,e7⟩:=a3;have S:=dJ (And.intro e5 (And.intro d.out.gr (And.intro e6 e7)));have bs:=dJ e4;clear e5 e6 e7 d m hv hh G Q Z hk;go_wp2;go_ret;exact⟨c9,e1,e2,e3,by (show _=Ending.returned (.pointer (some ⟨c9.Bs,0,none⟩)));rw[bs.out];rfl,S.out.1,S.out.2.1,S.out.2.2.1,S.out.2.2.2⟩
end

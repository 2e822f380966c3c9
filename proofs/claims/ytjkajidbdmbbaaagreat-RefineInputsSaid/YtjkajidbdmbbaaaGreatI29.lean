/- Parts. -/
import Derived.Test.YtjkajidbdmbbaaaGreatI28
import Derived.Deep.CutRange
import Derived.Deep.CutBlock
set_option linter.unusedSimpArgs false
set_option linter.unusedVariables false
set_option maxRecDepth 100000
set_option maxHeartbeats 16000000
open Go.Proofs.Tryz
namespace Go.Proofs.YtjkajidbdmbbaaaGreat
section
open Go.RowKit
section
variable {c:Cfg}{w:World}{s:Rn.St}{b frm:Int}{vt:Value}
theorem kK (x:Ins)(va vt' vl:Value)(o:x.op=0)(p:Value):Calls prog 173 #[p,du x va vt',vl] w (RG (vI (Rn.word x.imm)) w):=by
 unfold du;rw[o]
 go_enter func173, ntmps173
 go_wp2;go_ret;exact⟨rfl,(tX w).alloc _⟩
theorem my (x:Ins)(va vt' vl:Value)(o:x.op=24)(p:Value)(h0:0<=x.imm)(h1:x.imm<=1000000):Calls prog 173 #[p,du x va vt',vl] w (RG (vI ⟨false,x.imm+1,0⟩) w):=by
 unfold du;rw[o]
 go_enter func173, ntmps173
 go_wp2;go_ret;exact⟨rfl,(tX w).alloc _⟩
theorem ou (h:PS c w s b frm vt)(hf:VFn c.f)(x:Ins)(va vt':Value)(hx:IntsAt c.n₀ w va x.args)(vl:Value)(l0 l1:Rn.V)(hl:LAt w vl [l0,l1])(o:x.op=25)(a d:Int)(ha:x.args=[a,d])(hfl:x.flags=0\/x.flags=8)(hk:Wd.Wid (Ref.kind c.f d))(h0:Rn.VOK c.f 33 l0)(hp:l0.p=false)(h1:Wd.Word (Ref.kind c.f d) l1.n) :
  Calls prog 173 #[.pointer (some ⟨c.Bs,0,none⟩),du x va vt',vl] w (RG (vI (Rn.gep c.f.slots x.flags (Ref.kind c.f d) l0 l1)) w):=by
 obtain⟨W,F⟩:=xJ (eU w x va vt');have m:Gr w W:=by rw[<-F];exact(tX w).alloc _
 have g0:Gr (eU w x va vt') W:=by rw[F];exact tX _
 have L:=Rn.kind_pos (f:=c.f) (v:=d) (by have:=hk.1;omega);have CK:=dJ fun(u:GrW W)=>ep (h.gr (m.trans u.gr)) hf d L.1 L.2;obtain⟨k,N⟩:=xJ (Ref.kind c.f d);rw[N]at CK hk h1 ⊢;have Y:=dJ fun(l:World)=>ke k l1.n l hk h1;have sr:=Wd.sg_range hk h1;have sb:=Ops.sg_bd hk h1;obtain⟨B,hB⟩:=xJ (Wd.sg k l1.n);rw[hB]at Y sr sb;obtain⟨p1,p2,p3,p4⟩:=h0.ptr hp;obtain⟨n,O⟩:∃n,c.f.slots[(l0.s-1).toNat]?=some n:=⟨_,sQ (by omega)⟩
 have ac:1<=n/\n<=8:=by have:=tu.1 hf.val.head.2 n (sS O);unfold Ref.isSlot at this;simp at this;omega
 obtain⟨Z,S⟩:=xJ ((l0.n+B)%4294967296)
 have HR:Hid (Rn.gep c.f.slots x.flags k l0 l1=if x.flags=8/\n<Z then Rn.poison else ⟨false,l0.s,Z⟩):=by show _=_;unfold Rn.gep;rw[hB,S,sU,O];rfl
 have ab:=h.fn;obtain⟨an,ao,am,e,-,hs,-⟩:=ab;injection e with e;injection e with e;injection e with e1 e;injection e with _ e;injection e with e3 e;have cs:w.cell? ⟨c.Bs,2,none⟩=some c.vs:=h.cell 2;rw[e3]at cs;obtain⟨As,J,rfl,s1,s2,s3⟩:=hs;obtain⟨H,T,rfl,ai,s4⟩:=s3 (by omega);have y:H<w.heap.size:=by have:=h.n₀;omega
 obtain⟨j,hj⟩:=tb (show 0<=l0.s-1 by omega);have M:(l0.s-1).toNat=j:=by omega
 rw[M]at O;have cn:=s4 j n O;have ak:j<c.f.slots.length:=by omega
 have ag:(j:Int)<c.f.slots.length:=by omega
 have K:=cX h.st;obtain⟨R,rfl,r⟩:=hl;obtain⟨Aa,ca,rfl,a1,a2,a3⟩:=hx;rw[ha]at a1 a3;obtain⟨ba,oa,rfl,aj,a4⟩:=a3 (by simp);have z:ba<w.heap.size:=by have:=h.n₀;omega
 have c1:=a4 1 d rfl;have X:=fun(u:GrW W)=>dn (g0.trans u.gr);have V0:∀u:GrW W,u.val.cell? ⟨w.heap.size,0,none⟩=some (.int .i64 25):=fun u=>by rw[<-o];exact(X u).1
 have aa:W.cell? ⟨w.heap.size,0,none⟩=some (.int .i64 25):=V0 ⟨W,tX _⟩;have V3:∀u:GrW W,u.val.cell? ⟨w.heap.size,3,none⟩=some (.slice (some ⟨ba,oa,none⟩) 2 ca):=fun u=>by have:=(X u).2.2.2.1;rw[ha]at this;exact this
 have A1:∀u:GrW W,u.val.cell? ⟨ba,oa+1,none⟩=some (.int .i64 d):=fun u=>((m.trans u.gr).cell _ _ z).trans c1;have L1:∀u:GrW W,u.val.cell? ⟨R,5,none⟩=some (.int .u32 l1.n):=fun u=>(LAt.cells (((m.trans u.gr).heap _ (cX r)).trans r) (k:=1) rfl).2.2
 have A:Hid (∀l,Gr W l->(l.cell? ⟨R,1,none⟩=some (.int .i64 l0.s)/\l.cell? ⟨R,2,none⟩=some (.int .u32 l0.n))/\l.cell? ⟨w.heap.size,2,none⟩=some (.int .i64 x.flags)/\l.cell? ⟨c.Bs,2,none⟩=some (.slice (some ⟨H,T,none⟩) c.f.slots.length J)/\l.cell? ⟨H,T+j,none⟩=some (.int .i64 n)/\(R<l.heap.size/\w.heap.size<l.heap.size/\c.Bs<l.heap.size/\H<l.heap.size)):=fun l g=>by
  have q:=LAt.cells (((m.trans g).heap _ (cX r)).trans r) (k:=0) rfl;have al:=g.size;have ah:w.heap.size<W.heap.size:=by rw[<-F];unfold eU;simp
  have:=cX r;exact⟨⟨q.2.1,q.2.2⟩,(dn (g0.trans g)).2.2.1,((m.trans g).cell _ _ K).trans cs,((m.trans g).cell _ _ y).trans cn,by omega,by omega,by omega,by omega⟩
 have HG:=dJ m;have HZ:=dJ S;unfold eU at F;rw[ha,show [a,d].length=2 from rfl]at F ⊢;unfold du;rw[o]at F ⊢;obtain⟨n1,n2⟩:=ac;obtain⟨z0,z1⟩:0<=Z/\Z<4294967296:=by rw[<-S];exact⟨Int.emod_nonneg _ (by decide),Int.emod_lt_of_pos _ (by decide)⟩
 clear h hf N hk h0 hp h1 a3 a4 c1 r X g0 m hB sr s3 s4 cn cs e1 e e3 O M K y z;have e2:(l0.n+B%4294967296)%4294967296=Z:=by rw[<-S];omega
 have E3:Hid (IntKind.u32.wrap (l0.n+IntKind.u32.wrap B)=Z):=by show _=_;rw[eD,eD];exact e2
 clear e2;have WS:Hid (IntKind.i64.wrap (l0.s-1)=(j:Int)):=by show _=_;rw[IntWalk.i64_in _ (by omega)];exact hj
 have WN:Hid (IntKind.u32.wrap n=n):=by show _=_;rw[eD];omega
 go_enter func173, ntmps173
 go_wp2;refine dg (by kernel_rfl) (by kernel_rfl) ?_;repeat (go_big_quiet_step ((rename_i u;first|(go_at_call 170;exact dt u (CK.out u))|(go_at_call 196;exact dt u (Y.out u.val)))))
 refine wpQuiet_nil ?_;intro w9 ae;obtain⟨G,rfl⟩:=ae;obtain⟨⟨k0,k1⟩,k2,k3,k4,r1,r2,r3,r4⟩:=A.out G.val G.gr;have t:=dJ (HG.out.trans G.gr)
 have D:Hid (∀l,Gr G.val l->l.cell? ⟨w.heap.size,2,none⟩=some (.int .i64 x.flags)/\l.cell? ⟨c.Bs,2,none⟩=some (.slice (some ⟨H,T,none⟩) c.f.slots.length J)/\l.cell? ⟨H,T+j,none⟩=some (.int .i64 n)):=fun l g=>by obtain⟨-,Q,q3,q4,-⟩:=A.out l (G.gr.trans g);exact⟨Q,q3,q4⟩
 obtain⟨V,hV⟩:=xJ G.val;rw[hV]at k0 k1 k2 k3 k4 r1 r2 r3 r4 t D ⊢;clear V0 aa V3 A1 L1 A CK Y hV G F;go_wp2
 go_upto_region 20 with (fail)
 go_cut [12] (fun af U=>∃C:Nat,af=.pointer (some ⟨C,0,none⟩)/\Hid (Gr V U/\U.cell? ⟨C,0,none⟩=some (.bool false)/\U.cell? ⟨C,1,none⟩=some (.int .i64 l0.s)/\U.cell? ⟨C,2,none⟩=some (.int .u32 Z)))
 case first =>
  go_region_with (fail)
  all_goals go_wp2
  all_goals go_meet
  all_goals exact⟨_,rfl,⟨by repeat (first|with_reducible exact tX _|with_reducible refine Gr.drew ?_|with_reducible refine Gr.alloc ?_ _|with_reducible refine Gr.setCell ?_ (tS _) _),by simp,by simp,by simp;exact E3.out⟩⟩
 case rest =>
  obtain⟨C,rfl,hC⟩:=hcut;obtain⟨gV,m0,m1,m2⟩:=hC.out;obtain⟨Q,q3,q4⟩:=D.out _ gV;have E:=dJ gV;have ws:=WS.out;have wn:=WN.out;have d0:(bits .and .i64 0 8 != 0)=false:=by decide
  have d8:(bits .and .i64 8 8 != 0)=true:=by decide
  clear gV k2 k3 k4 k0 k1 D r1 r2 r3 r4;rcases hfl with hfl|hfl
  ·have I:Hid (Rn.gep c.f.slots x.flags k l0 l1=⟨false,l0.s,Z⟩):=by show _=_;rw[HR.out,tC (by omega)]
   rw[hfl]at Q;clear hfl;go_wp2;go_quiet ((fail));all_goals go_wp2
   all_goals go_ret
   all_goals exact⟨by rw[I.out];rfl,(t.out.trans E.out).drewN _⟩
  ·by_cases ad:n<Z
   ·have I:Hid (Rn.gep c.f.slots x.flags k l0 l1=Rn.poison):=by show _=_;rw[HR.out,tB ⟨hfl,ad⟩]
    rw[hfl]at Q;clear hfl;go_wp2;go_quiet ((fail));all_goals go_wp2_with (go_at_call 171;refine(dl _).mono ?_;rintro e w8 ⟨rfl,g8⟩)
    all_goals go_ret
    all_goals exact⟨by rw[I.out];rfl,((t.out.trans E.out).drewN _).trans g8⟩
   ·have I:Hid (Rn.gep c.f.slots x.flags k l0 l1=⟨false,l0.s,Z⟩):=by show _=_;rw[HR.out,tC (by omega)]
    rw[hfl]at Q;clear hfl;go_wp2;go_quiet ((fail));all_goals go_wp2
    all_goals go_ret
    all_goals exact⟨by rw[I.out];rfl,(t.out.trans E.out).drewN _⟩
end
section
variable {c:Cfg}{w w':World}{s:Rn.St}{b frm:Int}{vt:Value}
theorem PS.setVal (h:PS c w s b frm vt){v:Nat}{x:Rn.V}(hF:FrS (fun k=>k=c.Bv\/k=c.Bh) w w')(hv:w'.heap[c.Bv]?=some (.cells (dF (s.vals.set v x)).toArray 24 (0,0)))
  (hh:w'.heap[c.Bh]?=some (.cells ((s.had.set v true).map Value.bool).toArray 4 (0,0))):PS c w' (s.set v x) b frm vt:=by
 obtain⟨E,C,D,F,G,H⟩:=h.old
 have keep:∀{k:Nat} {d:Array Value} {t:TypeId} {fr:Nat × Nat},w.heap[k]?=some (.cells d t fr)->t≠24->t≠4->w'.heap[k]?=some (.cells d t fr):=fun g r u =>
  (hF.block _ (cX g) (by
    rintro (rfl|rfl)
    · exact df g h.vals r rfl
    · exact df g h.had u rfl)).trans g
 exact {
   st:=by
     have:=keep h.st (by decide) (by decide)
     show w'.heap[c.Bs]?=some (.cells (mR c (s.vals.set v x).length b frm s.steps vt) _ _)
     rw[List.length_set];exact this
   vals:=hv
   had:=hh
   hlen:=by show (s.had.set v true).length=(s.vals.set v x).length;rw[List.length_set,List.length_set];exact h.hlen
   mem:=⟨h.mem.1,fun j z A m r u=>by
     obtain⟨l,p,d,q,y⟩:=h.mem.2 j z A m r u
     exact⟨l,p,d,keep q (by decide) (by decide),y⟩⟩
   slots:=⟨h.slots.1,h.slots.2.1,fun B=>by
     obtain⟨l,d,p,q⟩:=h.slots.2.2 B
     exact⟨l,d,keep p (by decide) (by decide),q⟩⟩
   fn:=h.fn.below (hF.below (fun k g=>g.elim (fun e=>by rw[e];exact C) (fun e=>by rw[e];exact D)) h.n₀)
   first:=by
     obtain⟨l,p,d,q,y⟩:=h.first
     exact⟨l,p,d,keep q (by decide) (by decide),y⟩
   old:=h.old
   apart:=h.apart}
theorem iU (l:List Rn.V)(v:Nat)(x:Rn.V):(((dF l).toArray.setIfInBounds (v*3) (.bool x.p)).setIfInBounds (v*3+1) (.int .i64 x.s)).setIfInBounds (v*3+2) (.int .u32 x.n)=(dF (l.set v x)).toArray:=by rw[tO,tO,tO,Nat.mul_comm v 3,jl]
theorem oB (l:List Bool)(v:Nat):((l.map Value.bool).toArray.setIfInBounds v (.bool true))=((l.set v true).map Value.bool).toArray:=by rw[tO,List.map_set]
theorem pY (h:PS c w s b frm vt)(v:Nat)(hv:v<s.vals.length)(hn:s.vals.length<=1000)(x:Rn.V) :
  Calls prog 148 #[.pointer (some ⟨c.Bs,0,none⟩),.int .i64 v,vv x] w fun e w'=>e=.returned (.tuple #[])/\PS c w' (s.set v x) b frm vt/\FrS (Mut c) w w':=by
 obtain⟨W,B⟩:=xJ (w.alloc (.cells #[.bool x.p,.int .i64 x.s,.int .u32 x.n] 24));have d:Gr w W:=by rw[<-B];exact(tX w).alloc _
 have hh:=h.gr d;have K:W.cell? ⟨c.Bs,5,none⟩=some (.slice (some ⟨c.Bv,0,none⟩) s.vals.length s.vals.length):=hh.cell 5;have L:W.cell? ⟨c.Bs,6,none⟩=some (.slice (some ⟨c.Bh,0,none⟩) s.vals.length s.vals.length):=hh.cell 6;have x0:W.cell? ⟨w.heap.size,0,none⟩=some (.bool x.p):=da _ _ 0 (by rw[B];exact tX W) rfl;have x1:W.cell? ⟨w.heap.size,1,none⟩=some (.int .i64 x.s):=da _ _ 1 (by rw[B];exact tX W) rfl;have x2:W.cell? ⟨w.heap.size,2,none⟩=some (.int .u32 x.n):=da _ _ 2 (by rw[B];exact tX W) rfl;obtain⟨y,I⟩:∃y,s.vals[v]?=some y:=⟨_,sQ hv⟩;obtain⟨z,J⟩:∃z,s.had[v]?=some z:=⟨_,sQ (by rw[h.hlen];exact hv)⟩;obtain⟨E,F,G⟩:=eH _ _ _ I;rw[Nat.mul_comm]at E F G;have M:W.cell? ⟨c.Bv,v*3,none⟩=some (.bool y.p):=(tv _ _ _ _ _ _ hh.vals).trans (by simpa using E);have d1:W.cell? ⟨c.Bv,v*3+1,none⟩=some (.int .i64 y.s):=(tv _ _ _ _ _ _ hh.vals).trans (by simpa using F);have d2:W.cell? ⟨c.Bv,v*3+2,none⟩=some (.int .u32 y.n):=(tv _ _ _ _ _ _ hh.vals).trans (by simpa using G);have N:W.cell? ⟨c.Bh,v,none⟩=some (.bool z):=(tv _ _ _ _ _ _ hh.had).trans (by simp[J]);have A:∀i,W.frozen? ⟨c.Bv,i,none⟩=false:=fun i=>by unfold World.frozen?;simp[hh.vals]
 have H:∀i,W.frozen? ⟨c.Bh,i,none⟩=false:=fun i=>by unfold World.frozen?;simp[hh.had]
 have O:=A (v*3);have Q:=A (v*3+1);have R:=A (v*3+2);have T:=H v;have U:c.Bs≠c.Bv:=df h.st h.vals (by decide);have X:c.Bs≠c.Bh:=df h.st h.had (by decide);have C:c.Bv≠c.Bh:=df h.vals h.had (by decide);have Y:c.Bv≠w.heap.size:=by have:=cX h.vals;omega
 have Z:c.Bh≠w.heap.size:=by have:=cX h.had;omega
 have q:=cY (i:=v*3) (.bool x.p) hh.vals;have r:=cY (i:=v*3+1) (.int .i64 x.s) q;have g:=cY (i:=v*3+2) (.int .u32 x.n) r;rw[iU]at g;have u:=((tH ((W.setCell ⟨c.Bv,v*3,none⟩ (.bool x.p)).setCell ⟨c.Bv,v*3+1,none⟩ (.int .i64 x.s)) ⟨c.Bv,v*3+2,none⟩ (.int .u32 x.n) c.Bh C.symm).trans ((tH (W.setCell ⟨c.Bv,v*3,none⟩ (.bool x.p)) ⟨c.Bv,v*3+1,none⟩ (.int .i64 x.s) c.Bh C.symm).trans (tH W ⟨c.Bv,v*3,none⟩ (.bool x.p) c.Bh C.symm))).trans hh.had;have j:=cY (i:=v) (.bool true) u;rw[oB]at j;have t:=(tH (((W.setCell ⟨c.Bv,v*3,none⟩ (.bool x.p)).setCell ⟨c.Bv,v*3+1,none⟩ (.int .i64 x.s)).setCell ⟨c.Bv,v*3+2,none⟩ (.int .u32 x.n)) ⟨c.Bh,v,none⟩ (.bool true) c.Bv C).trans g
 have D:FrS (fun k=>k=c.Bv\/k=c.Bh) W ((((W.setCell ⟨c.Bv,v*3,none⟩ (.bool x.p)).setCell ⟨c.Bv,v*3+1,none⟩ (.int .i64 x.s)).setCell ⟨c.Bv,v*3+2,none⟩ (.int .u32 x.n)).setCell ⟨c.Bh,v,none⟩ (.bool true)).drew :=
  (((((FrS.refl _ W).setCell (p:=⟨c.Bv,v*3,none⟩) (.inl rfl) _).setCell (p:=⟨c.Bv,v*3+1,none⟩) (.inl rfl) _).setCell (p:=⟨c.Bv,v*3+2,none⟩) (.inl rfl) _).setCell (p:=⟨c.Bh,v,none⟩) (.inr rfl) _).drew
 have l:=dJ (And.intro (hh.setVal D t j) ((FrS.of_gr (S:=Mut c) d).trans (D.mono fun k hk=>hk.elim (fun e=>.inr (.inl e)) (fun e=>.inr (.inr (.inl e))))));obtain⟨n,m⟩:=xJ s.vals.length;rw[m]at hv hn K L;clear h hh d q r g t u j D A H E F G I J m;unfold vv
 go_enter func148, ntmps148
 go_wp2
 go_region_with (fail)
 all_goals go_wp2
 all_goals go_end0
 all_goals exact⟨rfl,l.out⟩
end
end

/- Parts. -/
import Derived.Test.YthfhamagopbgcaaGreatK45
set_option linter.unusedSimpArgs false
set_option linter.unusedVariables false
set_option maxRecDepth 100000
set_option maxHeartbeats 16000000
open Go.Proofs.Tryz
namespace Go.Proofs.YthfhamagopbgcaaGreat
section
open Go.RowKit
theorem iA {S:Nat->Prop}{w a b:World}(g:Gr w a)(h:FrS S a b)(hS:∀k,S k->w.heap.size<=k):Gr w b :=
 ⟨h.os.trans g.os,h.tape.trans g.tape,h.output.trans g.output,Nat.le_trans g.size h.size,fun k d=>(h.block k (by have:=g.size;omega) (fun q=>by have:=hS k q;omega)).trans (g.heap k d)⟩
theorem U32At.below {B:Nat}{w w':World}{v:Value}{zs:List Int}(h:U32At B w v zs)(hb:Below B w w'):U32At B w' v zs :=
 SlAt.imp h fun b off d g j z l=>(hb.cell (p:=⟨b,off+j,none⟩) d).trans (g j z l)
theorem ti {f:Fn}{i:Rn.Inp}{p:List Int}(h:Rn.Good f i p){k:Nat}(hk:Rn.nextK (Rn.padded p (Rn.wids f i p).length) (Rn.wids f i p) (Rn.wids f i p).length=some k) :
  Rn.Good f i (Rn.bump (Rn.padded p (Rn.wids f i p).length) k)/\(Rn.wids f i (Rn.bump (Rn.padded p (Rn.wids f i p).length) k)).take (Rn.bump (Rn.padded p (Rn.wids f i p).length) k).length=(Rn.wids f i p).take (k+1):=by
 obtain⟨d,t,g⟩:=Rn.good_next h hk;have j:=(Rn.nextK_some _ _ _ _ hk).1;refine⟨d,?_⟩;rw[Rn.bump_len (by rw[Rn.padded_len h.1];exact j),<-g,List.take_append_of_le_length (by rw[List.length_take];omega),List.take_take,Nat.min_self]
def oU (f:Fn)(i:Rn.Inp)(B Bg:Nat)(R:Option (List Rn.Out))(n:Nat)(v:Value)(w:World):Prop :=
 ∃(D:Nat->Prop)(vp vw:Value)(vms:List Value)(p:List Int)(outs:List Rn.Out),Rd D B Bg w v vp vw vms p ((Rn.wids f i p).take p.length) 0 outs/\Rn.Good f i p/\Rn.Asc outs/\outs.length+1<=n/\Rn.explore f i (257-n) p outs=R
theorem lk {f:Fn}{i:Rn.Inp}{B Bg n:Nat}{R:Option (List Rn.Out)}{v vp vw:Value}{w:World}{D:Nat->Prop}{vms:List Value}{p:List Int}{outs:List Rn.Out}
  (hRA:Ref.RcAll) (hf:VFn f) (hin:Rn.validInput f i=0) (ha:∀a∈i.args,0<=a) (hg:Rn.Good f i p) (ho:Rn.Asc outs) (hn:outs.length+1<=n) (hn2:n<257) (he:Rn.explore f i (257-n) p outs=R)
  (h:Rd D B Bg w v vp vw vms (Rn.padded p (Rn.wids f i p).length) (Rn.wids f i p) (Rn.wids f i p).length (Rn.insert (Rn.run f (Rn.given p) i).1 outs)) {N:Option Nat} (hN:Rn.nextK (Rn.padded p (Rn.wids f i p).length) (Rn.wids f i p) (Rn.wids f i p).length=N) :
  Calls prog 52 #[.pointer (some ⟨Bg,0,none⟩)] w fun e w'=>e=.returned (.bool N.isSome)/\FrS (fun k=>B<=k) w w' /\
   (N=none->∃outs',R=some outs'/\outs'.length<=256/\Rn.Asc outs'/\OutsAt D B w' v outs' vms)/\(N.isSome=true->oU f i B Bg R (n+1) v w'):=by
 obtain⟨K,u,L,M⟩:=Rn.run_ok hRA hf.val hf.im hin ha p;have j:(Rn.padded p (Rn.wids f i p).length).length=(Rn.wids f i p).length:=Rn.padded_len hg.1;have C:=Rn.insert_len (Rn.run f (Rn.given p) i).1 outs;have d:=Rn.insert_asc (Rn.run f (Rn.given p) i).1 outs ho;obtain⟨m,E⟩:∃m,257-n=m+1:=⟨256-n,by omega⟩;rw[E]at he;obtain⟨y,z⟩:=Rn.explore_round he;refine(nI h.ex j.symm (by omega) u (Rn.good_words hg u) (R:=N) (by rw[j];exact hN)).mono ?_;rintro e w' ⟨rfl,l,J,A⟩;refine⟨rfl,l.mono fun k g=>(kH h.ex g).1,fun hn0=>⟨_,y (by rw[hN];exact hn0),by omega,d,h.at_.frs l (fun k g q=>(h.dlt k g).2.2.1 q) (fun k g q=>h.vo k g q)⟩,fun hs=>?_⟩;obtain⟨k,rfl⟩:∃k,N=some k:=Option.isSome_iff_exists.1 hs;obtain⟨r,t,F,G⟩:=A k rfl;obtain⟨H,I⟩:=ti hg hN;refine⟨D,r,t,vms,_,_,?_,H,d,by omega,by rw[show 257-(n+1)=m by omega];exact z k hN⟩;rw[I];exact h.next F l G
def AllP (f:Fn)(i:Rn.Inp)(B:Nat)(e:Ending)(w':World):Prop :=
 (Rn.validInput f i≠0/\e=.returned (.tuple #[.slice none 0 0,.int .i64 (Rn.validInput f i)])) \/
 (Rn.validInput f i=0/\Rn.all f i=none/\e=.returned (.tuple #[.slice none 0 0,.int .i64 3])) \/
 (Rn.validInput f i=0/\∃outs,Rn.all f i=some outs/\outs.length<=256/\Rn.Asc outs/\∃(v:Value)(D:Nat->Prop)(vms:List Value),e=.returned (.tuple #[v,.int .i64 0])/\OutsAt D B w' v outs vms)
theorem sN {w:World}{f:Fn}{vf:Value}(hfn:FnAt w.heap.size w vf f)(hnice:jF f)(him:Rn.Im f){i:Rn.Inp}{va vm:Value}(ha:U32At w.heap.size w va i.args)(hm:TabAt w.heap.size w vm i.mem)(hnn:∀a∈i.args,0<=a) :
  Calls prog 20 #[vf,.agg #[va,vm]] w fun e w'=>AllP f i (w.heap.size+2) e w'/\Gr w w':=by
 obtain⟨vp,vs,vb,rfl,hp,hs,hb⟩:=hfn;have aQ:Hid (FnAt w.heap.size w (.agg #[vp,.int .i64 f.ret,vs,vb]) f):=⟨vp,vs,vb,rfl,hp,hs,hb⟩;have HA:=dJ ha;have HM:=dJ hm;have ad:=dJ hnn;obtain⟨W,hW⟩:=xJ ((w.alloc (.cells #[vp,.int .i64 f.ret,vs,vb] 25)).alloc (.cells #[va,vm] 29));have B:Gr w W:=by rw[<-hW];exact((wL w).alloc _).alloc _
 have aK:(w.alloc (.cells #[vp,.int .i64 f.ret,vs,vb] 25)).heap.size=w.heap.size+1:=by simp
 have aD:W.heap.size=w.heap.size+2:=by rw[<-hW];simp
 have aj:W.heap[w.heap.size]?=some (.cells #[vp,.int .i64 f.ret,vs,vb] 25 (0,0)):=by rw[<-hW];exact(((wL (w.alloc (.cells #[vp,.int .i64 f.ret,vs,vb] 25))).alloc _).heap _ (by simp)).trans (heap_alloc_new w _)
 have ak:W.heap[w.heap.size+1]?=some (.cells #[va,vm] 29 (0,0)):=by rw[<-hW,<-aK];exact heap_alloc_new _ _
 have CV:=dJ (eY (w:=W) (f:=f) (vf:=.agg #[vp,.int .i64 f.ret,vs,vb]) (i:=i) (va:=va) (vm:=vm) ⟨vp,vs,vb,rfl,(hp.below B).mono B.size,(hs.below B).mono B.size,(hb.below B).mono B.size⟩ hnice (SlAt.mono (U32At.below ha B) B.size) ((hm.below B).mono B.size));have HB:Hid (∀wr,Gr W wr->wr.heap[w.heap.size]?=some (.cells #[vp,.int .i64 f.ret,vs,vb] 25 (0,0))/\wr.heap[w.heap.size+1]?=some (.cells #[va,vm] 29 (0,0))):=fun wr g=>⟨(g.heap _ (cY aj)).trans aj,(g.heap _ (cY ak)).trans ak⟩
 have ah:∀wr,Gr W wr->C6 wr w.heap.size vp (.int .i64 f.ret) vs vb va vm:=fun wr g=>by obtain⟨q1,q2⟩:=HB.out wr g;exact⟨vX _ _ 0 _ _ _ q1,vX _ _ 1 _ _ _ q1,vX _ _ 2 _ _ _ q1,vX _ _ 3 _ _ _ q1,vX _ _ 0 _ _ _ q2,vX _ _ 1 _ _ _ q2⟩
 have HC:=dJ ah;obtain⟨k0,k1,k2,k3,k4,k5⟩:=ah W (wL _);have G:=dJ B;have au:=dJ aD;obtain⟨Ap,cp,rfl,-⟩:=id hp;obtain⟨As,cs,rfl,-⟩:=id hs;obtain⟨Ab,cb,rfl,-⟩:=id hb;obtain⟨Aa,ca,rfl,-⟩:=id ha;obtain⟨Am,cm,rfl,-⟩:=id hm;obtain⟨V,hV⟩:=xJ (Rn.validInput f i);rw[hV]at CV;have L:=dJ hV;clear B aj ak hV ah aK hp hs hb aD ha hm hnn;by_cases aL:V=0
 ·subst aL;have hf:VFn f:=⟨(Rn.valid_input L.out).1,him⟩
  go_enter func20, ntmps20
  go_wp2_with (go_at_call 13;refine CV.out.mono ?_;rintro e C ⟨rfl,g1⟩;obtain⟨j0,j1,j2,j3,j4,j5⟩:=HC.out C g1;have a2:=dJ g1);obtain⟨O,ag⟩:=xJ (C.alloc (.cells #[.slice none 0 0,.slice none 0 0,.int .i64 0] 86));obtain⟨R,hR⟩:=xJ (Rn.all f i);have g3:Gr C O:=by rw[<-ag];exact(wL C).alloc _
  have aF:O.heap[C.heap.size]?=some (.cells #[.slice none 0 0,.slice none 0 0,.int .i64 0] 86 (0,0)):=by rw[<-ag];exact heap_alloc_new _ _
  have ae:w.heap.size+2<=C.heap.size:=by have:=g1.size;have:=au.out;omega
  have aS:Hid (oU f i (w.heap.size+2) C.heap.size R 1 (.slice none 0 0) O) :=
   ⟨fun _=>False,.slice none 0 0,.slice none 0 0,[],[],[],⟨⟨aF,Own1.nil _ _ _,Own1.nil _ _ _,ae⟩,⟨rfl,⟨rfl,.inl ⟨rfl,rfl⟩⟩,fun j o vm h=>by simp at h⟩,fun k A=>A.elim,fun k A=>by cases A⟩,Rn.good_nil f i,by unfold Rn.Asc;exact List.Pairwise.nil,vV _,hR⟩
  have HR:=dJ hR;have y:=dJ (g1.trans g3);have a1:=dJ ae
  have aP:Hid (∀wr,FrS (fun k=>w.heap.size+2<=k) O wr->C6 wr w.heap.size (.slice Ap f.params.length cp) (.int .i64 f.ret) (.slice As f.slots.length cs) (.slice Ab f.blocks.length cb) (.slice Aa i.args.length ca) (.slice Am i.mem.length cm)):=fun wr I=>by obtain⟨q1,q2⟩:=HB.out O y.out;have r1:=(I.block _ (cY q1) (by omega)).trans q1;have r2:=(I.block _ (cY q2) (by omega)).trans q2;exact⟨vX _ _ 0 _ _ _ r1,vX _ _ 1 _ _ _ r1,vX _ _ 2 _ _ _ r1,vX _ _ 3 _ _ _ r1,vX _ _ 0 _ _ _ r2,vX _ _ 1 _ _ _ r2⟩
  clear aF ae g3 hR g1 j0 j1 j2 j3 j4 j5 k0 k1 k2 k3 k4 k5;go_wp2
  go_loopw [8,9] (fun s8 s9 wr=>∃n:Nat,1<=n/\n<=257/\s9=.int .i64 (n:Int)/\Hid (oU f i (w.heap.size+2) C.heap.size R n s8 wr)/\Hid (FrS (fun k=>w.heap.size+2<=k) O wr)) (fun _ s9 _=>257-(intOf s9).toNat)
  case atStart=>rw[ag];exact⟨1,vV _,by decide,rfl,aS,FrS.refl _ _⟩
  case round =>
   obtain⟨n,a9,ba,rfl,hI,I⟩:=hrel;by_cases aH:n=257
   ·subst aH
    have HE:Hid (R=none):=by obtain⟨D,aZ,a0,aO,p,d,-,-,-,-,h⟩:=hI.out;exact h.symm
    have aR:Hid (Gr w wr):=iA (G.out.trans y.out) I.out (fun k A=>by omega);clear hI I;go_wp2;go_ret2;exact⟨.inr (.inl ⟨L.out,HR.out.trans HE.out,rfl⟩),aR.out⟩
   ·have Z:n<257:=by omega
    have bb:(n:Int)<=256:=by omega
    obtain⟨D,aZ,a0,aO,p,d,ax,ay,az,aA,aB⟩:=hI.out;have aT:=dJ ax;have ac:=dJ ay;have H:=dJ az;have N:=dJ aA;have aq:=dJ aB;clear ax ay az aA aB aH;have aW:FrS (fun k=>w.heap.size+2<=k) O wr.drew:=I.out.drew;have ap:Hid (Below w.heap.size w wr):=iA (G.out.trans y.out) I.out (fun k A=>by omega);obtain⟨X,hX⟩:=xJ ((Rn.run f (Rn.given p) i).1);obtain⟨Nx,aC⟩:=xJ (Rn.nextK (Rn.padded p (Rn.wids f i p).length) (Rn.wids f i p) (Rn.wids f i p).length);have HX:=dJ hX;have ar:=dJ aC
    have CS:Hid (∀u:World,Gr wr u->Calls prog 47 #[.agg #[.slice Ap f.params.length cp,.int .i64 f.ret,.slice As f.slots.length cs,.slice Ab f.blocks.length cb],.agg #[.slice Aa i.args.length ca,.slice Am i.mem.length cm],.iface 84 (.pointer (some ⟨C.heap.size,0,none⟩))] u fun e w4=>∃c:Cfg,e=.returned (.pointer (some ⟨c.Bs,0,none⟩))/\∀u2,Gr w4 u2 ->
        Calls prog 48 #[.pointer (some ⟨c.Bs,0,none⟩)] u2 fun e w'=>∃vx,e=.returned (gS X vx)/\∃(D':Nat->Prop)(T U:Value),Rd D' (w.heap.size+2) C.heap.size w' u8 T U aO (Rn.padded p (Rn.wids f i p).length) (Rn.wids f i p) (Rn.wids f i p).length d/\Keeps D' w' vx X.mem/\FrS (fun k=>w.heap.size+2<=k) wr w'):=fun u gu=>by
     have am:Below w.heap.size w u:=ap.out.trans (Below.mono gu (by have:=ap.out.size;omega));refine(jA (B0:=w.heap.size+2) (f:=f) (i:=i) ((aQ.out.below am).mono (by omega)) (by have:=gu.size;have:=I.out.size;have:=y.out.size;have:=au.out;omega) hf (SlAt.mono (U32At.below HA.out am) (by omega)) ((HM.out.below am).mono (by omega)) L.out _ _).mono ?_;rintro e w4 ⟨c,cn,cf,aV,rfl,aX,g4,hK,a8⟩;refine⟨c,rfl,fun u2 g2=>?_⟩;rw[<-hX];refine(rV aT.out ac.out mr hf L.out ad.out ((gu.trans g4).trans g2) cn cf aV (aX.gr g2) (fun k A=>by have:=hK k A;have:=gu.size;omega) (by have:=g2.size;omega)).mono ?_;rintro e w' ⟨vx,rfl,D',T,U,r1,r2,r3⟩;exact⟨vx,rfl,D',T,U,r1,r2,(FrS.of_gr ((gu.trans g4).trans g2)).trans r3⟩
    obtain⟨Bl,af⟩:=xJ (Rn.below X d);obtain⟨F,aw⟩:∃F,decide (d[Bl]?=some X)=F:=⟨_,rfl⟩;have M:=dJ af;have ab:=dJ aw;have ao:Hid (Bl<=d.length):=by show _<=_;rw[<-af];exact Rn.below_le X d
    obtain⟨j0,j1,j2,j3,j4,j5⟩:=aP.out wr I.out;clear aW hX aC af aw;unfold gS at CS;cases F;all_goals cases Nx
    all_goals
     go_wp2_with (first
       | (go_at_call 47;refine(CS.out _ (by first|exact(wL wr).drew|exact wL wr)).mono ?_;rintro e w4 ⟨c,rfl,aE⟩;have CO:=dJ aE;clear aE)
       | (go_at_call 48;refine(CO.out _ (wL w4)).mono ?_;rintro e w5 ⟨vx,rfl,D',T,U,aJ,al,aG⟩;obtain⟨Ax,cx,rfl⟩:=al.2.1;have RD:=dJ aJ;have KP:=dJ al;have FR:=dJ aG;clear aJ al aG)
       | (go_at_call 49
          obtain⟨W6,Q⟩:=xJ (w5.alloc (.cells #[.int .i64 X.kind,.bool X.ret.p,.int .i64 X.ret.s,.int .u32 X.ret.n,.slice Ax X.mem.length cx] 39))
          have G6:Hid (Gr w5 W6):=by show Gr _ _;rw[<-Q];exact(wL w5).alloc _
          have BX:Hid (∀u,Gr W6 u->_):=fun u gu=>ed (w:=w5) (o:=X) (vm:=.slice Ax X.mem.length cx) (w':=u) (by show Gr (w5.alloc _) u;rw[Q];exact gu)
          rw[Q]
          have BS:=dJ (lI ((RD.out.gr G6.out).at_) (by have:=N.out;omega) H.out (KP.out.gr G6.out))
          rw[M.out,ab.out]at BS
          unfold gS at BS
          (with_reducible refine BS.out.mono ?_)
          rintro e K ⟨rfl,Y⟩
          have G7:Hid (Gr w5 K):=G6.out.trans Y
          obtain⟨b0,b1,b2,b3,b4⟩:=BX.out K Y
          have a3:=fun o=>(BX.out (K.alloc o) (Y.alloc o)).1
          have a4:=fun o=>(BX.out (K.alloc o) (Y.alloc o)).2.1
          have a5:=fun o=>(BX.out (K.alloc o) (Y.alloc o)).2.2.1
          have a6:=fun o=>(BX.out (K.alloc o) (Y.alloc o)).2.2.2.1
          have a7:=fun o=>(BX.out (K.alloc o) (Y.alloc o)).2.2.2.2
          clear Y BS Q)
       | (go_at_call 51
          obtain⟨W8,S⟩:=xJ (K.alloc (.cells #[.int .i64 X.kind,.bool X.ret.p,.int .i64 X.ret.s,.int .u32 X.ret.n,.slice Ax X.mem.length cx] 39))
          have G8:Hid (Gr w5 W8):=by show Gr _ _;rw[<-S];exact G7.out.alloc _
          have aN:W8.heap[K.heap.size]?=some (.cells (sH X (.slice Ax X.mem.length cx)).toArray 39 (0,0)):=by rw[<-S];exact heap_alloc_new _ _
          have aY:w5.heap.size<=K.heap.size:=G7.out.size
          rw[S]
          have z:=RD.out.gr G8.out
          have av:w.heap.size+2<=W8.heap.size:=by have:=kH z.ex (k:=C.heap.size) (Or.inl rfl);omega
          have CI:=dJ (rA z.at_ av (by have:=N.out;omega) ao.out (KP.out.gr G8.out) aN (fun q=>by have:=(dx RD.out.at_.own _ q).2;omega) (fun k A=>(z.dlt k A).2.2.2))
          (with_reducible refine CI.out.mono ?_)
          rintro e w9 ⟨A9,c9,rfl,aI,ai,aM⟩
          have r:=z.insert aI ai aM
          rw[<-M.out,<-Rn.insert_new X d H.out (by have:=ab.out;rw[<-M.out]at this;simpa using this),<-HX.out]at r
          have aU:=dJ r
          have aa:Hid (FrS (fun k=>w.heap.size+2<=k) wr w9):=(FR.out.trans (FrS.of_gr G8.out)).trans (ai.mono fun k A=>(dx z.at_.own k A).1)
          clear r z aI ai aM aN aY S CI av)
       | (go_at_call 52
          have CN:=dJ (lk mr hf L.out ad.out ac.out H.out N.out Z aq.out aU.out ar.out)
          (with_reducible refine CN.out.mono ?_)
          rintro e an ⟨he,J,l,m⟩
          simp only[Option.isSome_none,Option.isSome_some]at he
          subst he
          have EN:=dJ l
          have ES:=dJ m
          have E:Hid (FrS (fun k=>w.heap.size+2<=k) O an):=I.out.trans (aa.out.trans J)
          clear J l m)
       | (go_at_call 52
          have r:=RD.out.gr G7.out
          rw[<-Rn.insert_found X d H.out (by have:=ab.out;rw[<-M.out]at this;simpa using this),<-HX.out]at r
          have aa:Hid (FrS (fun k=>w.heap.size+2<=k) wr K):=FR.out.trans (FrS.of_gr G7.out)
          have CN:=dJ (lk mr hf L.out ad.out ac.out H.out N.out Z aq.out r ar.out)
          (with_reducible refine CN.out.mono ?_)
          rintro e an ⟨he,J,l,m⟩
          simp only[Option.isSome_none,Option.isSome_some]at he
          subst he
          have EN:=dJ l
          have ES:=dJ m
          have E:Hid (FrS (fun k=>w.heap.size+2<=k) O an):=I.out.trans (aa.out.trans J)
          clear J l m r))
    ·go_ret2;obtain⟨t,e1,e2,e3,e4⟩:=EN.out trivial;exact⟨.inr (.inr ⟨L.out,t,HR.out.trans e1,e2,e3,_,_,_,rfl,e4⟩),iA (G.out.trans y.out) E.out (fun k A=>by omega)⟩
    ·exact⟨⟨n+1,by omega,by omega,by go_num,ES.out rfl,E⟩,by simp[intOf];omega⟩
    ·go_ret2;obtain⟨t,e1,e2,e3,e4⟩:=EN.out trivial;exact⟨.inr (.inr ⟨L.out,t,HR.out.trans e1,e2,e3,_,_,_,rfl,e4⟩),iA (G.out.trans y.out) E.out (fun k A=>by omega)⟩
    ·exact⟨⟨n+1,by omega,by omega,by go_num,ES.out rfl,E⟩,by simp[intOf];omega⟩
 ·go_enter func20, ntmps20
  go_wp2_with (go_at_call 13;refine CV.out.mono ?_;rintro e C ⟨rfl,g1⟩);go_ret2;exact⟨.inl ⟨by rw[L.out];exact aL,by rw[L.out];rfl⟩,G.out.trans g1⟩
theorem rr {B Bg:Nat}{f:Fn}{i:Rn.Inp}{w:World}{picks:List Int}{vpk:Value}(hRA:Ref.RcAll)(hf:VFn f)(hin:Rn.validInput f i=0)(ha:∀a∈i.args,0<=a){c:Cfg}(cn:c.n₀=B)(cf:c.f=f)(cch:c.ch=.iface 118 (.pointer (some ⟨Bg,0,none⟩)))
  (hp:PS c w (Rn.start f i) 0 (-1) (.slice none 0 0)) (hBm:c.Bm<w.heap.size) (hg:w.heap[Bg]?=some (.cells #[vpk,.int .i64 0] 120 (0,0))) (hv:U32At B w vpk picks) (hBg:B<=Bg/\¬Kept c Bg) (hr:∀z∈picks,0<=z/\z<4294967296) :
  Calls prog 48 #[.pointer (some ⟨c.Bs,0,none⟩)] w fun e w'=>∃vx,e=.returned (gS (Rn.run f (Rn.given picks) i).1 vx)/\∃(b frm:Int)(vq:Value),PS c w' (Rn.run f (Rn.given picks) i).2.1 b frm vq/\w'.heap[Bg]?=some (.cells #[vpk,.int .i64 (Rn.wids f i picks).length] 120 (0,0)) /\
   Own1 B 3 w' vq ((Rn.run f (Rn.given picks) i).2.2.map (Value.int .i64))/\Keeps (Dc c) w' vx (Rn.run f (Rn.given picks) i).1.mem/\FrS (fun k=>Mut c k\/k=Bg) w w':=by
 subst cn;subst cf;obtain⟨D,E,u,y⟩:=Rn.run_ok hRA hf.val hf.im hin ha picks;obtain⟨l,hl,t⟩:=Rn.start_ent hRA hin ha
 let ch:=sX c Bg vpk picks (Rn.wids c.f i picks) cch hr hBg (by omega)
 have r:ch.At w (Rn.start c.f i).widths (fun k=>k=Bg):=⟨hg,hv,rfl⟩;refine(gP (pick:=Rn.given picks) (fin:=Rn.wids c.f i picks) (b:=0) hp hBm hf hRA hl t (Rn.given_ok picks) ch r (vU _) (List.prefix_refl _)).mono ?_;rintro e w' ⟨rfl,b,frm,vq,C,j,A,m,p,F⟩;obtain⟨q,G,rfl⟩:=A;have g:Rn.from_ c.f (Rn.given picks) 401 0 (-1) (Rn.start c.f i)=Rn.run c.f (Rn.given picks) i:=rfl;rw[g]at j m q ⊢;have d:c.Bm<w'.heap.size:=by have:=p.size;omega
 refine⟨uf c _,rfl,b,frm,vq,j,q,mS m hp.n₀,lf j d hf.val u y,p⟩
def uy (f:Fn)(i:Rn.Inp)(picks:List Int)(B:Nat)(e:Ending)(w':World):Prop :=
 ∃(c:Cfg)(vx vq:Value)(b frm:Int),e=.returned (.tuple #[.pointer (some ⟨c.Bs,0,none⟩),gS (Rn.run f (Rn.given picks) i).1 vx,.int .i64 (Rn.wids f i picks).length])/\c.f=f/\PS c w' (Rn.run f (Rn.given picks) i).2.1 b frm vq /\
  Own1 B 3 w' vq ((Rn.run f (Rn.given picks) i).2.2.map (Value.int .i64))/\Keeps (Dc c) w' vx (Rn.run f (Rn.given picks) i).1.mem/\∀k,Kept c k->B<=k
theorem pW {w:World}{f:Fn}{vf:Value}(hfn:FnAt w.heap.size w vf f)(hf:VFn f){i:Rn.Inp}(hin:Rn.validInput f i=0){va vm:Value}(ha:U32At w.heap.size w va i.args)(hm:TabAt w.heap.size w vm i.mem)(hnn:∀a∈i.args,0<=a)
  {vpk:Value} {picks:List Int} (hpk:U32At w.heap.size w vpk picks) (hr:∀z∈picks,0<=z/\z<4294967296) :
  Calls prog 44 #[vf,.agg #[va,vm],vpk] w fun e w'=>uy f i picks w.heap.size e w'/\Gr w w':=by
 obtain⟨vp,vs,vb,rfl,hp,hs,hb⟩:=hfn;have af:Hid (FnAt w.heap.size w (.agg #[vp,.int .i64 f.ret,vs,vb]) f):=⟨vp,vs,vb,rfl,hp,hs,hb⟩;have HA:=dJ ha;have HM:=dJ hm;have ag:=dJ hnn;have ai:=dJ hpk;have ak:=dJ hr;obtain⟨W,hW⟩:=xJ (((w.alloc (.cells #[vp,.int .i64 f.ret,vs,vb] 25)).alloc (.cells #[va,vm] 29)).alloc (.cells #[.int .i64 0,.bool false,.int .i64 0,.int .u32 0,.slice none 0 0] 39));have g0:Gr w W:=by rw[<-hW];exact(((wL w).alloc _).alloc _).alloc _
 have M:W.heap.size=w.heap.size+3:=by rw[<-hW];simp
 obtain⟨W0,C⟩:=xJ (w.alloc (.cells #[vp,.int .i64 f.ret,vs,vb] 25));obtain⟨W1,t⟩:=xJ (W0.alloc (.cells #[va,vm] 29));have s0:W0.heap.size=w.heap.size+1:=by rw[<-C];simp
 have s1:W1.heap.size=w.heap.size+2:=by rw[<-t];simp[s0]
 have B:=hW;rw[C,t]at B;have t0:Gr W0 W1:=by rw[<-t];exact(wL _).alloc _
 have t1:Gr W1 W:=by rw[<-B];exact(wL _).alloc _
 have u:W.heap[w.heap.size]?=some (.cells #[vp,.int .i64 f.ret,vs,vb] 25 (0,0)):=(t1.heap _ (by omega)).trans ((t0.heap _ (by omega)).trans (by rw[<-C];exact heap_alloc_new _ _));have N:W.heap[w.heap.size+1]?=some (.cells #[va,vm] 29 (0,0)):=(t1.heap _ (by omega)).trans (by rw[<-t,<-s0];exact heap_alloc_new _ _);have ad:W.heap[w.heap.size+2]?=some (.cells #[.int .i64 0,.bool false,.int .i64 0,.int .u32 0,.slice none 0 0] 39 (0,0)):=by rw[<-B,<-s1];exact heap_alloc_new _ _
 obtain⟨l,J⟩:=xJ (W.alloc (.cells #[vpk,.int .i64 0] 120));have A:Gr W l:=by rw[<-J];exact(wL W).alloc _
 have ac:l.heap[W.heap.size]?=some (.cells #[vpk,.int .i64 0] 120 (0,0)):=by rw[<-J];exact heap_alloc_new _ _
 have G:l.heap.size=w.heap.size+4:=by rw[<-J];simp[M]
 have aj:Hid (l.heap[w.heap.size+1+1]?=some (.cells #[.int .i64 0,.bool false,.int .i64 0,.int .u32 0,.slice none 0 0] 39 (0,0))):=(A.heap _ (by omega)).trans ad;have k0:l.cell? ⟨w.heap.size,0,none⟩=some vp:=vX _ _ 0 _ _ _ ((A.heap _ (by omega)).trans u);have k1:l.cell? ⟨w.heap.size,1,none⟩=some (.int .i64 f.ret):=vX _ _ 1 _ _ _ ((A.heap _ (by omega)).trans u);have k2:l.cell? ⟨w.heap.size,2,none⟩=some vs:=vX _ _ 2 _ _ _ ((A.heap _ (by omega)).trans u);have k3:l.cell? ⟨w.heap.size,3,none⟩=some vb:=vX _ _ 3 _ _ _ ((A.heap _ (by omega)).trans u);have k4:l.cell? ⟨w.heap.size+1,0,none⟩=some va:=vX _ _ 0 _ _ _ ((A.heap _ (by omega)).trans N);have k5:l.cell? ⟨w.heap.size+1,1,none⟩=some vm:=vX _ _ 1 _ _ _ ((A.heap _ (by omega)).trans N);have HG:=dJ (g0.trans A);obtain⟨X,hX⟩:=xJ (Rn.run f (Rn.given picks) i);obtain⟨NW,I⟩:=xJ ((Rn.wids f i picks).length)
 have CS:Hid (Calls prog 47 #[.agg #[vp,.int .i64 f.ret,vs,vb],.agg #[va,vm],.iface 118 (.pointer (some ⟨W.heap.size,0,none⟩))] l fun e w5=>∃c:Cfg,e=.returned (.pointer (some ⟨c.Bs,0,none⟩))/\Hid (c.f=f/\c.n₀=w.heap.size/\∀k,Kept c k->w.heap.size+4<=k) /\
     Calls prog 48 #[.pointer (some ⟨c.Bs,0,none⟩)] w5 fun e w'=>∃vx,e=.returned (gS X.1 vx)/\∃(b r:Int)(R:Value),PS c w' X.2.1 b r R/\w'.heap[W.heap.size]?=some (.cells #[vpk,.int .i64 NW] 120 (0,0)) /\
       Own1 w.heap.size 3 w' R (X.2.2.map (Value.int .i64))/\Keeps (Dc c) w' vx X.1.mem/\FrS (fun k=>Mut c k\/k=W.heap.size) l w'):=by
  have O:Below w.heap.size w l:=HG.out;refine(jA (B0:=w.heap.size) (f:=f) (i:=i) (af.out.below O) (by omega) hf (U32At.below HA.out O) (HM.out.below O) hin _ _).mono ?_;rintro e w5 ⟨c,cn,cf,al,rfl,an,g5,hK,am⟩;refine⟨c,rfl,⟨cf,cn,fun k g=>by have:=hK k g;omega⟩,?_⟩;have ae:Below w.heap.size w w5:=HG.out.trans g5;rw[<-hX,<-I];refine(rr mr hf hin ag.out cn cf al an am ((g5.heap _ (by omega)).trans ac) (U32At.below ai.out ae) ⟨by omega,fun q=>by have:=hK _ q;omega⟩ ak.out).mono ?_;rintro e w' ⟨vx,rfl,b,r,R,r1,r2,r3,r4,r5⟩;exact⟨vx,rfl,b,r,R,r1,r2,r3,r4,(FrS.of_gr g5).trans r5⟩
 have HX:=dJ hX;have ah:=dJ I;have E:=dJ G;have y:=dJ M;obtain⟨Ap,cp,rfl,-⟩:=id hp;obtain⟨As,cs,rfl,-⟩:=id hs;obtain⟨Ab,cb,rfl,-⟩:=id hb;obtain⟨Aa,ca,rfl,-⟩:=id ha;obtain⟨Am,cm,rfl,-⟩:=id hm;obtain⟨Ak,ck,rfl,-⟩:=id hpk;clear hp hs hb ha hm hnn hpk hr hX I s0 s1 t0 t1 B C t u N ad ac G g0 A M;unfold gS at CS
 go_enter func44, ntmps44
 go_wp2_with (first|(go_at_call 47;refine CS.out.mono ?_;rintro e w5 ⟨c,rfl,aa,ab⟩;have S:=dJ aa.out;have CO:=dJ ab;clear ab aa)|(go_at_call 48;refine CO.out.mono ?_;rintro e w6 ⟨vx,rfl,b,r,R,r1,r2,r3,r4,r5⟩;obtain⟨D,F,rfl⟩:=r4.2.1;have R1:=dJ r1;have R2:=dJ r2;have R3:=dJ r3;have R4:=dJ r4;have R5:=dJ r5;clear r1 r2 r3 r4 r5))
 obtain⟨H,Z⟩:=xJ (w6.alloc (.cells #[.int .i64 X.1.kind,.bool X.1.ret.p,.int .i64 X.1.ret.s,.int .u32 X.1.ret.n,.slice D X.1.mem.length F] 39));have Q:Hid (Gr w6 H):=by show Gr _ _;rw[<-Z];exact(wL w6).alloc _
 obtain⟨b0,b1,b2,b3,b4⟩:=ed (w:=w6) (o:=X.1) (vm:=.slice D X.1.mem.length F) (w':=H) (by show Gr (w6.alloc _) H;rw[Z];exact wL _)
 have j:H.heap[w.heap.size+1+1]?=some (.cells #[.int .i64 0,.bool false,.int .i64 0,.int .u32 0,.slice none 0 0] 39 (0,0)):=(Q.out.heap _ (by have:=R5.out.size;have:=E.out;omega)).trans ((R5.out.block _ (by have:=E.out;omega) (fun q=>by
   rcases q with q|q
   · have:=S.out.2.2 _ (.inl q);omega
   · have:=y.out;omega)).trans aj.out)
 have ar:H.cell? ⟨W.heap.size,1,none⟩=some (.int .i64 NW):=vX _ _ 1 _ _ _ ((Q.out.heap _ (cY R2.out)).trans R2.out);obtain⟨f0,f1,f2,f3,f4⟩:=frw5 j 0 1 2 3 4;obtain⟨e0,e1,e2,e3,e4⟩:=crw5 j 0 1 2 3 4;have T:=dJ j;clear j;have ao:¬(w.heap.size+1+1=W.heap.size):=by have:=y.out;omega
 have ap:¬(W.heap.size=w.heap.size+1+1):=by have:=y.out;omega
 go_wp2
 go_region
 all_goals go_wp2
 have Y:=(((((FrS.refl (·=w.heap.size+1+1) H).setCell (p:=⟨w.heap.size+1+1,0,none⟩) rfl (.int .i64 X.1.kind)).setCell (p:=⟨w.heap.size+1+1,1,none⟩) rfl (.bool X.1.ret.p)).setCell (p:=⟨w.heap.size+1+1,2,none⟩) rfl (.int .i64 X.1.ret.s)).setCell (p:=⟨w.heap.size+1+1,3,none⟩) rfl (.int .u32 X.1.ret.n)).setCell (p:=⟨w.heap.size+1+1,4,none⟩) rfl (.slice D X.1.mem.length F);have h9:=cX (i:=4) (.slice D X.1.mem.length F) (cX (i:=3) (.int .u32 X.1.ret.n) (cX (i:=2) (.int .i64 X.1.ret.s) (cX (i:=1) (.bool X.1.ret.p) (cX (i:=0) (.int .i64 X.1.kind) T.out))));obtain⟨W8,K⟩:=xJ (((((H.setCell ⟨w.heap.size+1+1,0,none⟩ (.int .i64 X.1.kind)).setCell ⟨w.heap.size+1+1,1,none⟩ (.bool X.1.ret.p)).setCell ⟨w.heap.size+1+1,2,none⟩ (.int .i64 X.1.ret.s)).setCell ⟨w.heap.size+1+1,3,none⟩ (.int .u32 X.1.ret.n)).setCell ⟨w.heap.size+1+1,4,none⟩ (.slice D X.1.mem.length F));rw[K]at Y h9;rw[K];have m:W8.drew.heap[w.heap.size+1+1]?=_:=h9;obtain⟨U,L⟩:=xJ W8.drew;have d:=Y.drew;rw[L]at m d;rw[L];have q0:U.cell? ⟨w.heap.size+1+1,0,none⟩=some (.int .i64 X.1.kind):=vX _ _ 0 _ _ _ m;have q1:U.cell? ⟨w.heap.size+1+1,1,none⟩=some (.bool X.1.ret.p):=vX _ _ 1 _ _ _ m;have q2:U.cell? ⟨w.heap.size+1+1,2,none⟩=some (.int .i64 X.1.ret.s):=vX _ _ 2 _ _ _ m;have q3:U.cell? ⟨w.heap.size+1+1,3,none⟩=some (.int .u32 X.1.ret.n):=vX _ _ 3 _ _ _ m;have q4:U.cell? ⟨w.heap.size+1+1,4,none⟩=some (.slice D X.1.mem.length F):=vX _ _ 4 _ _ _ m;refine vZ (v:=.tuple #[.pointer (some ⟨c.Bs,0,none⟩),.agg #[.int .i64 X.1.kind,.bool X.1.ret.p,.int .i64 X.1.ret.s,.int .u32 X.1.ret.n,.slice D X.1.mem.length F],.int .i64 NW]) (by simp[results,results44,go_sem,q0,q1,q2,q3,q4]) rfl ?_;clear L K;obtain⟨c1,c2,c3⟩:=S.out;have hS:∀k,k=w.heap.size+1+1->c.n₀<=k/\¬Kept c k:=fun k g=>⟨by omega,fun q=>by have:=c3 k q;omega⟩;refine⟨⟨c,.slice D X.1.mem.length F,R,b,r,?_,c1,?_,?_,?_,fun k g=>by have:=c3 k g;omega⟩,?_⟩
 ·rw[HX.out,ah.out];rfl
 ·rw[HX.out];exact(R1.out.gr Q.out).away hS d
 ·rw[HX.out];have h3:=ew R3.out Q.out
  exact dr h3 fun k g=>d.block k (dg h3 g).2.1 fun q=>by obtain⟨-,-,aq,q2⟩:=dg h3 g;exact gs q2 T.out (by decide) q
 ·rw[HX.out];exact(R4.out.gr Q.out).frs d fun k g q=>(hS k q).2 g.kept
 ·refine iA HG.out ((R5.out.mono (S':=fun k=>w.heap.size<=k) fun k g=>?_).trans ((FrS.of_gr Q.out).trans (d.mono fun k g=>?_))) (fun k g=>g)
  ·rcases g with g|g
   ·have:=c3 k (.inl g);omega
   ·have:=y.out;omega
  ·show _<=k;omega
def uA (f:Fn)(i:Rn.Inp)(picks:List Int)(B:Nat)(e:Ending)(w':World):Prop :=
 (Rn.validInput f i≠0/\e=.returned (.tuple #[gS ⟨0,⟨false,0,0⟩,[]⟩ (.slice none 0 0),.int .i64 0,.int .i64 (Rn.validInput f i)])) \/
 (Rn.validInput f i=0/\∃(vx:Value)(D:Nat->Prop),e=.returned (.tuple #[gS (Rn.run f (Rn.given picks) i).1 vx,.int .i64 (Rn.wids f i picks).length,.int .i64 0])/\Keeps D w' vx (Rn.run f (Rn.given picks) i).1.mem/\∀k,D k->B<=k)
theorem tH {w:World}{f:Fn}{vf:Value}(hfn:FnAt w.heap.size w vf f)(hnice:jF f)(him:Rn.Im f){i:Rn.Inp}{va vm:Value}(ha:U32At w.heap.size w va i.args)(hm:TabAt w.heap.size w vm i.mem)(hnn:∀a∈i.args,0<=a)
  {vpk:Value} {picks:List Int} (hpk:U32At w.heap.size w vpk picks) (hr:∀z∈picks,0<=z/\z<4294967296) :
  Calls prog 16 #[vf,.agg #[va,vm],vpk] w fun e w'=>uA f i picks w.heap.size e w'/\Gr w w':=by
 obtain⟨vp,vs,vb,rfl,hp,hs,hb⟩:=hfn;have U:Hid (FnAt w.heap.size w (.agg #[vp,.int .i64 f.ret,vs,vb]) f):=⟨vp,vs,vb,rfl,hp,hs,hb⟩;have HA:=dJ ha;have HM:=dJ hm;have aa:=dJ hnn;have ac:=dJ hpk;have ae:=dJ hr;obtain⟨W,hW⟩:=xJ (((w.alloc (.cells #[vp,.int .i64 f.ret,vs,vb] 25)).alloc (.cells #[va,vm] 29)).alloc (.cells #[.int .i64 0,.bool false,.int .i64 0,.int .u32 0,.slice none 0 0] 39));have J:Gr w W:=by rw[<-hW];exact(((wL w).alloc _).alloc _).alloc _
 have Y:W.heap.size=w.heap.size+3:=by rw[<-hW];simp
 obtain⟨W0,I⟩:=xJ (w.alloc (.cells #[vp,.int .i64 f.ret,vs,vb] 25));obtain⟨W1,A⟩:=xJ (W0.alloc (.cells #[va,vm] 29));have s0:W0.heap.size=w.heap.size+1:=by rw[<-I];simp
 have s1:W1.heap.size=w.heap.size+2:=by rw[<-A];simp[s0]
 have H:=hW;rw[I,A]at H;have t0:Gr W0 W1:=by rw[<-A];exact(wL _).alloc _
 have t1:Gr W1 W:=by rw[<-H];exact(wL _).alloc _
 have Q:W.heap[w.heap.size]?=some (.cells #[vp,.int .i64 f.ret,vs,vb] 25 (0,0)):=(t1.heap _ (by omega)).trans ((t0.heap _ (by omega)).trans (by rw[<-I];exact heap_alloc_new _ _));have R:W.heap[w.heap.size+1]?=some (.cells #[va,vm] 29 (0,0)):=(t1.heap _ (by omega)).trans (by rw[<-A,<-s0];exact heap_alloc_new _ _);have E:W.heap[w.heap.size+2]?=some (.cells #[.int .i64 0,.bool false,.int .i64 0,.int .u32 0,.slice none 0 0] 39 (0,0)):=by rw[<-H,<-s1];exact heap_alloc_new _ _
 have CV:=dJ (eY (w:=W) (f:=f) (vf:=.agg #[vp,.int .i64 f.ret,vs,vb]) (i:=i) (va:=va) (vm:=vm) ((U.out.below J).mono J.size) hnice (SlAt.mono (U32At.below ha J) J.size) ((hm.below J).mono J.size))
 have HC:Hid (∀wr,Gr W wr->C6 wr w.heap.size vp (.int .i64 f.ret) vs vb va vm):=fun wr g=>by have r1:=(g.heap _ (cY Q)).trans Q;have r2:=(g.heap _ (cY R)).trans R;exact⟨vX _ _ 0 _ _ _ r1,vX _ _ 1 _ _ _ r1,vX _ _ 2 _ _ _ r1,vX _ _ 3 _ _ _ r1,vX _ _ 0 _ _ _ r2,vX _ _ 1 _ _ _ r2⟩
 have j:Hid (∀wr,Gr W wr->wr.heap[w.heap.size+1+1]?=some (.cells #[.int .i64 0,.bool false,.int .i64 0,.int .u32 0,.slice none 0 0] 39 (0,0))):=fun wr g=>(g.heap _ (cY E)).trans E;obtain⟨k0,k1,k2,k3,k4,k5⟩:=HC.out W (wL _);have HG:=dJ J;have af:=dJ Y;obtain⟨V,S⟩:=xJ (Rn.validInput f i);rw[S]at CV;have HV:=dJ S
 have T:Hid (V=0->∀l,Gr W l->Calls prog 44 #[.agg #[vp,.int .i64 f.ret,vs,vb],.agg #[va,vm],vpk] l fun e w'=>∃(p:Value)(vx:Value)(D:Nat->Prop),e=.returned (.tuple #[p,gS (Rn.run f (Rn.given picks) i).1 vx,.int .i64 (Rn.wids f i picks).length])/\Keeps D w' vx (Rn.run f (Rn.given picks) i).1.mem/\(∀k,D k->l.heap.size<=k)/\Gr l w'):=fun h0 l F=>by rw[h0]at S;have K:Gr w l:=HG.out.trans F;refine(pW (w:=l) (f:=f) (i:=i) ((U.out.below K).mono K.size) ⟨(Rn.valid_input S).1,him⟩ S (SlAt.mono (U32At.below HA.out K) K.size) ((HM.out.below K).mono K.size) aa.out (SlAt.mono (U32At.below ac.out K) K.size) ae.out).mono ?_;rintro e w' ⟨⟨c,vx,vq,b,ag,rfl,c1,c2,c3,c4,c5⟩,g⟩;exact⟨_,vx,Dc c,rfl,c4,fun k C=>c5 k C.kept,g⟩
 obtain⟨X,hX⟩:=xJ ((Rn.run f (Rn.given picks) i).1);obtain⟨NW,N⟩:=xJ ((Rn.wids f i picks).length);rw[hX,N]at T;have HX:=dJ hX;have ab:=dJ N;obtain⟨Ap,cp,rfl,-⟩:=id hp;obtain⟨As,cs,rfl,-⟩:=id hs;obtain⟨Ab,cb,rfl,-⟩:=id hb;obtain⟨Aa,ca,rfl,-⟩:=id ha;obtain⟨Am,cm,rfl,-⟩:=id hm;obtain⟨Ak,ck,rfl,-⟩:=id hpk;clear hp hs hb ha hm hnn hpk hr hX N s0 s1 t0 t1 H I A Q R E J Y S;unfold gS at T;by_cases Z:V=0
 ·subst Z;have C2:=dJ (T.out rfl);clear T
  go_enter func16, ntmps16
  go_wp2_with (first
    | (go_at_call 13;refine CV.out.mono ?_;rintro e l ⟨rfl,F⟩;obtain⟨j0,j1,j2,j3,j4,j5⟩:=HC.out l F;have G:=dJ F;have CO:=dJ (C2.out l F);clear F C2)
    | (go_at_call 44;refine CO.out.mono ?_;rintro e u ⟨pp,vx,D,rfl,C,hd,g6⟩;obtain⟨L,M,rfl⟩:=C.2.1;have R4:=dJ C;have RD:=dJ hd;have d:=dJ (G.out.trans g6)
       have e0:=fun o=>vX _ _ 0 _ _ _ (j.out (u.alloc o) (d.out.alloc o))
       have z0:=fun o=>vY _ _ 0 _ _ (j.out (u.alloc o) (d.out.alloc o))
       have e1:=fun o=>vX _ _ 1 _ _ _ (j.out (u.alloc o) (d.out.alloc o))
       have z1:=fun o=>vY _ _ 1 _ _ (j.out (u.alloc o) (d.out.alloc o))
       have e2:=fun o=>vX _ _ 2 _ _ _ (j.out (u.alloc o) (d.out.alloc o))
       have z2:=fun o=>vY _ _ 2 _ _ (j.out (u.alloc o) (d.out.alloc o))
       have e3:=fun o=>vX _ _ 3 _ _ _ (j.out (u.alloc o) (d.out.alloc o))
       have z3:=fun o=>vY _ _ 3 _ _ (j.out (u.alloc o) (d.out.alloc o))
       have e4:=fun o=>vX _ _ 4 _ _ _ (j.out (u.alloc o) (d.out.alloc o))
       have z4:=fun o=>vY _ _ 4 _ _ (j.out (u.alloc o) (d.out.alloc o))
       clear C hd g6))
  obtain⟨W7,O⟩:=xJ (u.alloc (.cells #[.int .i64 X.kind,.bool X.ret.p,.int .i64 X.ret.s,.int .u32 X.ret.n,.slice L X.mem.length M] 39));have G7:Gr u W7:=by rw[<-O];exact(wL u).alloc _
  rw[O];have E:=j.out W7 (d.out.trans G7);clear O;have t:=(((((FrS.refl (·=w.heap.size+1+1) W7).setCell (p:=⟨w.heap.size+1+1,0,none⟩) rfl (.int .i64 X.kind)).setCell (p:=⟨w.heap.size+1+1,1,none⟩) rfl (.bool X.ret.p)).setCell (p:=⟨w.heap.size+1+1,2,none⟩) rfl (.int .i64 X.ret.s)).setCell (p:=⟨w.heap.size+1+1,3,none⟩) rfl (.int .u32 X.ret.n)).setCell (p:=⟨w.heap.size+1+1,4,none⟩) rfl (.slice L X.mem.length M);have r:=cX (i:=4) (.slice L X.mem.length M) (cX (i:=3) (.int .u32 X.ret.n) (cX (i:=2) (.int .i64 X.ret.s) (cX (i:=1) (.bool X.ret.p) (cX (i:=0) (.int .i64 X.kind) E))));obtain⟨y,B⟩:=xJ (((((W7.setCell ⟨w.heap.size+1+1,0,none⟩ (.int .i64 X.kind)).setCell ⟨w.heap.size+1+1,1,none⟩ (.bool X.ret.p)).setCell ⟨w.heap.size+1+1,2,none⟩ (.int .i64 X.ret.s)).setCell ⟨w.heap.size+1+1,3,none⟩ (.int .u32 X.ret.n)).setCell ⟨w.heap.size+1+1,4,none⟩ (.slice L X.mem.length M));rw[B]at t r;rw[B];have q0:y.cell? ⟨w.heap.size+1+1,0,none⟩=some (.int .i64 X.kind):=vX _ _ 0 _ _ _ r;have q1:y.cell? ⟨w.heap.size+1+1,1,none⟩=some (.bool X.ret.p):=vX _ _ 1 _ _ _ r;have q2:y.cell? ⟨w.heap.size+1+1,2,none⟩=some (.int .i64 X.ret.s):=vX _ _ 2 _ _ _ r;have q3:y.cell? ⟨w.heap.size+1+1,3,none⟩=some (.int .u32 X.ret.n):=vX _ _ 3 _ _ _ r;have q4:y.cell? ⟨w.heap.size+1+1,4,none⟩=some (.slice L X.mem.length M):=vX _ _ 4 _ _ _ r;refine vZ (v:=.tuple #[.agg #[.int .i64 X.kind,.bool X.ret.p,.int .i64 X.ret.s,.int .u32 X.ret.n,.slice L X.mem.length M],.int .i64 NW,.int .i64 0]) (by simp[results,results16,go_sem,q0,q1,q2,q3,q4]) rfl ?_;have ah:w.heap.size+3<=l.heap.size:=by have:=G.out.size;have:=af.out;omega
  refine⟨.inr ⟨HV.out,.slice L X.mem.length M,D,?_,?_,fun k C=>by have:=RD.out k C;omega⟩,iA (HG.out.trans (d.out.trans G7)) t (fun k C=>by omega)⟩
  ·rw[HX.out,ab.out];rfl
  ·rw[HX.out];exact(R4.out.gr G7).frs t fun k C q=>by have:=RD.out k C;omega
 ·clear T
  go_enter func16, ntmps16
  go_wp2_with (go_at_call 13;refine CV.out.mono ?_;rintro e l ⟨rfl,F⟩;have m:=j.out l F;have G:=dJ F;have ad:=dJ m
               obtain⟨e0,e1,e2,e3,e4⟩:=crw5 m 0 1 2 3 4
               obtain⟨z0,z1,z2,z3,z4⟩:=frw5 m 0 1 2 3 4
               clear m F)
  have t:=(((((FrS.refl (·=w.heap.size+1+1) l).setCell (p:=⟨w.heap.size+1+1,0,none⟩) rfl (.int .i64 0)).setCell (p:=⟨w.heap.size+1+1,1,none⟩) rfl (.bool false)).setCell (p:=⟨w.heap.size+1+1,2,none⟩) rfl (.int .i64 0)).setCell (p:=⟨w.heap.size+1+1,3,none⟩) rfl (.int .u32 0)).setCell (p:=⟨w.heap.size+1+1,4,none⟩) rfl (.slice none 0 0);have r:=cX (i:=4) (.slice none 0 0) (cX (i:=3) (.int .u32 0) (cX (i:=2) (.int .i64 0) (cX (i:=1) (.bool false) (cX (i:=0) (.int .i64 0) ad.out))));obtain⟨y,B⟩:=xJ (((((l.setCell ⟨w.heap.size+1+1,0,none⟩ (.int .i64 0)).setCell ⟨w.heap.size+1+1,1,none⟩ (.bool false)).setCell ⟨w.heap.size+1+1,2,none⟩ (.int .i64 0)).setCell ⟨w.heap.size+1+1,3,none⟩ (.int .u32 0)).setCell ⟨w.heap.size+1+1,4,none⟩ (.slice none 0 0));rw[B]at t r;rw[B];have q0:y.cell? ⟨w.heap.size+1+1,0,none⟩=some (.int .i64 0):=vX _ _ 0 _ _ _ r;have q1:y.cell? ⟨w.heap.size+1+1,1,none⟩=some (.bool false):=vX _ _ 1 _ _ _ r;have q2:y.cell? ⟨w.heap.size+1+1,2,none⟩=some (.int .i64 0):=vX _ _ 2 _ _ _ r;have q3:y.cell? ⟨w.heap.size+1+1,3,none⟩=some (.int .u32 0):=vX _ _ 3 _ _ _ r;have q4:y.cell? ⟨w.heap.size+1+1,4,none⟩=some (.slice none 0 0):=vX _ _ 4 _ _ _ r;refine vZ (v:=.tuple #[.agg #[.int .i64 0,.bool false,.int .i64 0,.int .u32 0,.slice none 0 0],.int .i64 0,.int .i64 V]) (by simp[results,results16,go_sem,q0,q1,q2,q3,q4]) rfl ?_;exact⟨.inl ⟨by rw[HV.out];exact Z,by rw[HV.out];rfl⟩,iA (HG.out.trans G.out) t (fun k C=>by omega)⟩
theorem gJ {w W:World}{p0 p1 p2 p3 va vm:Value}(h:(w.alloc (.cells #[p0,p1,p2,p3] 25)).alloc (.cells #[va,vm] 29)=W):Gr w W/\W.heap.size=w.heap.size+2 /\
  ∀wr,Gr W wr->C6 wr w.heap.size p0 p1 p2 p3 va vm:=by
 subst h;have e:(w.alloc (.cells #[p0,p1,p2,p3] 25)).heap.size=w.heap.size+1:=by simp
 refine⟨((wL w).alloc _).alloc _,by simp,fun wr g=>?_⟩;have d:wr.heap[w.heap.size]?=some (.cells #[p0,p1,p2,p3] 25 (0,0)):=(g.heap w.heap.size (by simp;omega)).trans ((((wL (w.alloc (.cells #[p0,p1,p2,p3] 25))).alloc (.cells #[va,vm] 29)).heap _ (by simp)).trans (heap_alloc_new w _));have j:wr.heap[w.heap.size+1]?=some (.cells #[va,vm] 29 (0,0)):=(g.heap (w.heap.size+1) (by simp)).trans (by rw[<-e];exact heap_alloc_new (w.alloc (.cells #[p0,p1,p2,p3] 25)) (.cells #[va,vm] 29));exact⟨vX _ _ 0 _ _ _ d,vX _ _ 1 _ _ _ d,vX _ _ 2 _ _ _ d,vX _ _ 3 _ _ _ d,vX _ _ 0 _ _ _ j,vX _ _ 1 _ _ _ j⟩
structure GotV (u:World)(Bv Bh n:Nat)(s:Rn.St):Prop where
 ln:s.vals.length=n
 hl:s.had.length=n
 hv:u.heap[Bv]?=some (.cells (dy s.vals).toArray 37 (0,0))
 hh:u.heap[Bh]?=some (.cells (s.had.map Value.bool).toArray 4 (0,0))
theorem GotV.cells {u:World}{Bv Bh n:Nat}{s:Rn.St}(h:GotV u Bv Bh n s){v:Nat}(hv:v<n):u.cell? ⟨Bv,v*3,none⟩=some (.bool (s.get v).p)/\u.cell? ⟨Bv,v*3+1,none⟩=some (.int .i64 (s.get v).s)/\u.cell? ⟨Bv,v*3+2,none⟩=some (.int .u32 (s.get v).n)/\u.cell? ⟨Bh,v,none⟩=some (.bool (s.had.getD v false)):=by
 have l:=h.ln;have m:=h.hl
 have e:s.vals[v]?=some (s.get (v:Int)):=by unfold Rn.St.get;rw[vG,vA,vu (by omega)];rfl
 obtain⟨d,g,j⟩:=dZ _ _ _ e;rw[Nat.mul_comm]at d g j;refine⟨(vX _ _ _ _ _ _ h.hv).trans (by simpa using d),(vX _ _ _ _ _ _ h.hv).trans (by simpa using g),(vX _ _ _ _ _ _ h.hv).trans (by simpa using j),(vX _ _ _ _ _ _ h.hh).trans ?_⟩;rw[vA];simp[show v<s.had.length by omega]
theorem qX {B:Nat}{w w':World}{v:Value}{zs:List Int}(h:U32At B w v zs)(hb:Below B w w'):U32At B w' v zs :=
 SlAt.imp h fun b off d g j z l=>(hb.cell (p:=⟨b,off+j,none⟩) d).trans (g j z l)
def sL (v:Value)(n:Nat):Prop:=∃A c,v=.slice A n c/\n<=c/\n<=9223372036854775807
theorem U32At.slLen {B:Nat}{w:World}{v:Value}{zs:List Int}(h:U32At B w v zs):sL v zs.length:=by obtain⟨A,c,e,d,g,-⟩:=h;exact⟨A,c,e,d,by omega⟩
structure ArgsAt (w:World)(v:Value)(zs:List Int):Prop where
 len:sL v zs.length
 at_:zs.length<=1000->U32At w.heap.size w v zs
 words:∀z∈zs,0<=z/\z<4294967296
def fj (i:Rn.Inp):Bool:=decide (20<i.args.length) || decide (20<i.mem.length) || i.mem.any fun l=>decide (50<l.length)
theorem sy {w:World}{i:Rn.Inp}{va vm:Value}(ha:sL va i.args.length)(hm:TabAt w.heap.size w vm i.mem) :
  Calls prog 37 #[.agg #[va,vm]] w (RG (.bool (fj i)) w):=by
 obtain⟨B,ca,rfl,X,Y⟩:=ha;obtain⟨Am,cm,rfl,m1,m2,M⟩:=hm;obtain⟨W,L⟩:=xJ (w.alloc (.cells #[.slice B i.args.length ca,.slice Am i.mem.length cm] 29));have F:Gr w W:=by rw[<-L];exact(wL w).alloc _
 have p:W.heap[w.heap.size]?=some (.cells #[.slice B i.args.length ca,.slice Am i.mem.length cm] 29 (0,0)):=by rw[<-L];exact heap_alloc_new _ _
 have k0:W.cell? ⟨w.heap.size,0,none⟩=some (.slice B i.args.length ca):=vX _ _ 0 _ _ _ p;have k1:W.cell? ⟨w.heap.size,1,none⟩=some (.slice Am i.mem.length cm):=vX _ _ 1 _ _ _ p
 have C:Hid (∀j l,i.mem[j]?=some l->∃b o y A,Am=some ⟨b,o,none⟩/\W.cell? ⟨b,o+j,none⟩=some (.slice y l.length A)):=fun j l hl=>by obtain⟨b,o,e,T,S⟩:=M (by have:=(yq.1 hl).1;omega);obtain⟨u,U,y,A,rfl,-⟩:=S j l hl;exact⟨b,o,y,A,e,(F.cell _ _ T).trans U⟩
 have z:=dJ F;obtain⟨R,H⟩:=xJ (fj i);have D:=dJ H;rw[H];clear F p M H;by_cases d:20<i.args.length
 ·have m:Hid (R=true):=by show _=_;rw[<-D.out];simp[fj,d]
  have N:(20:Int)<(i.args.length:Int):=by omega
  go_enter func37, ntmps37
  go_wp2;go_ret;exact⟨cZ m.out.symm,z.out⟩
 ·have N:¬(20:Int)<(i.args.length:Int):=by omega
  by_cases g:20<i.mem.length
  ·have m:Hid (R=true):=by show _=_;rw[<-D.out];simp[fj,g]
   have O:(20:Int)<(i.mem.length:Int):=by omega
   go_enter func37, ntmps37
   go_wp2;go_ret;exact⟨cZ m.out.symm,z.out⟩
  ·have O:¬(20:Int)<(i.mem.length:Int):=by omega
   have r:Hid ((i.mem.any fun l=>decide (50<l.length))=R):=by show _=_;rw[<-D.out];simp[fj,d,g]
   go_enter func37, ntmps37
   go_wp2
   go_loop [3] (fun K=>∃k:Nat,k<=i.mem.length/\K=.int .i64 (k:Int)/\Hid (∀j l,j<k->i.mem[j]?=some l->l.length<=50)) (fun K=>i.mem.length-(intOf K).toNat)
   case atStart=>exact⟨0,vU _,rfl,(fun j l h=>absurd h (Nat.not_lt_zero _))⟩
   case round =>
    obtain⟨k,hk,rfl,t⟩:=hrel;by_cases J:k<i.mem.length
    ·obtain⟨l,hl⟩:∃l,i.mem[k]?=some l:=⟨_,vu J⟩;obtain⟨b,o,y,A,rfl,Z⟩:=C.out k l hl;by_cases G:50<l.length
     ·have m:Hid (R=true):=by show _=_;rw[<-r.out,wC];exact⟨l,vz hl,by simpa using G⟩
      have Q:(50:Int)<(l.length:Int):=by omega
      clear hl;go_wp2;go_ret;exact⟨cZ m.out.symm,z.out⟩
     ·have Q:¬(50:Int)<(l.length:Int):=by omega
      have E:Hid (∀j l,j<k+1->i.mem[j]?=some l->l.length<=50):=fun j l' I h=>by
       rcases wh j k with q|q
       ·exact t.out j l' q h
       ·obtain rfl:j=k:=by omega
        rw[hl]at h;injection h with h;subst h;omega
      clear hl;go_wp2;go_round;case rel=>exact⟨k+1,by omega,by go_num,E⟩
      case measure=>simp[intOf];omega
    ·have m:Hid (R=false):=by
      show _=_;rw[<-r.out,List.any_eq_false];intro l hl;obtain⟨j,I⟩:=List.getElem?_of_mem hl;have:=(yq.1 I).1;have:=t.out j l (by omega) I;simpa using this
     go_wp2;go_ret;exact⟨cZ m.out.symm,z.out⟩
theorem kX {w:World}{f:Fn}{vf:Value}(hfn:FnAt w.heap.size w vf f){i:Rn.Inp}{va vm:Value}(ha:sL va i.args.length)(hm:TabAt w.heap.size w vm i.mem) :
  Calls prog 11 #[vf,.agg #[va,vm]] w (RG (.bool (dV f || fj i)) w):=by
 obtain⟨vp,vs,vb,rfl,E,F,D⟩:=hfn;have z:Hid (FnAt w.heap.size w (.agg #[vp,.int .i64 f.ret,vs,vb]) f):=⟨vp,vs,vb,rfl,E,F,D⟩;have I:=dJ ha;have J:=dJ hm;obtain⟨W,C⟩:=xJ ((w.alloc (.cells #[vp,.int .i64 f.ret,vs,vb] 25)).alloc (.cells #[va,vm] 29));have u:Gr w W:=by rw[<-C];exact((wL w).alloc _).alloc _
 have p:(w.alloc (.cells #[vp,.int .i64 f.ret,vs,vb] 25)).heap.size=w.heap.size+1:=by simp
 have j:W.heap[w.heap.size]?=some (.cells #[vp,.int .i64 f.ret,vs,vb] 25 (0,0)):=by rw[<-C];exact(((wL (w.alloc (.cells #[vp,.int .i64 f.ret,vs,vb] 25))).alloc _).heap _ (by simp)).trans (heap_alloc_new w _)
 have l:W.heap[w.heap.size+1]?=some (.cells #[va,vm] 29 (0,0)):=by rw[<-C,<-p];exact heap_alloc_new _ _
 have U:W.cell? ⟨w.heap.size,0,none⟩=some vp:=vX _ _ 0 _ _ _ j;have X:W.cell? ⟨w.heap.size,1,none⟩=some (.int .i64 f.ret):=vX _ _ 1 _ _ _ j;have Y:W.cell? ⟨w.heap.size,2,none⟩=some vs:=vX _ _ 2 _ _ _ j;have Z:W.cell? ⟨w.heap.size,3,none⟩=some vb:=vX _ _ 3 _ _ _ j
 have B:Hid (∀wr,Gr W wr->wr.cell? ⟨w.heap.size+1,0,none⟩=some va/\wr.cell? ⟨w.heap.size+1,1,none⟩=some vm):=fun wr g=>by have r:=(g.heap _ (cY l)).trans l;exact⟨vX _ _ 0 _ _ _ r,vX _ _ 1 _ _ _ r⟩
 have y:=dJ (ri _ f W ((z.out.below u).mono u.size));have t:=dJ u;obtain⟨M,Q,rfl,-⟩:=id E;obtain⟨N,R,rfl,-⟩:=id F;obtain⟨L,O,rfl,-⟩:=id D;obtain⟨K,ca,rfl,-⟩:=id ha;obtain⟨Am,cm,rfl,-⟩:=id hm;clear E F D ha hm u j l p;cases hl:dV f;all_goals rw[hl]at y
 ·go_enter func11, ntmps11
  go_wp2_with (first|(go_at_call 36;refine y.out.mono ?_;rintro e q ⟨rfl,m⟩;obtain⟨S,T⟩:=B.out q m;have d:Hid (Gr W q):=m;have H:=dJ (sy (w:=q) (i:=i) I.out ((J.out.below (t.out.trans d.out)).mono (t.out.trans d.out).size));clear m)|(go_at_call 37;refine H.out.mono ?_;rintro e w2 ⟨rfl,G⟩;have A:=dJ G;clear G))
  go_ret;exact⟨cZ (by simp),t.out.trans (d.out.trans A.out)⟩
 ·go_enter func11, ntmps11
  go_wp2_with (go_at_call 36;refine y.out.mono ?_;rintro e q ⟨rfl,m⟩;have d:Hid (Gr W q):=m;clear m);go_ret;exact⟨cZ (by simp),t.out.trans d.out⟩
theorem Rn.widB_of {n:Int}(h:Wd.Wid n):Wd.widB n=true:=by unfold Wd.widB;have d:=h.1;have g:=h.2;simp[d,g]
theorem fR {w:World}{f:Fn}{vf:Value}(hfn:FnAt w.heap.size w vf f)(hnice:jF f){i:Rn.Inp}{va vm:Value}(ha:U32At w.heap.size w va i.args)(hm:TabAt w.heap.size w vm i.mem)(hnn:∀a∈i.args,0<=a/\a<4294967296) :
  Calls prog 14 #[vf,.agg #[va,vm]] w (RG (.int .i64 (Rn.validInput f i)) w):=by
 have aD:=dJ hnn;clear hnn;obtain⟨vp,vs,vb,rfl,hp,hs,hb⟩:=hfn;obtain⟨W,hW⟩:=xJ ((w.alloc (.cells #[vp,.int .i64 f.ret,vs,vb] 25)).alloc (.cells #[va,vm] 29));have G:Gr w W:=by rw[<-hW];exact((wL w).alloc _).alloc _
 have au:(w.alloc (.cells #[vp,.int .i64 f.ret,vs,vb] 25)).heap.size=w.heap.size+1:=by simp
 have ac:W.heap[w.heap.size]?=some (.cells #[vp,.int .i64 f.ret,vs,vb] 25 (0,0)):=by rw[<-hW];exact(((wL (w.alloc (.cells #[vp,.int .i64 f.ret,vs,vb] 25))).alloc _).heap _ (by simp)).trans (heap_alloc_new w _)
 have ad:W.heap[w.heap.size+1]?=some (.cells #[va,vm] 29 (0,0)):=by rw[<-hW,<-au];exact heap_alloc_new _ _
 have CV:=dJ (qx (.agg #[vp,.int .i64 f.ret,vs,vb]) f W ⟨vp,vs,vb,rfl,(hp.below G).mono G.size,(hs.below G).mono G.size,(hb.below G).mono G.size⟩ hnice);have HF:Hid (∀wr,Gr W wr->wr.heap[w.heap.size]?=some (.cells #[vp,.int .i64 f.ret,vs,vb] 25 (0,0))/\wr.heap[w.heap.size+1]?=some (.cells #[va,vm] 29 (0,0))):=fun wr g=>⟨(g.heap _ (cY ac)).trans ac,(g.heap _ (cY ad)).trans ad⟩;obtain⟨Ap,cp,rfl,p1,p2,p3⟩:=hp;obtain⟨As,cs,rfl,s1,s2,s3⟩:=hs;obtain⟨Ab,cb,rfl,-,-,-⟩:=id hb;obtain⟨Aa,ca,rfl,a1,a2,a3⟩:=ha;obtain⟨Am,cm,rfl,m1,m2,m3⟩:=hm
 have al:Hid (∀wr,Gr W wr->∀j z,f.params[j]?=some z->∃b o,Ap=some ⟨b,o,none⟩/\wr.cell? ⟨b,o+j,none⟩=some (.int .i64 z)):=fun wr g j z r=>by obtain⟨b,o,e,hb,h4⟩:=p3 (by have:=(yq.1 r).1;omega);exact⟨b,o,e,((G.trans g).cell _ _ (by omega)).trans (h4 j z r)⟩
 have ao:Hid (∀wr,Gr W wr->∀j z,f.slots[j]?=some z->∃b o,As=some ⟨b,o,none⟩/\wr.cell? ⟨b,o+j,none⟩=some (.int .i64 z)):=fun wr g j z r=>by obtain⟨b,o,e,hb,h4⟩:=s3 (by have:=(yq.1 r).1;omega);exact⟨b,o,e,((G.trans g).cell _ _ (by omega)).trans (h4 j z r)⟩
 have ah:Hid (∀wr,Gr W wr->∀j z,i.args[j]?=some z->∃b o,Aa=some ⟨b,o,none⟩/\wr.cell? ⟨b,o+j,none⟩=some (.int .u32 z)):=fun wr g j z r=>by obtain⟨b,o,e,hb,h4⟩:=a3 (by have:=(yq.1 r).1;omega);exact⟨b,o,e,((G.trans g).cell _ _ (by omega)).trans (h4 j z r)⟩
 have az:Hid (∀j l,i.mem[j]?=some l->∃b o Al cl,Am=some ⟨b,o,none⟩/\l.length<=17592186044416/\∀wq,Gr W wq->wq.cell? ⟨b,o+j,none⟩=some (.slice Al l.length cl)/\∀t x,l[t]?=some x->∃b' o',Al=some ⟨b',o',none⟩/\wq.cell? ⟨b',o'+t,none⟩=some (.int .i64 x)):=fun j l hl=>by obtain⟨b,o,e,hb,h4⟩:=m3 (by have:=(yq.1 hl).1;omega);obtain⟨u,hu,Al,cl,rfl,-,h6,h7⟩:=h4 j l hl;refine⟨b,o,Al,cl,e,h6,fun wq g=>⟨((G.trans g).cell _ _ (by omega)).trans hu,fun t x E=>?_⟩⟩;obtain⟨b',o',F,aH,h8⟩:=h7 (by have:=(yq.1 E).1;omega);exact⟨b',o',F,((G.trans g).cell _ _ aH).trans (h8 t x E)⟩
 have C:=dJ G;obtain⟨R,hR⟩:=xJ (Rn.validInput f i);rw[hR];unfold Rn.validInput at hR;have HR:=dJ hR;obtain⟨V,hV⟩:=xJ (Ref.validate f);rw[hV]at CV HR;have HV:=dJ hV
 have aa:∀wr,Gr W wr->C6 wr w.heap.size (.slice Ap f.params.length cp) (.int .i64 f.ret) (.slice As f.slots.length cs) (.slice Ab f.blocks.length cb) (.slice Aa i.args.length ca) (.slice Am i.mem.length cm):=fun wr g=>by obtain⟨q1,q2⟩:=HF.out wr g;exact⟨vX _ _ 0 _ _ _ q1,vX _ _ 1 _ _ _ q1,vX _ _ 2 _ _ _ q1,vX _ _ 3 _ _ _ q1,vX _ _ 0 _ _ _ q2,vX _ _ 1 _ _ _ q2⟩
 have HC:=dJ aa;obtain⟨k0,k1,k2,k3,k4,k5⟩:=aa W (wL _);clear G ac ad p3 s3 a3 m3 hR hV aa au hb;by_cases av:V=0
 ·subst av
  have HW:Hid (∀j z,f.params[j]?=some z->Wd.Wid z):=fun j z r=>by have hv:Ref.Val f:=(Ref.val_iff f).1 HV.out;exact Rn.wid_of (vT.1 hv.head.1 z (vz r))
  by_cases y:i.args.length=f.params.length
  ·by_cases p:i.mem.length=f.slots.length
   ·have am:Hid ((if (f.params.zip i.args).any (fun q=>decide (Wd.sz q.1<=q.2))=true then 1 else if (f.slots.zip i.mem).any (fun q=>decide ((q.2.length:Int)≠q.1) || q.2.any (fun b=>decide (b < -1) || decide (255<b)))=true then 1 else 0)=R):=by
     have:=HR.out;rw[wb (by decide),wb (by omega)]at this;exact this
    obtain⟨n,hn⟩:=xJ f.params.length;obtain⟨m,hm⟩:=xJ f.slots.length;rw[hn]at y p1 p2 k0;rw[hm]at p s1 s2 k2;rw[y]at a1 a2 k4;rw[p]at m1 m2 k5
    have B:Hid (∀wr,Gr W wr->wr.cell? ⟨w.heap.size,0,none⟩=some (.slice Ap n cp)/\wr.cell? ⟨w.heap.size,2,none⟩=some (.slice As m cs)/\wr.cell? ⟨w.heap.size+1,0,none⟩=some (.slice Aa n ca)/\wr.cell? ⟨w.heap.size+1,1,none⟩=some (.slice Am m cm)):=fun wr g=>by obtain⟨q0,q1,q2,q3,q4,q5⟩:=HC.out wr g;rw[hn]at q0;rw[hm]at q2;rw[y]at q4;rw[p]at q5;exact⟨q0,q2,q4,q5⟩
    have aj:=dJ hn;have ak:=dJ hm;have aA:=dJ y;have aB:=dJ p;rw[hn,hm,y,p]at hW;rw[hn,hm]at CV;rw[hn,hm,y,p];clear y p hn hm
    go_enter func14, ntmps14
    go_wp2_with (go_at_call 42;refine CV.out.mono ?_;rintro e w1 ⟨rfl,Q⟩;obtain⟨j0,j2,j4,j5⟩:=B.out w1 Q;have N:=dJ Q)
    have aC:Hid (∀k z x,f.params[k]?=some z->i.args[k]?=some x->Wd.sz z<=x->R=1):=fun k z x d D H=>by rw[<-am.out,wa (Rn.zip_any_at d D (by simpa using H))]
    as_aux_lemma =>
     go_loopw [6] (fun s6 wr=>∃k:Nat,k<=n/\s6=.int .i64 (k:Int)/\Hid (Gr W wr)/\Hid (∀j z x,j<k->f.params[j]?=some z->i.args[j]?=some x->x<Wd.sz z)) (fun s6 _=>n-(intOf s6).toNat)
     case atStart=>exact⟨0,vU _,rfl,N,(fun j z x h=>absurd h (Nat.not_lt_zero _))⟩
     case round =>
      obtain⟨k,hk,rfl,A,K⟩:=hrel;obtain⟨q0,q2,q4,q5⟩:=B.out wr A.out;have U0:=fun u:GrW wr=>(B.out u.val (A.out.trans u.gr)).1;have U4:=fun u:GrW wr=>(B.out u.val (A.out.trans u.gr)).2.2.1;by_cases ae:k<n
      ·obtain⟨z,r⟩:∃z,f.params[k]?=some z:=⟨_,vu (by have:=aj.out;omega)⟩;obtain⟨x,E⟩:∃x,i.args[k]?=some x:=⟨_,vu (by have:=aA.out;omega)⟩;obtain⟨bp,op,rfl,cz⟩:=al.out wr A.out k z r;obtain⟨ba,oa,rfl,cx⟩:=ah.out wr A.out k x E
       have UZ:∀u:GrW wr,u.val.cell? ⟨bp,op+k,none⟩=some (.int .i64 z):=fun u=>by obtain⟨b',o',F,h'⟩:=al.out u.val (A.out.trans u.gr) k z r;injection F with F;injection F with e1 e2;subst e1;subst e2;exact h'
       have UX:∀u:GrW wr,u.val.cell? ⟨ba,oa+k,none⟩=some (.int .u32 x):=fun u=>by obtain⟨b',o',F,h'⟩:=ah.out u.val (A.out.trans u.gr) k x E;injection F with F;injection F with e1 e2;subst e1;subst e2;exact h'
       have ag:=aD.out x (vz E);have CM:Hid (∀u:GrW wr,Calls prog 43 #[.int .i64 z,.int .u32 x] u.val (RG (.bool (decide (x<Wd.sz z))) u.val)):=fun u=>(ep z x u.val ag.1 ag.2).mono fun e w' h=>⟨by rw[h.1,Wd.wordB,Rn.widB_of (HW.out k z r),Bool.true_and],by rw[<-h.2];exact wL _⟩;have U:=dJ (aC.out k z x r E)
       have S:Hid (x<Wd.sz z->∀j z x,j<k+1->f.params[j]?=some z->i.args[j]?=some x->x<Wd.sz z):=fun h j z' x' hj d D=>by
        rcases wh j k with q|q
        ·exact K.out j z' x' q d D
        ·obtain rfl:j=k:=by omega
         rw[r]at d;rw[E]at D;injection d with d;injection D with D;subst d;subst D;exact h
       obtain⟨s,hs⟩:=xJ (Wd.sz z);rw[hs]at CM U S;clear r E hs ag cz cx;obtain⟨bd,I⟩:∃bd,decide (x<s)=bd:=⟨_,rfl⟩;rw[I]at CM;have L:=dJ I;clear I;cases bd
       all_goals
        go_wp2;refine dc (by kernel_rfl) (by kernel_rfl) ?_;repeat (go_big_quiet_step ((rename_i u;go_at_call 43;exact di u (CM.out u))))
        refine wpQuiet_nil ?_;intro w9 af;obtain⟨u9,rfl⟩:=af;have G9:=dJ (A.out.trans u9.gr);clear U0 U4 UZ UX;go_wp2
       ·go_ret;have H:=L.out;simp at H;exact⟨de (U.out H).symm,C.out.trans G9.out⟩
       ·have H:=L.out;simp at H;have O:=dJ (S.out H);refine⟨⟨k+1,by omega,by go_num,G9,O⟩,by simp[intOf];omega⟩
      ·obtain rfl:n=k:=by omega
       have an:Hid ((if (f.slots.zip i.mem).any (fun q=>decide ((q.2.length:Int)≠q.1) || q.2.any (fun b=>decide (b < -1) || decide (255<b)))=true then 1 else 0)=R):=by
        show _=_;have h:=am.out
        rw[Rn.zip_any_none (fun j a b d D=>by
          have hj:=(yq.1 d).1
          have:=K.out j a b (by have:=aj.out;omega) d D
          simpa using this)]at h
        simpa using h
       have aw:=A;clear K ae hk U0 U4;go_wp2
       as_aux_lemma =>
        go_loopw [7] (fun s7 wr=>∃k:Nat,k<=m/\s7=.int .i64 (k:Int)/\Hid (Gr W wr)/\Hid (∀j z l,j<k->f.slots[j]?=some z->i.mem[j]?=some l->(decide ((l.length:Int)≠z) || l.any (fun b=>decide (b < -1) || decide (255<b)))=false)) (fun s7 _=>m-(intOf s7).toNat)
        case atStart=>exact⟨0,vU _,rfl,aw,(fun j z x h=>absurd h (Nat.not_lt_zero _))⟩
        case round =>
         obtain⟨k,hk,rfl,A,K⟩:=hrel;obtain⟨q0,q2,q4,q5⟩:=B.out wr A.out;have U2:=fun u:GrW wr=>(B.out u.val (A.out.trans u.gr)).2.1;have U5:=fun u:GrW wr=>(B.out u.val (A.out.trans u.gr)).2.2.2;by_cases ae:k<m
         ·obtain⟨z,r⟩:∃z,f.slots[k]?=some z:=⟨_,vu (by have:=ak.out;omega)⟩;obtain⟨l,hl⟩:∃l,i.mem[k]?=some l:=⟨_,vu (by have:=aB.out;omega)⟩;obtain⟨bs,os,rfl,-⟩:=ao.out wr A.out k z r;obtain⟨bm,om,Al,cl,rfl,aq,p⟩:=az.out k l hl
          have UZ:∀u:GrW wr,u.val.cell? ⟨bs,os+k,none⟩=some (.int .i64 z):=fun u=>by obtain⟨b',o',F,h'⟩:=ao.out u.val (A.out.trans u.gr) k z r;injection F with F;injection F with e1 e2;subst e1;subst e2;exact h'
          have ai:=dJ p;have UL:=fun u:GrW wr=>(ai.out u.val (A.out.trans u.gr)).1
          have T:Hid ((decide ((l.length:Int)≠z) || l.any (fun b=>decide (b < -1) || decide (255<b)))=true->R=1):=fun h=>by rw[<-an.out,wa (Rn.zip_any_at r hl h)]
          have S:Hid ((decide ((l.length:Int)≠z) || l.any (fun b=>decide (b < -1) || decide (255<b)))=false->∀j z l,j<k+1->f.slots[j]?=some z->i.mem[j]?=some l->(decide ((l.length:Int)≠z) || l.any (fun b=>decide (b < -1) || decide (255<b)))=false):=fun h j z' l' hj d D=>by
           rcases wh j k with q|q
           ·exact K.out j z' l' q d D
           ·obtain rfl:j=k:=by omega
            rw[r]at d;rw[hl]at D;injection d with d;injection D with D;subst d;subst D;exact h
          have ay:=dJ aq;have ax:Hid (k<m):=ae;clear r hl aq p;obtain⟨bd,I⟩:∃bd,((l.length:Int) != z)=bd:=⟨_,rfl⟩;have L:=dJ I;cases bd
          all_goals
           go_wp2;refine dc (by kernel_rfl) (by kernel_rfl) ?_;repeat (go_big_quiet_step (fail))
           refine wpQuiet_nil ?_;intro w9 af;obtain⟨u9,rfl⟩:=af;have G9:=dJ (A.out.trans u9.gr);clear U2 U5 UZ UL
          ·clear I;go_wp2
           as_aux_lemma =>
            go_loopw [8] (fun s8 wq=>∃t:Nat,t<=l.length/\s8=.int .i64 (t:Int)/\Hid (Gr W wq)/\Hid (∀j x,j<t->l[j]?=some x->(decide (x < -1) || decide (255<x))=false)) (fun s8 _=>l.length-(intOf s8).toNat)
            case atStart=>exact⟨0,vU _,rfl,G9,(fun j x h=>absurd h (Nat.not_lt_zero _))⟩
            case round =>
             obtain⟨t,ht,rfl,J,Z⟩:=hrel;have aL:=ay.out;obtain⟨r0,r2,r4,r5⟩:=B.out wr J.out;obtain⟨aN,ab⟩:=ai.out wr J.out;by_cases Y:t<l.length
             ·obtain⟨x,E⟩:∃x,l[t]?=some x:=⟨_,vu Y⟩;obtain⟨be,oe,rfl,ce⟩:=ab t x E
              have ap:Hid ((decide (x < -1) || decide (255<x))=true->R=1):=fun h=>T.out (by rw[show l.any (fun b=>decide (b < -1) || decide (255<b))=true from wC.2 ⟨x,vz E,h⟩,Bool.or_true])
              have aG:Hid ((decide (x < -1) || decide (255<x))=false->∀j x,j<t+1->l[j]?=some x->(decide (x < -1) || decide (255<x))=false):=fun h j x' hj d=>by
               rcases wh j t with q|q
               ·exact Z.out j x' q d
               ·obtain rfl:j=t:=by omega
                rw[E]at d;injection d with d;subst d;exact h
              have aF:Hid (t<l.length):=Y;clear E ab;by_cases aI:x < -1
              ·have M:Hid (R=1):=ap.out (by simp[aI]);go_wp2;go_ret;exact⟨de M.out.symm,C.out.trans J.out⟩
              ·by_cases aJ:255<x
               ·have M:Hid (R=1):=ap.out (by simp[aJ]);go_wp2;go_ret;exact⟨de M.out.symm,C.out.trans J.out⟩
               ·have aE:=dJ (aG.out (by simp;omega));go_wp2;have aP:=aF.out;refine⟨⟨t+1,by omega,by go_num,J,aE⟩,by simp[intOf];omega⟩
             ·obtain rfl:t=l.length:=by omega
              have O:=dJ (S.out (by
                have H:=L.out
                simp only[bne_eq_false_iff_eq]at H
                rw[List.any_eq_false.2 (fun x E=>by
                  obtain⟨j,hj⟩:=List.getElem?_of_mem E
                  have:=Z.out j x (yq.1 hj).1 hj
                  rw[this];exact Bool.false_ne_true)]
                simp[H]))
              clear ab;go_wp2;have aO:=ax.out;refine⟨⟨k+1,by omega,by go_num,J,O⟩,by simp[intOf];omega⟩
          ·go_wp2;go_ret;exact⟨de (T.out (by have H:=L.out;simp at H;simp[H])).symm,C.out.trans G9.out⟩
         ·obtain rfl:m=k:=by omega
          have M:Hid (R=0):=by
           show _=_
           rw[<-an.out,Rn.zip_any_none (fun j a b d D=>by
             have hj:=(yq.1 d).1
             exact K.out j a b (by have:=ak.out;omega) d D)]
           rfl
          clear U2 U5;go_wp2;go_ret;exact⟨de M.out.symm,C.out.trans A.out⟩
   ·have M:Hid (R=1):=by show _=_;rw[<-HR.out,wb (by decide),wa (.inr p)]
    have ar:¬((i.mem.length:Int)=(f.slots.length:Int)):=by omega
    have X:(i.args.length:Int)=(f.params.length:Int):=by omega
    have aK:((i.args.length:Int) != (f.params.length:Int))=false:=by simp[y]
    have aM:((i.mem.length:Int) != (f.slots.length:Int))=true:=by simp;omega
    clear y X ar
    go_enter func14, ntmps14
    go_wp2_with (go_at_call 42;refine CV.out.mono ?_;rintro e w1 ⟨rfl,Q⟩;obtain⟨j0,j1,j2,j3,j4,j5⟩:=HC.out w1 Q;have N:=dJ Q);go_ret;exact⟨de M.out.symm,C.out.trans N.out⟩
  ·have M:Hid (R=1):=by show _=_;rw[<-HR.out,wb (by decide),wa (.inl y)]
   have X:¬((i.args.length:Int)=(f.params.length:Int)):=by omega
   go_enter func14, ntmps14
   go_wp2_with (go_at_call 42;refine CV.out.mono ?_;rintro e w1 ⟨rfl,Q⟩;obtain⟨j0,j1,j2,j3,j4,j5⟩:=HC.out w1 Q;have N:=dJ Q);go_ret;exact⟨de M.out.symm,C.out.trans N.out⟩
 ·have M:Hid (R=V):=by show _=_;rw[<-HR.out,wa av]
  go_enter func14, ntmps14
  go_wp2_with (go_at_call 42;refine CV.out.mono ?_;rintro e w1 ⟨rfl,Q⟩);go_ret;exact⟨de M.out.symm,C.out.trans Q⟩
@[go_sem] theorem sE (v0 v1 v2 v3 v4 v5 v7 v8 v9:Value)(A:Option Addr)(n c:Nat)(w:World):(Instr.field 81 (.agg #[v0,v1,v2,v3,v4,v5,.slice A n c,v7,v8,v9]) 2).run prog w=.ok (.slice A n c) w:=by kernel_rfl
@[go_sem] theorem sU (v0 v1 v2 v3 v4 v5 v6 v8 v9:Value)(z:Int)(w:World):(Instr.field 81 (.agg #[v0,v1,v2,v3,v4,v5,v6,.int .i64 z,v8,v9]) 3).run prog w=.ok (.int .i64 z) w:=by kernel_rfl
@[go_sem] theorem xW (z1 z2 z3:Int)(b:Bool)(A:Option Addr)(n c:Nat)(v1 v2 v3 v4 v5:Value)(w:World):(Instr.field 81 (.agg #[.int .i64 z1,.bool b,.int .i64 z2,.int .u32 z3,.slice A n c,v1,v2,v3,v4,v5]) 0).run prog w=.ok (.agg #[.int .i64 z1,.bool b,.int .i64 z2,.int .u32 z3,.slice A n c]) w:=by kernel_rfl
@[go_sem] theorem yd (v0 v1 v2 v3 v4 v6 v7 v8 v9:Value)(A:Option Addr)(n c:Nat)(w:World):(Instr.field 81 (.agg #[v0,v1,v2,v3,v4,.slice A n c,v6,v7,v8,v9]) 1).run prog w=.ok (.slice A n c) w:=by kernel_rfl
theorem Own1.base {B B':Nat}{e:TypeId}{w:World}{v:Value}{xs:List Value}(h:Own1 B e w v xs)(hb:∀k,v.ownBlock=some k->B'<=k):Own1 B' e w v xs:=by obtain⟨m,p⟩:=h;refine⟨m,p.elim .inl fun⟨g,d,j,l,q,r⟩=>.inr ⟨g,d,j,l,hb g (by rw[l];rfl),r⟩⟩
theorem xV {w:World}{f:Fn}{vf:Value}(hfn:FnAt w.heap.size w vf f)(hf:VFn f){i:Rn.Inp}(hin:Rn.validInput f i=0){va vm:Value}(ha:U32At w.heap.size w va i.args)(hm:TabAt w.heap.size w vm i.mem)(hnn:∀a∈i.args,0<=a)
  {vpk:Value} {picks:List Int} (hpk:U32At w.heap.size w vpk picks) (hr:∀z∈picks,0<=z/\z<4294967296) (hpl:picks.length<=1000) :
  Calls prog 45 #[vf,.agg #[va,vm],vpk] w fun e w'=>∃(cw cx n6 c6 n8 c8 c9:Nat)(Aw Ax A6 A8 A9:Option Addr)(z7:Int),e=.returned (.agg #[.int .i64 (Rn.run f (Rn.given picks) i).1.kind,.bool (Rn.run f (Rn.given picks) i).1.ret.p,.int .i64 (Rn.run f (Rn.given picks) i).1.ret.s,.int .u32 (Rn.run f (Rn.given picks) i).1.ret.n,.slice Ax (Rn.run f (Rn.given picks) i).1.mem.length cx,.slice Aw (Rn.run f (Rn.given picks) i).2.1.widths.length cw,.slice A6 n6 c6,.int .i64 z7,.slice A8 n8 c8,.slice A9 n8 c9]) /\
   (∃D:Nat->Prop,Keeps D w' (.slice Ax (Rn.run f (Rn.given picks) i).1.mem.length cx) (Rn.run f (Rn.given picks) i).1.mem/\∀k,D k->w.heap.size<=k)/\Own1 w.heap.size 3 w' (.slice Aw (Rn.run f (Rn.given picks) i).2.1.widths.length cw) ((Rn.run f (Rn.given picks) i).2.1.widths.map (Value.int .i64))/\Gr w w':=by
 obtain⟨-,-,K,L⟩:=Rn.run_ok mr hf.val hf.im hin hnn picks;refine(rp mr hfn hf ha hm hin hnn hpk hr hpl).mono ?_;rintro e w' ⟨⟨c,N,M,rfl,rfl,p,r,q,m⟩,g⟩;obtain⟨Aw,cw,F⟩:=p.wid.form;obtain⟨A6,c6,E⟩:=p.blk.form;rw[vS]at F E;subst F;subst E
 have A:∃Ax cx,pV c (Rn.run c.f (Rn.given picks) i).1=.slice Ax (Rn.run c.f (Rn.given picks) i).1.mem.length cx/\∃D:Nat->Prop,Keeps D w' (.slice Ax (Rn.run c.f (Rn.given picks) i).1.mem.length cx) (Rn.run c.f (Rn.given picks) i).1.mem/\∀k,D k->w.heap.size<=k:=by
  unfold pV ef;rcases L with ⟨H,I,-⟩|h|h
  ·rw[wa H,I]
   have t:∀k,Dc c k->k<w'.heap.size/\w.heap.size<=k:=fun k d=>by
    rcases d with ⟨-,rfl⟩|⟨j,B,y⟩
    ·exact⟨m,q⟩
    ·obtain⟨l,hl⟩:∃l,(Rn.run c.f (Rn.given picks) i).2.1.mem[j]?=some l:=⟨_,vu (by rw[p.mem.1];exact(yq.1 y).1)⟩;obtain⟨-,-,G,J,-⟩:=p.mem.2 j k B l y hl;exact⟨cY J,r k (.inl (.inr (.inr (.inr ⟨j,B,y⟩))))⟩
   have u:=wS p.mem p.slots (fun k d=>(t k d).1) m hf.val K.mem;have C:c.mv=.slice c.Am (Rn.run c.f (Rn.given picks) i).2.1.mem.length c.cm:=by unfold Cfg.mv;rw[p.mem.1]
   exact⟨c.Am,c.cm,C,Dc c,C ▸ u,fun k d=>(t k d).2⟩
  all_goals
   rw[h];exact⟨none,0,rfl,fun _=>False,kS _ _ (fun _ h=>h.elim),fun _ h=>h.elim⟩
 obtain⟨Ax,cx,A,u⟩:=A;exact⟨cw,cx,_,c6,_,_,_,Aw,Ax,A6,_,_,_,by unfold pR;rw[A],u,p.wid.base fun k d=>r k (.inr (.inl d)),g⟩
def RowOf (B:Nat)(e:TypeId)(w:World)(v:Value)(ys:List Value):Prop:=∃A c,v=.slice A ys.length c/\ys.length<=c/\(0<ys.length->Own1 B e w v ys)
section
variable {P:Program}{w:World}
theorem yg {o:Oper}{a:Act}{K:Act->World->Prop}{Q:Exit->Act->World->Prop}{t e:TypeId}{i:TypeInfo}{z:Value}
  (ht:P.underlying t=some (.slice e)) (hi:P.info? e=some i) (hz:i.zero=some z) (hsize:i.size=1) (hby:i.bytes<=8) (hzs:z.cells.size=1)
  (s x:Operand) (ho:o.op=.call {callee:=.builtin .append,args:=#[s,x],argTypes:=#[t,t]}) {g:Nat} (hs:a.eval s=.slice (some ⟨g,0,none⟩) 0 0) {u:Value} {ys:List Value} {n:Nat} (hu:Src w u 1 n ys) (hl:ys.length=n) (hn:n<=17592186044416) (h1:∀y∈ys,y.oneCell'=true) (hx:a.eval x=u)
  (h:∀A c w',RowOf w.heap.size e w' (.slice A n c) ys->Gr w w'->K (a.put o.dst (.slice A n c)) w'):o.wp P a w K Q:=by
 subst hl;obtain⟨A,c,w',d,j,l,m⟩:=gU (P:=P) (w:=w) t o.type e i z ht hi hz hsize hzs g u ys hu hn (Nat.le_trans (Nat.mul_le_mul_left _ hby) (by omega)) h1;unfold Oper.wp execOp;simp only[ho,resolve,invoke,builtin,Sem.run_bind,Sem.run_pure,Result.andThen_ok,List.map_toArray,List.map_cons,List.map_nil,hs,hx,d];exact h A c w' ⟨A,c,rfl,l,m⟩ j
theorem xy {ops:Array Oper}{rest:List Oper}{o:Oper}{a:Act}{Q:Exit->Act->World->Prop}{t e:TypeId}{i:TypeInfo}{z:Value}
  (ht:P.underlying t=some (.slice e)) (hi:P.info? e=some i) (hz:i.zero=some z) (hsize:i.size=1) (hby:i.bytes<=8) (hzs:z.cells.size=1) (hgd:o.guard=none)
  (s x:Operand) (ho:o.op=.call {callee:=.builtin .append,args:=#[s,x],argTypes:=#[t,t]}) {g:Nat} (hs:a.eval s=.slice (some ⟨g,0,none⟩) 0 0) {u:Value} {ys:List Value} {n:Nat} (hu:Src w u 1 n ys) (hl:ys.length=n) (hn:n<=17592186044416) (h1:∀y∈ys,y.oneCell'=true) (hx:a.eval x=u)
  (h:∀A c w',RowOf w.heap.size e w' (.slice A n c) ys->Gr w w'->wpList P ops Q rest (a.put o.dst (.slice A n c)) w'):wpList P ops Q (o::rest) a w :=
 wpList_plain hgd fun _ d=>yg ht hi hz hsize hby hzs s x ho hs hu hl hn h1 hx fun A c w' h1 h2=>d _ _ (h A c w' h1 h2)
end
section
variable {w w':World}{B:Nat}{e:TypeId}{v:Value}{ys:List Value}
theorem RowOf.same (h:RowOf B e w v ys)(hw:∀(k:Nat)(cur:Array Value),B<=k->w.heap[k]?=some (.cells cur e (0,0))->w'.heap[k]?=w.heap[k]?):RowOf B e w' v ys:=by obtain⟨A,c,rfl,j,d⟩:=h;refine⟨A,c,rfl,j,fun g=>dr (d g) fun k hk=>?_⟩;obtain⟨l,-,cur,m⟩:=dg (d g) hk;exact hw k cur l m
theorem RowOf.less {B':Nat}(h:RowOf B e w v ys)(hB:B'<=B):RowOf B' e w v ys:=by obtain⟨A,c,rfl,p,q⟩:=h;refine⟨A,c,rfl,p,fun t=>?_⟩;obtain⟨u,y⟩:=q t;refine⟨u,y.elim .inl fun⟨g,d,j,l,m,r⟩=>.inr ⟨g,d,j,l,Nat.le_trans hB m,r⟩⟩
theorem RowOf.sl {n:Nat}(h:RowOf B e w v ys)(hl:ys.length=n)(hn:n<=17592186044416):SlAt w.heap.size v n fun b off=>∀j z,ys[j]?=some z->w.cell? ⟨b,off+j,none⟩=some z:=by subst hl;obtain⟨A,c,rfl,l,m⟩:=h;refine⟨A,c,rfl,l,hn,fun d=>?_⟩;obtain⟨b,rfl,p,-,q⟩:=dz (m d) rfl d;exact⟨b,0,rfl,p,fun j z g=>by rw[Nat.zero_add,q j (by have:=(yq.1 g).1;omega)];exact g⟩
theorem RowOf.ints {zs:List Int}(h:RowOf B e w v (zs.map (Value.int .i64)))(hn:zs.length<=17592186044416):IntsAt w.heap.size w v zs :=
 SlAt.imp (h.sl (vS _) hn) fun b off _ d j z g=>d j _ (by rw[vH,g];rfl)
theorem RowOf.u32 {zs:List Int}(h:RowOf B e w v (zs.map (Value.int .u32)))(hn:zs.length<=17592186044416):U32At w.heap.size w v zs :=
 SlAt.imp (h.sl (vS _) hn) fun b off _ d j z g=>d j _ (by rw[vH,g];rfl)
theorem Src.u32 {u:Value}{zs:List Int}(h:U32At B w u zs):Src w u 1 zs.length (zs.map (Value.int .u32)):=by obtain⟨A,c,rfl,_,_,g⟩:=h;refine⟨A,c,rfl,by simp,fun m=>?_⟩;obtain⟨b,off,rfl,_,l⟩:=g m;refine⟨_,rfl,fun j x d=>?_⟩;rw[vH]at d;obtain⟨z,p,rfl⟩:=Option.map_eq_some_iff.1 d;rw[eP];exact l j z p
end
structure CS (Bo:Nat)(W w:World)(va:Value)(mem:List (List Int))(k:Nat)(us:List Value)(A8:Option Addr)(c8:Nat):Prop where
 fr:FrS (·=Bo) W w
 st:w.heap[Bo]?=some (.cells #[va,.slice A8 k c8] 29 (0,0))
 len:us.length=k
 own:Own1 (Bo+1) 22 w (.slice A8 k c8) us
 rows:∀(j:Nat)(u:Value)(l:List Int),us[j]?=some u->mem[j]?=some l->RowOf (Bo+1) 3 w u (l.map (Value.int .i64))
section
variable {Bo k c8 c2:Nat}{W w w1 w2:World}{va:Value}{mem:List (List Int)}{us:List Value}{A8 A2:Option Addr}{tmp:Obj}{u:Value}{l:List Int}
theorem CS.grow (hW:W.heap.size=Bo+1)(h:CS Bo W w va mem k us A8 c8)(g:Gr w w1):CS Bo W w1 va mem k us A8 c8 where
 fr:=h.fr.trans (FrS.of_gr g)
 st:=(g.heap _ (cY h.st)).trans h.st
 len:=h.len
 own:=h.own.gr g
 rows:=fun j u l d m=>(h.rows j u l d m).same fun q cur _ hq=>g.heap _ (cY hq)
theorem CS.push (hW:W.heap.size=Bo+1)(h:CS Bo W w va mem k us A8 c8)(hl:mem[k]?=some l)(g1:Gr w w1)(hu:RowOf w.heap.size 3 w1 u (l.map (Value.int .i64)))(hg:(w1.alloc tmp).grownBy w2 (Value.slice A8 k c8).ownBlock)(ho2:Own1 (Bo+1) 22 w2 (.slice A2 (k+1) c2) (us++[u])) :
  (w2.cell? ⟨Bo,1,none⟩=some (.slice A8 k c8)/\w2.frozen? ⟨Bo,1,none⟩=false)/\CS Bo W (w2.setCell ⟨Bo,1,none⟩ (.slice A2 (k+1) c2)) va mem (k+1) (us++[u]) A2 c2:=by
 have y:=h.own.gr g1;have A:FrS (fun q=>(Value.slice A8 k c8).ownBlock=some q) w1 w2:=((FrS.refl _ w1).alloc tmp).grown hg (fun q d=>.inl d);have I:w.heap.size<=w1.heap.size:=g1.size;have H:W.heap.size<=w.heap.size:=h.fr.size;have B:=(g1.heap _ (cY h.st)).trans h.st;have C:w2.heap[Bo]?=some (.cells #[va,.slice A8 k c8] 29 (0,0)):=(A.block _ (cY B) (fun q=>by have:=(dg y q).1;omega)).trans B;have G:FrS (fun q=>(Value.slice A8 k c8).ownBlock=some q\/q=Bo) w1 (w2.setCell ⟨Bo,1,none⟩ (.slice A2 (k+1) c2)):=(A.mono fun q d=>.inl d).setCell (p:=⟨Bo,1,none⟩) (.inr rfl) _
 have r:∀(q:Nat)(t:Array Value),Bo+1<=q->w1.heap[q]?=some (.cells t 3 (0,0))->(w2.setCell ⟨Bo,1,none⟩ (.slice A2 (k+1) c2)).heap[q]?=w1.heap[q]?:=fun q t d hc=>G.block _ (cY hc) (by
   rintro (e|e)
   · obtain⟨-,-,F,E⟩:=dg y e
     exact gs hc E (by decide) rfl
   · omega)
 refine⟨⟨vX _ _ 1 _ _ _ C,vY _ _ 1 _ _ C⟩,?_,?_,by simp[h.len],dr ho2 fun q d=>wk _ _ _ _ (by have:=(dg ho2 d).1;show q≠Bo;omega),fun j v m g z=>?_⟩
 ·refine FrS.weaken (S:=fun q=>q=Bo\/W.heap.size<=q) ((h.fr.mono fun q d=>.inl d).trans ((FrS.of_gr g1).trans (G.mono fun q d=>?_))) fun q d e=>e.elim (fun e=>e) (fun e=>by omega);rcases d with e|e
  ·right;have:=(dg y e).1;omega
  ·exact .inl e
 ·have:=cX (i:=1) (.slice A2 (k+1) c2) C;exact this
 ·rcases wh j us.length with D|D
  ·rw[vJ D]at g;exact((h.rows j v m g z).same fun q t _ d=>g1.heap _ (cY d)).same r
  ·rw[vK D]at g
   obtain rfl:j=us.length:=by
    rcases wh us.length j with q|q
    ·rw[vP (by simp;omega)]at g;cases g
    ·omega
   rw[Nat.sub_self]at g;simp at g;subst g;rw[h.len,hl]at z;injection z with z;subst z;exact(hu.less (by omega)).same r
end
theorem xd {x o:Rn.Out}:∀{l:List Rn.Out},o∈Rn.insert x l->o=x\/o∈l
 | [],h=>by simp[Rn.insert]at h;exact .inl h
 | y::r,h=>by
  rw[Rn.insert]at h
  split at h
  ·exact .inr h
  ·split at h
   ·rcases List.mem_cons.1 h with h|h
    ·exact .inl h
    ·exact .inr h
   ·rcases List.mem_cons.1 h with h|h
    ·exact .inr (by rw[h];simp)
    ·rcases xd h with h|h
     ·exact .inl h
     ·exact .inr (List.mem_cons_of_mem _ h)
theorem ye {f:Fn}{i:Rn.Inp}(hv:Ref.Val f)(hi:Rn.Im f)(hin:Rn.validInput f i=0)(ha:∀a∈i.args,0<=a)(p:List Int):OW (Rn.run f (Rn.given p) i).1:=by
 obtain⟨-,-,-,q⟩:=Rn.run_ok mr hv hi hin ha p;rcases q with ⟨-,-,-,q⟩|q|q
 ·exact q
 all_goals rw[q];unfold OW;decide
def slLen:Value->Nat
 | .slice _ n _=>n
 | _=>0
theorem Own1.src {B:Nat}{e:TypeId}{w:World}{v:Value}{xs:List Value}{n:Nat}(h:Own1 B e w v xs)(hn:xs.length=n):Src w v 1 n xs:=by subst hn;obtain⟨A,c,rfl⟩:=h.form;refine⟨A,c,rfl,by simp,fun l=>?_⟩;obtain⟨b,rfl,-,-,g⟩:=dz h rfl l;refine⟨_,rfl,fun j x d=>?_⟩;rw[eP];have:=g j (by have:=(yq.1 d).1;omega);rw[d]at this;rw[Nat.zero_add];exact this
theorem RowOf.own {B:Nat}{e:TypeId}{w:World}{v:Value}{ys:List Value}(h:RowOf B e w v ys)(hp:0<ys.length):Own1 B e w v ys:=by obtain⟨A,c,-,-,q⟩:=h;exact q hp
theorem xU {pp:List Int}{k:Nat}{x:Int}(h:pp[k]?=some x):(((pp.take (k+1)).map (Value.int .u32)).set k (.int .u32 (x+1)))=(Rn.bump pp k).map (Value.int .u32):=by have hl:=(yq.1 h).1;rw[<-Rn.bump_take pp k hl,List.take_set,List.map_set,vA,h];rfl
theorem xx {p:List Int}{t:Nat}(h:p.length<=t):(Rn.padded p (t+1)).map (Value.int .u32)=(Rn.padded p t).map (Value.int .u32)++[.int .u32 0]:=by unfold Rn.padded;rw[show t+1-p.length=(t-p.length)+1 by omega,List.replicate_succ',List.map_append,List.map_append,List.map_append,List.append_assoc];rfl
def yc (f:Fn)(i:Rn.Inp)(B:Nat)(R:Option (List Rn.Out))(n:Nat)(v vp:Value)(w:World):Prop :=
 ∃(D:Nat->Prop)(vms:List Value)(p:List Int)(outs:List Rn.Out),OutsAt D B w v outs vms/\Own1 B 35 w vp (p.map (Value.int .u32))/\(∀k,D k->k<w.heap.size/\vp.ownBlock≠some k)/\Rn.Good f i p/\Rn.Asc outs/\(∀o∈outs,OW o)/\outs.length+1<=n/\Rn.explore f i (257-n) p outs=R
section
variable {B:Nat}{w w' w2:World}{v:Value}{xs:List Int}
theorem Own1.u32 {vp:Value}{p:List Int}(h:Own1 B 35 w vp (p.map (Value.int .u32)))(hl:p.length<=1000):U32At w.heap.size w vp p:=by
 have d:RowOf B 35 w vp (p.map (Value.int .u32)):=by
  obtain⟨A,c,rfl⟩:=h.form;refine⟨A,c,rfl,?_,fun _=>h⟩;obtain⟨-,r⟩:=h;rcases r with ⟨e,d⟩|⟨g,j,l,e,-,-,t,-⟩
  ·injection e with _ m q;omega
  ·injection e with _ m q;omega
 exact d.u32 (by omega)
end
theorem xz {w:World}{f:Fn}{vf:Value}(hfn:FnAt w.heap.size w vf f)(hnice:jF f)(him:Rn.Im f){i:Rn.Inp}{va vm:Value}(ha:U32At w.heap.size w va i.args)(hm:TabAt w.heap.size w vm i.mem)(hnn:∀a∈i.args,0<=a/\a<4294967296) :
  Calls prog 24 #[vf,.agg #[va,vm]] w fun e w'=>AllP f i (w.heap.size+2) e w'/\Gr w w':=by
 obtain⟨i2,bh,bu,bv,b4⟩:=info_parts rz;have bx:(Value.int .u32 0).cells.size=1:=rfl;obtain⟨vp,vs,vb,rfl,hp,hs,hb⟩:=hfn;have aU:Hid (FnAt w.heap.size w (.agg #[vp,.int .i64 f.ret,vs,vb]) f):=⟨vp,vs,vb,rfl,hp,hs,hb⟩;have HA:=dJ ha;have HM:=dJ hm;have az:=dJ hnn;have bG:=dJ him;obtain⟨W,hW⟩:=xJ ((w.alloc (.cells #[vp,.int .i64 f.ret,vs,vb] 25)).alloc (.cells #[va,vm] 29));obtain⟨g0,bf,aG⟩:=gJ hW;have CV:=dJ (fR (w:=W) (f:=f) (vf:=.agg #[vp,.int .i64 f.ret,vs,vb]) (i:=i) (va:=va) (vm:=vm) ((aU.out.below g0).mono g0.size) hnice (SlAt.mono (U32At.below ha g0) g0.size) ((hm.below g0).mono g0.size) hnn);have HC:=dJ aG;obtain⟨k0,k1,k2,k3,k4,k5⟩:=aG W (wL _);have aV:=dJ g0;have bR:=dJ bf;obtain⟨Ap,cp,rfl,-⟩:=id hp;obtain⟨As,cs,rfl,-⟩:=id hs;obtain⟨Ab,cb,rfl,-⟩:=id hb;obtain⟨Aa,ca,rfl,-⟩:=id ha;obtain⟨Am,cm,rfl,-⟩:=id hm;obtain⟨V,hV⟩:=xJ (Rn.validInput f i);rw[hV]at CV;have HV:=dJ hV;clear g0 hV aG hp hs hb bf ha hm hnn him;by_cases bq:V=0
 ·subst bq;have hf:VFn f:=⟨(Rn.valid_input HV.out).1,bG.out⟩;have aa:=dJ hf;clear hf
  go_enter func24, ntmps24
  go_wp2_with (go_at_call 14;refine CV.out.mono ?_;rintro e w1 ⟨rfl,g1⟩;have ad:=dJ g1;clear k0 k1 k2 k3 k4 k5);obtain⟨R,hR⟩:=xJ (Rn.all f i);have HR:=dJ hR
  have bF:Hid (yc f i (w.heap.size+2) R 1 (.slice none 0 0) (.slice none 0 0) w1) :=
   ⟨fun _=>False,[],[],[],⟨rfl,⟨rfl,.inl ⟨rfl,rfl⟩⟩,fun j o vm h=>by simp at h⟩,Own1.nil _ _ _,fun _ h=>h.elim,Rn.good_nil f i,(by unfold Rn.Asc;exact List.Pairwise.nil),(fun o h=>by cases h),vV _,hR⟩
  have aQ:Hid (w.heap.size+2<=w1.heap.size):=by show _<=_;have:=g1.size;have:=bR.out;omega
  have bB:Hid (∀wr,FrS (fun k=>w.heap.size+2<=k) w1 wr->C6 wr w.heap.size (.slice Ap f.params.length cp) (.int .i64 f.ret) (.slice As f.slots.length cs) (.slice Ab f.blocks.length cb) (.slice Aa i.args.length ca) (.slice Am i.mem.length cm)):=fun wr hF=>by have hb:Below (w.heap.size+2) w1 wr:=hF.below (fun k d=>d) aQ.out;obtain⟨j0,j1,j2,j3,j4,j5⟩:=HC.out w1 ad.out;have q:=fun(k o:Nat)(h:k<w.heap.size+2)=>hb.cell (p:=⟨k,o,none⟩) h;exact⟨(q _ 0 (by omega)).trans j0,(q _ 1 (by omega)).trans j1,(q _ 2 (by omega)).trans j2,(q _ 3 (by omega)).trans j3,(q _ 0 (by omega)).trans j4,(q _ 1 (by omega)).trans j5⟩
  have aW:Hid (∀wr,FrS (fun k=>w.heap.size+2<=k) w1 wr->Gr w wr):=fun wr hF=>iA (aV.out.trans ad.out) hF (fun k d=>by omega);clear hR g1;go_wp2
  go_loopw [7,8,9] (fun s7 s8 s9 wr=>∃n:Nat,1<=n/\n<=257/\s9=.int .i64 (n:Int)/\Hid (yc f i (w.heap.size+2) R n s7 s8 wr)/\Hid (FrS (fun k=>w.heap.size+2<=k) w1 wr)) (fun _ _ s9 _=>257-(intOf s9).toNat)
  case atStart=>exact⟨1,vV _,by decide,rfl,bF,FrS.refl _ _⟩
  case round =>
   obtain⟨n,ci,cj,rfl,hI,hF⟩:=hrel;obtain⟨D,cq,p,r,bd,ah,aC,ai,aD,aE,cf,be⟩:=hI.out;obtain⟨q0,q1,-,-⟩:=Rn.run_ok mr aa.out.val aa.out.im HV.out (fun a ha=>(az.out a ha).1) p;obtain⟨k0,k1,k2,k3,k4,k5⟩:=bB.out wr hF.out;have I:=aW.out wr hF.out;have aJ:p.length<=1000:=by have:=ai.1;omega
   have bm:∀z∈p,0<=z/\z<4294967296:=fun z hz=>Rn.good_words ai q1 z (by unfold Rn.padded;exact List.mem_append_left _ hz);have CR:=dJ (xV (w:=wr) (f:=f) (i:=i) (vf:=.agg #[.slice Ap f.params.length cp,.int .i64 f.ret,.slice As f.slots.length cs,.slice Ab f.blocks.length cb]) (va:=.slice Aa i.args.length ca) (vm:=.slice Am i.mem.length cm) (vpk:=u8) (picks:=p) ((aU.out.below I).mono I.size) aa.out HV.out (SlAt.mono (U32At.below HA.out I) I.size) ((HM.out.below I).mono I.size) (fun a ha=>(az.out a ha).1) (ah.u32 aJ) bm aJ);obtain⟨O,c8,e8⟩:=ah.form;rw[vS]at e8;subst e8;obtain⟨X,hX⟩:=xJ (Rn.run f (Rn.given p) i);have E:Hid (Rn.wids f i p=X.2.1.widths):=by show _=_;unfold Rn.wids;rw[hX]
   rw[hX]at CR;have a7:Hid (OW X.1):=by rw[<-hX];exact ye aa.out.val aa.out.im HV.out (fun a ha=>(az.out a ha).1) p
   have HX:=dJ hX;have hB:w.heap.size+2<=wr.heap.size:=by have:=hF.out.size;have:=aQ.out;omega
   have aS:Hid (∀(Q:Nat->Prop)(K:World)(o:Obj)(vx:Value),Gr wr K->Keeps Q K vx X.1.mem->(∀k,Q k->wr.heap.size<=k) ->
       Calls prog 53 #[u7,gS X.1 vx] (K.alloc o) fun e C=>∃v' G,e=.returned v'/\OutsAt (fun k=>D k\/Q k) (w.heap.size+2) C v' (Rn.insert X.1 r) G/\Gr (K.alloc o) C):=fun Q K o vx g d hd=>by
    have g':=g.trans ((wL K).alloc o)
    have aH:∀k,D k\/Q k->k<(K.alloc o).heap.size:=fun k hk'=>by
     have:=g'.size;have h1:=g.size;rcases hk' with q|q
     ·have:=(aC k q).1;omega
     ·have:=d.1 k q;simp;omega
    refine xN (D:=fun k=>D k\/Q k) (((bd.frs (FrS.of_gr (S:=fun _=>False) g') (fun _ _ q=>q) (fun _ _ q=>q)).more (fun k q=>.inl q) aH)) (by have:=g'.size;omega) aD (by omega) ((d.gr ((wL K).alloc o)).more (fun k q=>.inr q) aH) aE a7.out
   unfold gS at aS;have ax:=dJ ah;have aX:=dJ aC;have Y:=dJ ai;have aY:=dJ aD;have aZ:=dJ aE;have ae:=dJ be;have bQ:=dJ q0;have a4:=dJ q1;have bA:=dJ hB;clear hI bd ah aC ai aD aE be hX q0 q1 hB bm aJ;by_cases hn:n=257
   ·subst hn;go_wp2_with (go_at_call 45;refine CR.out.mono ?_;rintro e K ⟨cw,cx,n6,c6,n8,c8,c9,Aw,Ax,A6,O,A9,z7,rfl,-,-,g6⟩;have H:=dJ (I.trans g6);clear g6 k0 k1 k2 k3 k4 k5);go_ret2;exact⟨.inr (.inl ⟨HV.out,HR.out.trans ae.out.symm,rfl⟩),H.out.alloc _⟩
   ·have ck:(n:Int)<=256:=by omega
    go_wp2_with (first|(go_at_call 45;refine CR.out.mono ?_;rintro e K ⟨cw,cx,n6,c6,n8,c7,c9,Aw,Ax,A6,A7,A9,z7,rfl,⟨Q,d,hD⟩,hw,g6⟩;have CW:=dJ (aS.out Q K (.cells #[.int .i64 X.1.kind,.bool X.1.ret.p,.int .i64 X.1.ret.s,.int .u32 X.1.ret.n,.slice Ax X.1.mem.length cx,.slice Aw X.2.1.widths.length cw,.slice A6 n6 c6,.int .i64 z7,.slice A7 n8 c7,.slice A9 n8 c9] 81) _ g6 d hD);have H:=dJ g6;have a5:=dJ hw;have aR:=dJ hD;have a0:=dJ d.1;clear g6 d hD hw k0 k1 k2 k3 k4 k5)|(go_at_call 53;refine CW.out.mono ?_;rintro e C ⟨v',G,rfl,ho,g8⟩;have a2:=dJ ho;have aw:=dJ g8;clear ho g8 CW))
    obtain⟨N6,aF⟩:=xJ K.heap.size
    have U:Hid (C.heap[N6]?=some (.cells #[.int .i64 X.1.kind,.bool X.1.ret.p,.int .i64 X.1.ret.s,.int .u32 X.1.ret.n,.slice Ax X.1.mem.length cx,.slice Aw X.2.1.widths.length cw,.slice A6 n6 c6,.int .i64 z7,.slice A7 n8 c7,.slice A9 n8 c9] 81 (0,0))):=by show _=_;rw[<-aF];exact(aw.out.heap _ (by simp)).trans (heap_alloc_new _ _)
    rw[aF];obtain⟨ws,bs⟩:=xJ X.2.1.widths;obtain⟨nw,F⟩:=xJ ws.length;have T:Hid (Gr K C):=((wL K).alloc _).trans aw.out;have M:Hid (Own1 wr.heap.size 3 C (.slice Aw X.2.1.widths.length cw) (X.2.1.widths.map (Value.int .i64))):=a5.out.gr T.out;have aB:Hid (Own1 (w.heap.size+2) 35 C (.slice O p.length c8) (p.map (Value.int .u32))):=ax.out.gr (H.out.trans T.out);rw[bs]at U M E;rw[F]at U M;have a6:Hid (ws.length=nw):=F
    have ac:Hid (∀k,D k\/Q k->k<C.heap.size/\(Value.slice O p.length c8).ownBlock≠some k):=fun k d=>by
     have h1:=H.out.size;have h2:=T.out.size;rcases d with q|q
     ·exact⟨by have:=(aX.out k q).1;omega,(aX.out k q).2⟩
     ·refine⟨by have:=a0.out k q;omega,fun e=>?_⟩;have h3:=(dg ax.out e).2.1;have h4:=aR.out k q;omega
    have aA:Hid (∀k,(Value.slice O p.length c8).ownBlock=some k->w.heap.size+2<=k/\k<wr.heap.size/\k≠N6):=fun k d=>by obtain⟨h1,h2,-⟩:=dg ax.out d;exact⟨h1,h2,by have:=H.out.size;omega⟩
    have aT:Hid (FrS (fun k=>w.heap.size+2<=k) w1 C):=hF.out.trans (FrS.of_gr (H.out.trans T.out))
    have L:Hid (∀u,FrS (fun k=>(Value.slice O p.length c8).ownBlock=some k) C u->u.cell? ⟨N6,5,none⟩=some (.slice Aw nw cw)/\Own1 wr.heap.size 3 u (.slice Aw nw cw) (ws.map (Value.int .i64))/\OutsAt (fun k=>D k\/Q k) (w.heap.size+2) u v' (Rn.insert X.1 r) G/\FrS (fun k=>w.heap.size+2<=k) w1 u):=fun u l=>by refine⟨vX _ _ 5 _ _ _ ((l.block _ (cY U.out) (fun e=>(aA.out _ e).2.2 rfl)).trans U.out),dr M.out fun k d=>l.block _ (dg M.out d).2.1 (fun e=>by have:=(aA.out _ e).2.1;have:=(dg M.out d).1;omega),a2.out.frs l (fun k d e=>(ac.out k d).2 e) (fun k d e=>?_),aT.out.trans (l.mono fun k d=>(aA.out k d).1)⟩;exact lh a2.out.own aB.out (by decide) k d e
    have bk:p.length<=nw:=by have:=Y.out.1;rw[E.out,F]at this;exact this
    have b2:nw<=400:=by have:=bQ.out;rw[E.out,F]at this;exact this
    have bN:Hid (Own1 (w.heap.size+2) 35 C (.slice O p.length c8) ((Rn.padded p p.length).map (Value.int .u32))):=by
     have e:Rn.padded p p.length=p:=by unfold Rn.padded;simp
     show Own1 _ _ _ _ _;rw[e];exact aB.out
    have ar:Hid (w.heap.size+2<=C.heap.size):=by show _<=_;have:=bA.out;have:=H.out.size;have:=T.out.size;omega
    clear bs F aF U M aB a5 a0 aR aT aw;go_wp2
    go_loopw [8] (fun s8 u=>∃(t:Nat)(A:Option Addr)(c:Nat),p.length<=t/\t<=nw/\s8=.slice A t c/\Hid (Own1 (w.heap.size+2) 35 u (.slice A t c) ((Rn.padded p t).map (Value.int .u32)))/\Hid (FrS (fun k=>(Value.slice O p.length c8).ownBlock=some k) C u)/\Hid (∀k,(Value.slice A t c).ownBlock=some k->(Value.slice O p.length c8).ownBlock=some k\/C.heap.size<=k)) (fun s8 _=>nw-slLen s8)
    case atStart=>exact⟨p.length,O,c8,vV _,bk,rfl,bN,FrS.refl _ _,fun k d=>.inl d⟩
    case round =>
     obtain⟨t,A,c,bp,cl,rfl,ho,l,aj⟩:=hrel;obtain⟨x5,br,-,-⟩:=L.out wr l.out;by_cases aH:t<nw
     ·have bI:Hid (((Rn.padded p t).map (Value.int .u32)).length=t):=by show _=_;rw[vS,Rn.padded_len bp]
      have al:w.heap.size+2<=wr.heap.size:=by have:=l.out.size;have:=ar.out;omega
      have bO:=dJ (xx bp);clear br
      go_wp2_with (at_builtin;refine lB (n:=t) (v:=.slice A t c) underlying26 bh bu bv b4 rfl (by omega) rfl (.tmp 36) (.tmp 37) rfl bI.out rfl ho.out rfl rfl (by omega) al ?_;intro A2 c2 w2 bi bg ao
                   have bL:Hid (Own1 (w.heap.size+2) 35 w2 (.slice A2 (t+1) c2) ((Rn.padded p (t+1)).map (Value.int .u32))):=by (show Own1 _ _ _ _ _;rw[bO.out];exact bi)
                   have bE:Hid (FrS (fun k=>(Value.slice O p.length c8).ownBlock=some k) C w2):=(l.out.alloc _).grown bg aj.out
                   have aP:Hid (∀k,(Value.slice A2 (t+1) c2).ownBlock=some k->(Value.slice O p.length c8).ownBlock=some k\/C.heap.size<=k):=fun k d=>(ao k d).elim (aj.out k) (fun q=>.inr (by have:=l.out.size;omega))
                   clear bi bg ao)
      exact⟨⟨t+1,A2,c2,by omega,by omega,rfl,bL,bE,aP⟩,by simp[slLen];omega⟩
     ·obtain rfl:t=nw:=by omega
      obtain⟨B,J⟩:=xJ (Rn.padded p t);have aq:B.length=t:=by rw[<-J];exact Rn.padded_len bk
      have am:=a6.out
      have bP:Hid (∀z∈B,0<=z/\z<4294967296):=by have h:=Rn.good_words Y.out a4.out;rw[E.out,am,J]at h;exact h
      have bS:Hid (∀z∈ws,Wd.Wid z):=by have h:=a4.out;rw[E.out]at h;exact h
      have bJ:Hid (∀j,j<t->B.getD j 0<Wd.sz (ws.getD j 0)):=fun j hj=>by
       rw[<-J,Rn.padded_get];rcases wh j p.length with q|q
       ·have:=(Y.out.2 j q).2;rwa [E.out]at this
       ·rw[vA,vP q];exact Wd.sz_pos _
      obtain⟨m,hm⟩:∃m,257-n=m+1:=⟨256-n,by omega⟩
      have bC:Hid (Rn.nextK B ws t=none->R=some (Rn.insert X.1 r)):=by
       have h:=ae.out;rw[hm]at h;have h:=(Rn.explore_round h).1
       rwa [E.out,am,J,HX.out]at h
      have bD:Hid (∀k,Rn.nextK B ws t=some k->Rn.explore f i (257-(n+1)) (Rn.bump B k) (Rn.insert X.1 r)=R/\Rn.Good f i (Rn.bump B k)):=fun k d=>by have h:=ae.out;rw[hm]at h;have h:=(Rn.explore_round h).2 k;have h2:=Rn.good_next Y.out (k:=k);rw[E.out,am,J]at h h2;rw[HX.out]at h;rw[show 257-(n+1)=m by omega];exact⟨h d,(h2 d).1⟩
      have ay:Hid ((Rn.insert X.1 r).length+1<=n+1/\Rn.Asc (Rn.insert X.1 r)/\∀o∈Rn.insert X.1 r,OW o):=⟨by have:=Rn.insert_len X.1 r;omega,Rn.insert_asc _ _ aY.out,fun o ho=>(xd ho).elim (fun e=>e ▸ a7.out) (aZ.out o)⟩;have a3:Hid (Own1 (w.heap.size+2) 35 wr (.slice A t c) (B.map (Value.int .u32))):=by rw[<-J];exact ho.out
      have au:Hid (∀k,D k\/Q k->k<C.heap.size/\(Value.slice A t c).ownBlock≠some k):=fun k d=>⟨(ac.out k d).1,fun e=>(aj.out k e).elim (ac.out k d).2 (fun q=>by have:=(ac.out k d).1;omega)⟩;have af:Hid (B.length=t):=aq;clear br ho aj J aq hm am Y aY aZ ae;go_wp2
      go_loopw [11] (fun aO u=>∃(j:Nat)(z:Int),j<=t/\z+1=j/\aO=.int .i64 z/\Hid (Rn.nextK B ws t=Rn.nextK B ws j)/\Hid (Gr wr u)) (fun aO _=>(intOf aO+1).toNat)
      case atStart=>exact⟨t,(t:Int)-1,vV _,by omega,rfl,rfl,wL _⟩
      case round =>
       obtain⟨j,z,hj,hz,rfl,ak,hg⟩:=hrel;rcases Nat.eq_zero_or_pos j with rfl|bl
       ·obtain rfl:z=-1:=by omega
        have HE:Hid (R=some (Rn.insert X.1 r)):=bC.out (by rw[ak.out];rfl);clear ak;go_wp2;refine dc (by kernel_rfl) (by kernel_rfl) ?_;repeat (go_big_quiet_step (fail))
        refine wpQuiet_nil ?_;intro w9 ab;obtain⟨u9,rfl⟩:=ab;have G9:=dJ (hg.out.trans u9.gr);go_wp2;go_ret2;obtain⟨-,-,o9,f9⟩:=L.out _ (l.out.trans (FrS.of_gr G9.out));exact⟨.inr (.inr ⟨HV.out,_,HR.out.trans HE.out,by have:=ay.out.1;omega,ay.out.2.1,v',_,G,rfl,o9⟩),aW.out _ f9⟩
       ·obtain⟨k,rfl⟩:∃k,j=k+1:=⟨j-1,by omega⟩;obtain rfl:z=(k:Int):=by omega
        clear hz;obtain⟨x,hx⟩:∃x,B[k]?=some x:=⟨_,vu (by have:=af.out;omega)⟩;obtain⟨y,hy⟩:∃y,ws[k]?=some y:=⟨_,vu (by have:=a6.out;omega)⟩;obtain⟨x0,x1⟩:=bP.out x (vz hx);have an:=bS.out y (vz hy);have aM:B.getD k 0=x:=by rw[vA,hx];rfl
        have aN:ws.getD k 0=y:=by rw[vA,hy];rfl
        have ap:=bJ.out k (by omega);rw[aM,aN]at ap;obtain⟨b,cc,ev,q1,q2,q3,q4,q5⟩:=wY (a3.out.gr hg.out) (j:=k) (x:=.int .u32 x) (by rw[vH,hx];rfl);obtain⟨-,bz,-,-⟩:=L.out _ (l.out.trans (FrS.of_gr hg.out));obtain⟨b',b9,bT,-,-,r3,r4,r5⟩:=wY bz (j:=k) (x:=.int .i64 y) (by rw[vH,hy];rfl);injection ev with bU bV ag;clear bV;subst bU;subst ag;injection bT with a9 ba bb;clear ba;subst a9;subst bb;obtain⟨yn,rfl⟩:=vF (show 0<=y by have:=an.1;omega);have co:yn<64:=by have:=an.2;omega
        have aL:=Wd.sz_32 an;have bo:=Wd.sz_pos (yn:Int);have aK:Hid (Rn.nextK B ws (k+1)=if x+1<Wd.sz (yn:Int) then some k else Rn.nextK B ws k):=by show _=_;rw[Rn.nextK,aM,aN]
        have al:Wd.sz (yn:Int)=2 ^ yn:=by unfold Wd.sz;rw[vG]
        rw[al]at aK ap aL bo;have e1:IntKind.i64.wrap x=x:=IntWalk.i64_in _ (by omega);have e2:IntKind.i64.wrap (x+1)=x+1:=IntWalk.i64_in _ (by omega);have e3:IntKind.i64.wrap (2 ^ yn)=2 ^ yn:=IntWalk.i64_in _ (by omega);have b6:=(L.out _ (l.out.trans (FrS.of_gr hg.out))).1;have Y1:=fun u:GrW wr=>(u.gr.cell _ _ q5).trans q3;have Y2:=fun u:GrW wr=>(u.gr.cell _ _ r5).trans r3;have Y3:=fun u:GrW wr=>(L.out _ (l.out.trans (FrS.of_gr (hg.out.trans u.gr)))).1;have ch:k<t:=by omega
        have a8:Hid (B[k]?=some x):=hx;have cg:t<=c:=by rw[vS,af.out]at q1;exact q1
        clear bz hx hy aM aN an al q3 q4 q5 r3 r4 r5 bl b6;by_cases cn:x+1=2 ^ yn
        ·go_wp2;refine dc (by kernel_rfl) (by kernel_rfl) ?_;repeat (go_big_quiet_step (fail))
         refine wpQuiet_nil ?_;intro w9 ab;obtain⟨u9,rfl⟩:=ab;have G9:=dJ (hg.out.trans u9.gr);clear Y1 Y2 Y3;go_wp2;have bK:Hid (Rn.nextK B ws t=Rn.nextK B ws k):=by show _=_;rw[ak.out,aK.out,wb (by omega)]
         exact⟨⟨k,(k:Int)-1,by omega,by omega,by go_num,bK,G9⟩,by simp[intOf]<;>omega⟩
        ·have b5:x+1<2 ^ yn:=by omega
         have HK:Hid (Rn.nextK B ws t=some k):=by show _=_;rw[ak.out,aK.out,wa b5]
         go_wp2;refine dc (by kernel_rfl) (by kernel_rfl) ?_;repeat (go_big_quiet_step (fail))
         refine wpQuiet_nil ?_;intro w9 ab;obtain⟨u9,rfl⟩:=ab;have G9:=dJ (hg.out.trans u9.gr);clear Y1 Y2 Y3;have e4:IntKind.u32.wrap (x+1)=x+1:=Wd.wrap_in _ (by omega) (by omega)
         have bM:Hid (Own1 (w.heap.size+2) 35 u9.val (.slice (some ⟨b,0,none⟩) (k+1) c) ((B.take (k+1)).map (Value.int .u32))):=by
          have:=mT (a3.out.gr G9.out) (k:=k+1) (by rw[vS];have:=af.out;omega)
          rwa [<-List.map_take]at this
         have Z:Hid (((B.take (k+1)).map (Value.int .u32)).length=k+1):=by show _=_;rw[vS,List.length_take];have:=af.out;omega
         have bH:Hid (((B.take (k+1)).map (Value.int .u32))[k]?=some (.int .u32 x)):=by show _=_;rw[vH,vL,wa (by omega),a8.out];rfl
         go_wp2_with (at_builtin;refine xy (ys:=(B.take (k+1)).map (Value.int .u32)) (n:=k+1) underlying26 bh bu bv (by omega) bx rfl (.tmp 66) (.tmp 70) rfl rfl ((bM.out.gr ((wL u9.val).alloc _)).src Z.out) Z.out (by omega) (fun y hy=>by obtain⟨z,-,rfl⟩:=List.mem_map.1 hy;rfl) rfl ?_
                      intro A3 c3 w3 bn g3
                      have av:=dJ (((wL u9.val).alloc (.cells #[] 35)).trans g3)
                      have aI:=bn.own (by rw[Z.out];omega)
                      obtain⟨b3,cd,ag,-,-,z3,z4,z5⟩:=wY aI bH.out
                      rw[Z.out]at ag
                      injection ag with bW bX bY
                      clear bX
                      subst bW;subst bY
                      have a1:=dJ aI
                      clear bn g3 aI)
         have f9:=L.out _ (l.out.trans (FrS.of_gr G9.out));have bc:FrS (·=b3) w3 (w3.setCell ⟨b3,k,none⟩ (.int .u32 (x+1))):=(FrS.refl (·=b3) w3).setCell (p:=⟨b3,k,none⟩) rfl _;obtain⟨b1,-,-⟩:=dg a1.out (k:=b3) rfl;have b7:u9.val.heap.size<=b3:=by simp at b1;omega
         have b8:C.heap.size<=u9.val.heap.size:=by have:=l.out.size;have:=G9.out.size;omega
         have bj:=tC a1.out (j:=k) (by rw[Z.out];omega) (.int .u32 (x+1));rw[xU a8.out]at bj;obtain⟨HE,HG⟩:=bD.out k HK.out;obtain⟨l1,l2,l3⟩:=ay.out;have b0:=(f9.2.2.1.frs (FrS.of_gr (S:=fun _=>False) av.out) (fun _ _ q=>q) (fun _ _ q=>q)).frs bc (fun q N e=>by have:=(au.out q N).1;omega) (fun q N e=>by have:=(dx f9.2.2.1.own q N).2;omega);have bZ:FrS (fun q=>w.heap.size+2<=q) w1 (w3.setCell ⟨b3,k,none⟩ (.int .u32 (x+1))):=f9.2.2.2.trans ((FrS.of_gr av.out).trans (bc.mono fun q N=>by have:=ar.out;omega));have ce:w.heap.size+2<=b3:=by have:=ar.out;omega
         refine⟨⟨n+1,by omega,by omega,by go_num,?_,bZ⟩,by simp[intOf];omega⟩;exact⟨_,G,_,_,b0,bj.base (fun q N=>by have N:some b3=some q:=N;injection N with N;omega),fun q N=>⟨by have:=(au.out q N).1;have:=av.out.size;simp;omega,fun e=>by have e:some b3=some q:=e;injection e with e;have:=(au.out q N).1;omega⟩,HG,l2,l3,l1,HE⟩
 ·go_enter func24, ntmps24
  go_wp2_with (go_at_call 14;refine CV.out.mono ?_;rintro e w1 ⟨rfl,g1⟩;have ad:=dJ g1);go_ret2;exact⟨.inl ⟨by rw[HV.out];exact bq,by rw[HV.out];rfl⟩,aV.out.trans ad.out⟩
end

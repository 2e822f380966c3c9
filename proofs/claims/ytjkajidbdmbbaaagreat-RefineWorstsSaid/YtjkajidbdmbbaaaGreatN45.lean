import Derived.Test.YtjkajidbdmbbaaaGreatN44
set_option linter.unusedSimpArgs false
set_option linter.unusedVariables false
set_option maxRecDepth 100000
set_option maxHeartbeats 16000000
open Go.Proofs.Tryz
namespace Go.Proofs.YtjkajidbdmbbaaaGreat
open Ref Rn Wd Ir Rf
variable {a:Act}{K:Act->World->Prop}{ops:Array Oper}{Q:Exit->Act->World->Prop}{f:Fn}{p picks zs:List Int}{rest:List Oper}{vms xs ys:List Value}{B B' B0 g j k n:Nat}{D S:Nat->Prop}{o:Oper}{e t:TypeId}{u v vf vm vpk vx z:Value}{w:World}
section
open Go.RowKit
theorem ri:((prog).info? 158).map (·.size)=some 16:=by kernel_rfl
theorem tE:((prog).info? 113).map (·.size)=some 10:=by kernel_rfl
theorem jQ:(prog.info? 33).map (fun i=>(i.zero,i.size,i.bytes))=some (some (.slice none 0 0),1,24):=by kernel_rfl
theorem tv (hRA:Gv)(hfn:FnAt w.heap.size w vf f)(hf:VFn f){i:CG}{va:Value}(ha:U32At w.heap.size w va i.args)(hm:TabAt w.heap.size w vm i.mem)(hi:AB f i=0)(hnn:∀a∈i.args,0<=a)
    (hpk:U32At w.heap.size w vpk picks) (hpr:∀z∈picks,0<=z/\z<4294967296) (hpl:picks.length<=1000) :
  Calls prog 86 #[vf,.agg #[va,vm],vpk] w fun e w'=>wT f i picks w.heap.size e w'/\Gr w w':=by
 obtain⟨i0,bO,bX,bY,bZ⟩:=info_parts dK;obtain⟨i1,bP,bU,bV,bW⟩:=info_parts jQ;obtain⟨hv,bM,al,bT,bN⟩:=FC hi;have ao:=hf.val.size
 have ac:An f<=1000:=by
  have e:An f=f.p.length+AX f.b:=by unfold An yZ;rw[yv]
  omega
 have bQ:f.p.length<=An f:=by unfold An yZ;omega
 have a1:f.b.length<=100000:=by have:=ao.2.2.2.1;omega
 obtain⟨vp,vs,vb,rfl,hp,hs,hb⟩:=hfn;have aO:Hid (FnAt w.heap.size w (.agg #[vp,.int .i64 f.ret,vs,vb]) f):=⟨vp,vs,vb,rfl,hp,hs,hb⟩;obtain⟨W0,ax⟩:=xJ (w.alloc (.cells #[vp,.int .i64 f.ret,vs,vb] 36));obtain⟨W1,ay⟩:=xJ (W0.alloc (.cells #[va,vm] 41));obtain⟨W2,aj⟩:=xJ (W1.alloc (.cells #[.int .i64 0,.bool false,.int .i64 0,.int .u32 0,ed,ed,ed,.int .i64 0,ed,ed] 113));obtain⟨W3,az⟩:=xJ (W2.alloc (.cells #[.slice none 0 0,.int .i64 0,.slice none 0 0,.slice none 0 0,.slice none 0 0,.slice none 0 0,.int .i64 0,.bool false,.int .i64 0,.int .u32 0,.slice none 0 0,.slice none 0 0,.slice none 0 0,.int .i64 0,.slice none 0 0,.slice none 0 0] 158));obtain⟨W,hW⟩:=xJ (W3.setRow (w.heap.size+3) (tb vp f.ret vs vb ed vpk ed ed));have s0:W0.heap.size=w.heap.size+1:=by rw[<-ax];simp
 have s1:W1.heap.size=w.heap.size+2:=by rw[<-ay];simp[s0]
 have s2:W2.heap.size=w.heap.size+3:=by rw[<-aj];simp[s1]
 have bd:W3.heap.size=w.heap.size+4:=by rw[<-az];simp[s2]
 have q3:W3.heap[w.heap.size+3]?=some (.cells #[.slice none 0 0,.int .i64 0,.slice none 0 0,.slice none 0 0,.slice none 0 0,.slice none 0 0,.int .i64 0,.bool false,.int .i64 0,.int .u32 0,.slice none 0 0,.slice none 0 0,.slice none 0 0,.int .i64 0,.slice none 0 0,.slice none 0 0] 158 (0,0)):=by rw[<-az,<-s2];exact heap_alloc_new _ _
 have s3:W.heap.size=w.heap.size+4:=by rw[<-hW,jn];exact bd
 have gW:Gr w W0:=by rw[<-ax];exact(yO _).alloc _
 have gA:Gr W0 W1:=by rw[<-ay];exact(yO _).alloc _
 have gB:Gr W1 W2:=by rw[<-aj];exact(yO _).alloc _
 have aY:Gr W2 W3:=by rw[<-az];exact(yO _).alloc _
 have gC:Gr W2 W:=gr_frs' (S:=fun k=>k=w.heap.size+3) aY (by rw[<-hW];exact FrS.setRow (S:=fun k=>k=w.heap.size+3) (FrS.refl _ _) rfl _) (fun k I=>by omega);have q0:W0.heap[w.heap.size]?=some (.cells #[vp,.int .i64 f.ret,vs,vb] 36 (0,0)):=by rw[<-ax];exact heap_alloc_new _ _
 have q1:W1.heap[w.heap.size+1]?=some (.cells #[va,vm] 41 (0,0)):=by rw[<-ay,<-s0];exact heap_alloc_new _ _
 have q2:W2.heap[w.heap.size+2]?=some (.cells #[.int .i64 0,.bool false,.int .i64 0,.int .u32 0,ed,ed,ed,.int .i64 0,ed,ed] 113 (0,0)):=by rw[<-aj,<-s1];exact heap_alloc_new _ _
 have aW:Hid (WS (w.heap.size+3) W W (tb vp f.ret vs vb ed vpk ed ed)):=⟨FrS.refl _ _,by rw[<-hW];exact ez q3⟩;have X:=(((gB.trans gC)).heap _ (by omega)).trans ((gA.heap _ (by omega)).trans q0);have r1:=((gB.trans gC).heap _ (by omega)).trans q1;have r2:=(gC.heap _ (by omega)).trans q2
 have ap:Hid (∀(wr:World)(row:Array Value),WS (w.heap.size+3) W wr row->wr.heap[w.heap.size]?=some (.cells #[vp,.int .i64 f.ret,vs,vb] 36 (0,0))/\wr.heap[w.heap.size+1]?=some (.cells #[va,vm] 41 (0,0)) /\
     wr.heap[w.heap.size+2]?=some (.cells #[.int .i64 0,.bool false,.int .i64 0,.int .u32 0,ed,ed,ed,.int .i64 0,ed,ed] 113 (0,0))/\Gr w wr):=fun wr row h =>
  ⟨(h.fr.block _ (by omega) (by omega)).trans X,(h.fr.block _ (by omega) (by omega)).trans r1,(h.fr.block _ (by omega) (by omega)).trans r2,gr_frs' (((gW.trans gA).trans gB).trans gC) h.fr (fun k I=>by omega)⟩
 have aP:Hid (∀(k:Nat)(l:List Int),i.mem[k]?=some l->1<=l.length/\l.length<=8):=fun k l hl=>by have h1:=congrArg (fun q=>q[k]?) al;simp only[yc,hl,Option.map_some]at h1;have h2:=ym.1 hf.val.head.2 _ (xT h1.symm);unfold BH at h2;simp at h2;omega
 have bx:Hid (∀(k:Nat)(l:List Int),i.mem[k]?=some l->∃bm om vl,vm=.slice (some ⟨bm,om,none⟩) i.mem.length (match vm with|.slice _ _ c=>c|_=>0)/\IntsAt w.heap.size w vl l/\∀wr,Gr w wr->wr.cell? ⟨bm,om+k,none⟩=some vl):=fun k l hl=>by obtain⟨A,c,rfl,-,-,h3⟩:=hm;obtain⟨b,o,rfl,hb,h4⟩:=h3 (by have:=(xS.1 hl).1;omega);obtain⟨u,hu,h5⟩:=h4 k l hl;exact⟨b,o,u,rfl,h5,fun wr g=>(g.cell _ _ (by omega)).trans hu⟩
 have aQ:Hid (i.mem.map (fun r=>(r.length:Int))=f.s):=al
 have bB:Hid (i.mem.length<=1000):=by show _<=_;have h1:=congrArg List.length al;rw[yl]at h1;omega
 have bl:Hid (i.args.length<=An f):=by show _<=_;omega
 have bk:Hid (∀k x,i.args[k]?=some x->∃b o,va=.slice (some ⟨b,o,none⟩) i.args.length (match va with|.slice _ _ c=>c|_=>0)/\∀wr,Gr w wr->wr.cell? ⟨b,o+k,none⟩=some (.int .u32 x)):=fun k x hx=>by obtain⟨A,c,rfl,-,-,h3⟩:=ha;obtain⟨b,o,rfl,hb,h4⟩:=h3 (by have:=(xS.1 hx).1;omega);exact⟨b,o,rfl,fun wr g=>(g.cell _ _ (by omega)).trans (h4 k x hx)⟩
 have HF:=dJ hf;have HI:=dJ hi;have bC:=dJ hnn;have bD:=dJ hpk;have bE:=dJ hpr;have B:=dJ s3;have aS:=dJ hRA;obtain⟨k0,k1,k2,k3⟩:W0.cell? ⟨w.heap.size,0,none⟩=some vp/\W0.cell? ⟨w.heap.size,1,none⟩=some (.int .i64 f.ret)/\W0.cell? ⟨w.heap.size,2,none⟩=some vs/\W0.cell? ⟨w.heap.size,3,none⟩=some vb:=⟨yo _ _ 0 _ _ _ q0,yo _ _ 1 _ _ _ q0,yo _ _ 2 _ _ _ q0,yo _ _ 3 _ _ _ q0⟩;have ah:=(gB.heap _ (by omega)).trans ((gA.heap _ (by omega)).trans q0);obtain⟨l0,l1,l2,l3⟩:W2.cell? ⟨w.heap.size,0,none⟩=some vp/\W2.cell? ⟨w.heap.size,1,none⟩=some (.int .i64 f.ret)/\W2.cell? ⟨w.heap.size,2,none⟩=some vs/\W2.cell? ⟨w.heap.size,3,none⟩=some vb:=⟨yo _ _ 0 _ _ _ ah,yo _ _ 1 _ _ _ ah,yo _ _ 2 _ _ _ ah,yo _ _ 3 _ _ _ ah⟩;obtain⟨Ap,cp,rfl,-⟩:=hp;obtain⟨As,cs,rfl,-⟩:=hs;obtain⟨Ab,cb,rfl,-⟩:=hb;obtain⟨Ak,ck,rfl,-⟩:=id hpk;obtain⟨Aa,ca,rfl,-⟩:=ha;obtain⟨Am,cm,rfl,-⟩:=hm;unfold tb ed at hW;unfold ed at aj;clear hi hv bT bN ao bM al bQ hf hnn hpk hpr hRA q0 q1 q2 ah X r1 r2 gW gA gB gC;have bF:=dJ q3;clear q3 aY bd
 go_enter func86, ntmps86
 go_wp2_with (refine wpList_store_row rfl 158 (.tmp 7) (.tmp 16) rfl (w.heap.size+3) #[.slice Ap f.p.length cp,.int .i64 f.ret,.slice As f.s.length cs,.slice Ab f.b.length cb,.slice none 0 0,.slice Ak picks.length ck,.int .i64 0,.bool false,.int .i64 0,.int .u32 0,.slice none 0 0,.slice none 0 0,.slice none 0 0,.int .i64 0,.slice none 0 0,.slice none 0 0] rfl rfl 158 #[.slice none 0 0,.int .i64 0,.slice none 0 0,.slice none 0 0,.slice none 0 0,.slice none 0 0,.int .i64 0,.bool false,.int .i64 0,.int .u32 0,.slice none 0 0,.slice none 0 0,.slice none 0 0,.int .i64 0,.slice none 0 0,.slice none 0 0] bF.out (by rw[ri];rfl) rfl (by simp[Value.oneCell']) ?_;rw[hW])
 go_loopw [8] (fun s8 wr=>∃(k:Nat)(us:List (Nat × Nat))(A8:Option Addr)(c8:Nat),k<=i.mem.length/\s8=.int .i64 (k:Int)/\us.length=k /\
     Hid (WS (w.heap.size+3) W wr (tb (.slice Ap f.p.length cp) f.ret (.slice As f.s.length cs) (.slice Ab f.b.length cb) (.slice A8 k c8) (.slice Ak picks.length ck) ed ed)) /\
     Hid (MU (w.heap.size+1) wr us i.mem ed)/\Hid (Own1 (w.heap.size+4) 33 wr (.slice A8 k c8) (usV us i.mem))) (fun s8 _=>i.mem.length-(intOf s8).toNat)
 case atStart=>exact⟨0,[],none,0,yI _,rfl,rfl,aW,MU.nil _ _ _ _,Own1.nil _ _ _⟩
 case round =>
  obtain⟨k,us,A8,c8,I,rfl,U,J,am,F⟩:=hrel;have bS:=B.out;obtain⟨X,r1,r2,gw⟩:=ap.out _ _ J.out;have x1:wr.cell? ⟨w.heap.size+1,1,none⟩=some (.slice Am i.mem.length cm):=yo _ _ 1 _ _ _ r1;by_cases O:k<i.mem.length
  ·obtain⟨l,hl⟩:∃l,i.mem[k]?=some l:=⟨_,xR O⟩;obtain⟨bm,om,vl,aG,aF,a3⟩:=bx.out k l hl;injection aG with aG _ _;subst aG;obtain⟨l1,l2⟩:=aP.out k l hl;obtain⟨Al,cl,rfl,-⟩:=id aF
   have HC:Hid (∀j,Gr wr j->j.cell? ⟨w.heap.size+3,4,none⟩=some (.slice A8 k c8)/\j.cell? ⟨w.heap.size+1,1,none⟩=some (.slice (some ⟨bm,om,none⟩) i.mem.length cm)/\j.cell? ⟨bm,om+k,none⟩=some (.slice Al l.length cl)/\j.frozen? ⟨w.heap.size+3,4,none⟩=false /\
       IntsAt w.heap.size j (.slice Al l.length cl) l/\Own1 (w.heap.size+4) 33 j (.slice A8 k c8) (usV us i.mem)/\w.heap.size+4<=j.heap.size):=fun j D=>by
    have aH:=J.out.grow D (by omega);exact⟨yo _ _ 4 _ _ _ aH.st,yo _ _ 1 _ _ _ (ap.out _ _ aH).2.1,a3 j (gw.trans D),yp _ _ 4 _ _ aH.st,aF.below (gw.trans D),F.out.gr D,by have:=J.out.fr.size;have:=D.size;omega⟩
   have aN:Hid (∀(j w2:World)(be:Obj)(b H:Nat)(A2:Option Addr)(c2:Nat),Gr wr j->wi j wr.heap.size b H l->(j.alloc be).grownBy w2 (Value.slice A8 k c8).ownBlock->Own1 (w.heap.size+4) 33 w2 (.slice A2 (k+1) c2) (usV us i.mem++[.slice (some ⟨b,0,none⟩) l.length H])->_):=fun j w2 be b H A2 c2 D hb hg an=>we B.out J.out am.out F.out U hl D hb hg an;have bJ:Hid ((usV us i.mem).length=k):=by show _=_;rw[ie _ _ (by omega),U]
   have Z:Hid (∀u:Nat × Nat,(us++[u]).length=k+1):=fun u=>by simp[U]
   have bi:k<1000000:=by have h3:i.mem.length<=1000:=bB.out;omega
   have mixed:(prog).follows .mixedOrders=true:=by kernel_rfl
   obtain⟨x4,-,xl,z4,-⟩:=HC.out wr (yO _);have Q4:=fun o=>(HC.out (wr.alloc o) ((yO wr).alloc o)).1;have Q1:=fun o=>(HC.out (wr.alloc o) ((yO wr).alloc o)).2.1;have Ql:=fun o=>(HC.out (wr.alloc o) ((yO wr).alloc o)).2.2.1;clear hl U J am F aF a3 X r1 r2;go_wp2
   go_region_law_o (first|(refine sG (C:=w.heap.size) (ys:=l) underlying33 bO bX bY bZ rfl rfl (.tmp 26) (.tmp 31) rfl rfl (HC.out _ ((yO wr).alloc _).drew).2.2.2.2.1 rfl (by omega) ?_;intro b H j aD D;have G1:Hid (Gr wr j):=(((yO wr).alloc _).drew).trans D;have bI:Hid (wi j wr.heap.size b H l):=⟨Nat.le_trans (by simp) aD.1,aD.2⟩;have av:=dJ (HC.out j G1.out);have ch:=av.out.1;have b8:=fun o=>(HC.out (j.alloc o) (G1.out.alloc o)).1;clear aD D)|(refine fg (n:=k) (v:=.slice A8 k c8) underlying25 bP bU bV bW rfl (by omega) rfl (.tmp 25) (.tmp 33) rfl bJ.out rfl av.out.2.2.2.2.2.1 rfl rfl (by omega) av.out.2.2.2.2.2.2 ?_;intro A2 c2 w2 an a7 a0;have ar:=dJ (aN.out j w2 _ b H A2 c2 G1.out bI.out a7 an);have ci:=ar.out.1.1;have cj:=ar.out.1.2;clear an a7 a0))
   all_goals go_wp2
   all_goals
    obtain⟨-,j1,j2,j3⟩:=ar.out;exact⟨⟨k+1,us++[(b,H)],A2,c2,by omega,by go_num,Z.out _,j1,j2,j3⟩,by simp[intOf];omega⟩
  ·obtain rfl:k=i.mem.length:=by omega
   obtain⟨n,hn⟩:=xJ (An f);have ai:=dJ hn;have CN:=dJ (fK (.agg #[.slice Ap f.p.length cp,.int .i64 f.ret,.slice As f.s.length cs,.slice Ab f.b.length cb]) f f.b.length wr ((aO.out.below gw).mono gw.size) (yJ _) a1);rw[show yZ f f.b.length=n from hn]at CN;rw[hn]at ac;have ce:=fun T=>fp T n ac;have cd:=fun T=>nU T n ac;have bH:Hid (Array.replicate n (Value.bool false)=((List.replicate n false).map Value.bool).toArray):=by (show _=_);simp
   have f0:wr.cell? ⟨w.heap.size,0,none⟩=some (.slice Ap f.p.length cp):=yo _ _ 0 _ _ _ X;have f1:wr.cell? ⟨w.heap.size,1,none⟩=some (.int .i64 f.ret):=yo _ _ 1 _ _ _ X;have f2:wr.cell? ⟨w.heap.size,2,none⟩=some (.slice As f.s.length cs):=yo _ _ 2 _ _ _ X;have f3:wr.cell? ⟨w.heap.size,3,none⟩=some (.slice Ab f.b.length cb):=yo _ _ 3 _ _ _ X
   have bA:Hid (∀j,Gr wr j->j.heap[w.heap.size+3]?=some (.cells (tb (.slice Ap f.p.length cp) f.ret (.slice As f.s.length cs) (.slice Ab f.b.length cb) (.slice A8 i.mem.length c8) (.slice Ak picks.length ck) ed ed) 158 (0,0))/\w.heap.size+3<j.heap.size /\
       WM w.heap.size n W ((((j.setCell ⟨w.heap.size+3,14,none⟩ (.slice (some ⟨j.heap.size,0,none⟩) n n)).setCell ⟨w.heap.size+3,15,none⟩ (.slice (some ⟨j.heap.size+1,0,none⟩) n n)).alloc (.cells (dB (List.replicate n Rn.zero)).toArray 24)).alloc (.cells ((List.replicate n false).map Value.bool).toArray 4)) (.slice Ap f.p.length cp) f.ret (.slice As f.s.length cs) (.slice Ab f.b.length cb) (.slice A8 i.mem.length c8) (.slice Ak picks.length ck) us i.mem j.heap.size (j.heap.size+1) (eq Rn.zero (i.args.map Ae) n 0) (eq false (i.args.map fun _=>true) n 0)):=fun j D=>by
    have h1:=J.out.grow D (by omega);refine⟨h1.st,cY h1.st,?_⟩;rw[fM,fM];exact wb B.out h1 (am.out.keep (by omega) (FrS.of_gr (S:=fun _=>False) D) (fun _ _ q=>q)) (F.out.gr D) (by omega) _ _
   have Z:Hid (us.length=i.mem.length):=U;clear hn O I J am F U X r1 r2;go_wp2_with (go_at_call 128;refine CN.out.mono ?_;rintro e j ⟨rfl,D⟩;obtain⟨m1,m2,m3⟩:=bA.out j D;have bs:=dJ m3;obtain⟨bg,bh⟩:=crw2 m1 14 15;obtain⟨cn,cq⟩:=frw2 m1 14 15;clear D m1 m3 f0 f1 f2 f3)
   go_loopw [10] (fun aJ wr=>∃k Bv Bh:Nat,k<=i.args.length/\aJ=.int .i64 (k:Int)/\Hid (WM w.heap.size n W wr (.slice Ap f.p.length cp) f.ret (.slice As f.s.length cs) (.slice Ab f.b.length cb) (.slice A8 i.mem.length c8) (.slice Ak picks.length ck) us i.mem Bv Bh (eq Rn.zero (i.args.map Ae) n k) (eq false (i.args.map fun _=>true) n k))) (fun aJ _=>i.args.length-(intOf aJ).toNat)
   case atStart =>
    (try rw[bH.out]);exact⟨0,j.heap.size,j.heap.size+1,yI _,rfl,bs⟩
   case round =>
    obtain⟨k,Bv,Bh,I,rfl,d⟩:=hrel;obtain⟨X,r1,r2,gw⟩:=ap.out _ _ d.out.ws;have x0:wr.cell? ⟨w.heap.size+1,0,none⟩=some (.slice Aa i.args.length ca):=yo _ _ 0 _ _ _ r1;have aZ:i.args.length<=n:=by have:=bl.out;have:=ai.out;omega
    by_cases O:k<i.args.length
    ·obtain⟨x,hx⟩:∃x,i.args[k]?=some x:=⟨_,xR O⟩;obtain⟨ba,oa,aE,a2⟩:=bk.out k x hx;injection aE with aE _ _;subst aE;have xa:=a2 wr gw;have b9:wr.cell? ⟨w.heap.size+3,14,none⟩=some (.slice (some ⟨Bv,0,none⟩) n n):=yo _ _ 14 _ _ _ d.out.ws.st;have cc:wr.cell? ⟨w.heap.size+3,15,none⟩=some (.slice (some ⟨Bh,0,none⟩) n n):=yo _ _ 15 _ _ _ d.out.ws.st;have a8:k<n:=by omega
     obtain⟨y,hy⟩:∃y,(eq Rn.zero (i.args.map Ae) n k)[k]?=some y:=⟨_,xR (by rw[fD _ _ _ _ (by simp;omega) (by simp;omega)];exact a8)⟩;obtain⟨z,hz⟩:∃z,(eq false (i.args.map fun _=>true) n k)[k]?=some z:=⟨_,xR (by rw[fD _ _ _ _ (by simp;omega) (by simp;omega)];exact a8)⟩;obtain⟨aK,aL,aM⟩:=dX _ _ _ hy;rw[Nat.mul_comm]at aK aL aM;have d0:wr.cell? ⟨Bv,k*3,none⟩=some (.bool y.p):=(yo _ _ _ _ _ _ d.out.hv).trans (by simpa using aK);have d1:wr.cell? ⟨Bv,k*3+1,none⟩=some (.int .i64 y.s):=(yo _ _ _ _ _ _ d.out.hv).trans (by simpa using aL);have d2:wr.cell? ⟨Bv,k*3+2,none⟩=some (.int .u32 y.n):=(yo _ _ _ _ _ _ d.out.hv).trans (by simpa using aM);have e0:wr.cell? ⟨Bh,k,none⟩=some (.bool z):=(yo _ _ _ _ _ _ d.out.hh).trans (by simp[hz]);have f0:wr.frozen? ⟨Bv,k*3,none⟩=false:=yp _ _ _ _ _ d.out.hv;have f1:wr.frozen? ⟨Bv,k*3+1,none⟩=false:=yp _ _ _ _ _ d.out.hv;have f2:wr.frozen? ⟨Bv,k*3+2,none⟩=false:=yp _ _ _ _ _ d.out.hv;have f3:wr.frozen? ⟨Bh,k,none⟩=false:=yp _ _ _ _ _ d.out.hh;have n0:Bv≠Bh:=de d.out.hv d.out.hh (by decide);have n1:w.heap.size+3≠Bv:=by have:=d.out.vN;omega
     have n2:w.heap.size+3≠Bh:=by have:=d.out.hN;omega
     have af:us.length<=i.mem.length:=by have:=Z.out;omega
     have h9:=uJ (k:=k) B.out (d.out.grow B.out af ((yO wr).drew)) af x;have h8:=(uJ (k:=k) B.out d.out af x).grow B.out af ((yO _).drew);rw[fL Rn.zero (i.args.map Ae) n k (by simp;omega) (Ae x) (by rw[yc,hx];rfl),fL false (i.args.map fun _=>true) n k (by simp;omega) true (by rw[yc,hx];rfl)]at h9 h8;have H9:=dJ h9;have H8:=dJ h8;clear hx hy hz aK aL aM h9 h8 d af X r1 r2 gw a2;go_wp2
     go_region_with (fail)
     all_goals go_wp2
     all_goals first
      | exact⟨⟨k+1,Bv,Bh,by omega,by go_num,H9⟩,by simp[intOf];omega⟩
      | exact⟨⟨k+1,Bv,Bh,by omega,by go_num,H8⟩,by simp[intOf];omega⟩
    ·obtain rfl:k=i.args.length:=by omega
     have ag:=d.out
     rw[show eq Rn.zero (i.args.map Ae) n i.args.length=(BN f i).v by unfold eq BN;rw[ai.out,yh (by simp)],
       show eq false (i.args.map fun _=>true) n i.args.length=(BN f i).had by unfold eq BN;rw[ai.out,yh (by simp)],<-Z.out]at ag
     obtain⟨c,e1,e2,e3,a6,a5,bb,Q⟩:=xd B.out ag Z.out (by unfold BN;have:=ai.out;simp;omega) aQ.out (aO.out.below gw) (U32At.frsD bD.out gw);obtain⟨l,hl,he⟩:=JH aS.out HI.out bC.out;subst e2;obtain⟨R,hR⟩:=xJ (DC c.f (zo picks) i);obtain⟨Wd,bL⟩:∃Wd,Wd=wr:=⟨_,rfl⟩;subst bL;have bG:Hid (ip [] (C5 c.f (zo picks) 401 0 (-1) (BN c.f i))=R):=by show _=_;rw[<-hR];rfl
     have HR:=dJ hR;have bn:Hid (DLeft c picks Wd ed ed (BN c.f i) [] ⟨0,Rn.zero,[]⟩ ed Wd):=a6.left (FrS.refl _ _);have HL:=dJ hl;have HE:=dJ he;have aq:=dJ (And.intro a5 (And.intro bb Q));have au:=dJ e3;have bo:=dJ e1;have br:=dJ gw;have bK:Hid (Jr (BN c.f i)):=⟨yI _,fun z hz=>by cases hz⟩;have Y:=dJ r2;clear d ag a6 a5 bb Q hl he hR e1 e3 X r1 r2 gw aZ O I;go_wp2
     go_loopg [11,12] 401 (fun kx b0 b1 wr=>∃bz fz:Int,b1=.int .i64 bz/\b0=.int .i64 fz/\((∃(G:Nat)(sq:AN)(T:List Int)(lq:List Ins),bz=(G:Int)/\Hid (DLeft c picks Wd ed ed sq T ⟨0,Rn.zero,[]⟩ ed wr)/\Hid (c.f.b[G]?=some lq)/\Hid (JO c.f G fz lq sq)/\sq.t<=400/\Hid (Jr sq)/\401<=sq.t+kx/\T.length+kx<=401/\Hid (ip T (C5 c.f (zo picks) kx G fz sq)=R)) \/
         (bz=-1/\Hid (DLeft c picks Wd ed ed R.2.1 R.2.2 R.1 (rD c R.1) wr))))
     case atStart=>exact⟨0,-1,rfl,rfl,.inl ⟨0,BN c.f i,[],l,rfl,bn,HL,HE,yI _,bK,by omega,by simp,bG⟩⟩
     case round =>
      obtain⟨bz,fz,rfl,rfl,⟨G,sq,T,lq,rfl,ad,aA,ae,bc,aI,b6,hT,L⟩|⟨rfl,ad⟩⟩:=hrel
      ·obtain⟨k,rfl⟩:∃k,gk=k+1:=⟨gk-1,by omega⟩;obtain⟨bf,aX,p1,F1,O1⟩:=ad.out;have CB:=oO p1 HF.out (by have:=aq.out.2.2;have:=F1.size;omega) bE.out hpl (by omega) aA.out ae.out bc aI.out;rw[au.out]at CB;have bj:=dJ CB;have ab:=Kq aS.out HF.out.val HF.out.im (Jj picks) ae.out aA.out;have E:=Ja c.f (zo picks) G fz sq bc;have K:=Ld HF.out.val HF.out.im (zo picks) G fz aI.out;have aU:=dJ fun(s':AN)(bl':List Int)(o':zO)(om':Value)(w':World)(h:DLeft c picks wr bf aX s' bl' o' om' w')=>dR F1 O1 h;have cf:(0:Int)<=(G:Int):=by omega
       clear CB p1 F1 O1 ad aI ae aA;go_wp2_with (fail)
       go_at_call 129
       (with_reducible refine bj.out.mono ?_);intro e w5 aa
       cases hq:Rn.block c.f (zo picks) G fz sq with
       | mk r s2 =>
        rw[hq]at ab E K aa;have aV:=dJ K
        cases r with
        | over o =>
         have aw:Hid (R=(o,s2,T++[(G:Int)])):=by (show _=_);rw[<-L.out,lC hq];rfl
         obtain⟨rfl,hd⟩:=aa
         have HD:Hid (DLeft c picks Wd ed ed R.2.1 R.2.2 R.1 (rD c R.1) w5):=by rw[aw.out];exact aU.out _ _ _ _ _ hd
         clear hd hq ab E K L;go_wp2
         go_roundg k
         case measure=>omega
         case rel=>exact⟨-1,G,rfl,rfl,.inr ⟨rfl,HD⟩⟩
        | run t =>
         obtain⟨rfl,hd⟩:=aa;obtain⟨m,a9,Q,aB⟩:=ab;obtain⟨tn,rfl⟩:=xZ a9;rw[ya]at Q aB;have bu:=dJ Q;have bv:=dJ aB
         have aw:Hid (ip (T++[(G:Int)]) (C5 c.f (zo picks) k tn G s2)=R):=by (show _=_);rw[<-L.out,nO hq];unfold ip;simp
         have HD:=dJ (aU.out _ _ _ _ _ hd);have bR:s2.t<=400:=E.1;have bS:sq.t+1<=s2.t:=E.2.2 _ rfl;clear hd hq E K L a9 Q aB;go_wp2
         go_roundg k
         case measure=>omega
         case rel=>exact⟨tn,G,rfl,rfl,.inl ⟨tn,s2,T++[(G:Int)],m,rfl,HD,bu,bv,bR,aV,by omega,by rw[yK,List.length_singleton];omega,aw⟩⟩
      ·obtain⟨bf,aX,p1,F1,O1⟩:=ad.out;obtain⟨Aw,cw,rfl⟩:=p1.wid.form;obtain⟨M,N,rfl⟩:=p1.blk.form;simp only[yl]at p1 O1
       obtain⟨Ao,no,co,aC⟩:∃A n c',rD c R.1=.slice A n c':=by unfold rD ed Cfg.mv;split<;>exact⟨_,_,_,rfl⟩
       have hp:=p1.st;unfold uU at hp;rw[au.out,aC]at hp;have aT:Hid (wr.heap[w.heap.size+2]?=some (.cells #[.int .i64 0,.bool false,.int .i64 0,.int .u32 0,.slice none 0 0,.slice none 0 0,.slice none 0 0,.int .i64 0,.slice none 0 0,.slice none 0 0] 113 (0,0))):=(F1.block _ (by have:=au.out;have:=cY Y.out;omega) (fun q=>by have:=aq.out.1 _ q;omega)).trans Y.out;have HP:=dJ p1;have bp:=dJ (And.intro F1 O1);have aR:=dJ aC;obtain⟨⟨ok,⟨op,os,on⟩,b7⟩,S,BL⟩:=R;dsimp only at hp HP aR;obtain⟨y6,y7,y8,y9,b2,b3⟩:=crw6 hp 6 7 8 9 10 11;obtain⟨b4,b5,bg,bh⟩:=crw4 hp 12 13 14 15;clear p1 F1 O1 aC hp ad;go_wp2_with (refine wpList_store_row rfl 113 (.tmp 6) (.tmp 80) rfl (w.heap.size+2) #[.int .i64 ok,.bool op,.int .i64 os,.int .u32 on,.slice Ao no co,.slice Aw S.z.length cw,.slice M BL.length N,.int .i64 S.t,.slice (some ⟨c.Bv,0,none⟩) S.v.length S.v.length,.slice (some ⟨c.Bh,0,none⟩) S.v.length S.v.length] rfl rfl 113 #[.int .i64 0,.bool false,.int .i64 0,.int .u32 0,.slice none 0 0,.slice none 0 0,.slice none 0 0,.int .i64 0,.slice none 0 0,.slice none 0 0] aT.out (by rw[tE];rfl) rfl (by simp[Value.oneCell']) ?_);obtain⟨W9,ak⟩:=xJ (wr.setRow (w.heap.size+2) #[.int .i64 ok,.bool op,.int .i64 os,.int .u32 on,.slice Ao no co,.slice Aw S.z.length cw,.slice M BL.length N,.int .i64 S.t,.slice (some ⟨c.Bv,0,none⟩) S.v.length S.v.length,.slice (some ⟨c.Bh,0,none⟩) S.v.length S.v.length]);rw[ak];have h9:W9.heap[w.heap.size+2]?=some (.cells #[.int .i64 ok,.bool op,.int .i64 os,.int .u32 on,.slice Ao no co,.slice Aw S.z.length cw,.slice M BL.length N,.int .i64 S.t,.slice (some ⟨c.Bv,0,none⟩) S.v.length S.v.length,.slice (some ⟨c.Bh,0,none⟩) S.v.length S.v.length] 113 (0,0)):=by rw[<-ak];exact ez aT.out
       have F9:FrS (·=w.heap.size+2) wr W9:=by rw[<-ak];exact FrS.setRow (S:=fun k=>k=w.heap.size+2) (FrS.refl _ _) rfl _
       obtain⟨q0,q1,q2,q3,q4,q5⟩:=crw6 h9 0 1 2 3 4 5;obtain⟨q6,q7,q8,q9⟩:=crw4 h9 6 7 8 9;refine yq (v:=.agg #[.int .i64 ok,.bool op,.int .i64 os,.int .u32 on,.slice Ao no co,.slice Aw S.z.length cw,.slice M BL.length N,.int .i64 S.t,.slice (some ⟨c.Bv,0,none⟩) S.v.length S.v.length,.slice (some ⟨c.Bh,0,none⟩) S.v.length S.v.length]) (by simp[results,results86,go_sem,q0,q1,q2,q3,q4,q5,q6,q7,q8,q9]) rfl ?_;clear ak h9 q0 q1 q2 q3 q4 q5 q6 q7 q8 q9 y6 y7 y8 y9 b2 b3 b4 b5 bg bh;obtain⟨d1,d2,d3⟩:=aq.out;obtain⟨F1,O1⟩:=bp.out;have e1:=bo.out;have cg:=F1.size;have O:=cY Y.out
       have a4:∀k,DO c (.slice Aw S.z.length cw) (.slice M BL.length N) k->w.heap.size+3<=k:=fun k I=>by
        rcases O1 k I with q|q
        ·exact d1 k q
        ·have:=d2;have:=d3;omega
       refine⟨⟨c,.slice Aw S.z.length cw,.slice M BL.length N,?_,rfl,?_,fun k I=>by have:=a4 k I;omega,by omega,by have:=F9.size;omega⟩,?_⟩
       ·rw[HR.out];unfold rA;rw[aR.out]
       ·rw[HR.out];exact HP.out.away F9 (fun k I=>⟨by omega,fun q=>by have:=a4 k q;omega,by omega⟩)
       ·exact gr_frs' (S:=fun k=>w.heap.size<=k) br.out ((F1.mono fun k I=>by have:=d1 k I;omega).trans (F9.mono fun k I=>by omega)) (fun k I=>I)
theorem mA {outs:List zO}(h:OutsAt D B w v outs vms)(hn:outs.length<=1000)(ha:Gn outs){x:zO}(hx:Keeps D w vx x.mem) :
  Calls prog 81 #[v,eW x vx,.func (.func 82) #[] #[]] w (RG (.tuple #[.int .i64 (EG x outs:Nat),.bool (decide (outs[EG x outs]?=some x))]) w):=by
 obtain⟨K,I⟩:=xJ (EG x outs);have L:K<=outs.length:=by rw[<-I];exact JQ x outs
 have ad:Hid (∀j y,outs[j]?=some y->(BJ y x<0↔j<K)):=fun j y H=>by rw[<-I];exact I9 x outs ha j y H
 obtain⟨F,hF⟩:∃F,decide (outs[K]?=some x)=F:=⟨_,rfl⟩;have Z:=dJ hF;obtain⟨W,hW⟩:=xJ (fO w x vx);have g1:Gr w W:=by rw[<-hW];exact(yO w).alloc _
 have r:Hid (∀wr,Gr W wr->∀u:GrW wr,_):=fun wr g u=>dz (w:=w) (o:=x) (vm:=vx) (w':=u.val) (by rw[hW];exact g.trans u.gr);obtain⟨A,c,hv,hc,hA,ae⟩:=dE h.own;subst hv
 have Y:Hid (∀wr,Gr W wr->∀j y,outs[j]?=some y->∃b vy,A=some ⟨b,0,none⟩/\(∃X cy,vy=.slice X y.mem.length cy)/\(∀u:GrW wr,u.val.cell? ⟨b,j*5,none⟩=some (.int .i64 y.kind)/\u.val.cell? ⟨b,j*5+1,none⟩=some (.bool y.ret.p)/\u.val.cell? ⟨b,j*5+2,none⟩=some (.int .i64 y.ret.s)/\u.val.cell? ⟨b,j*5+3,none⟩=some (.int .u32 y.ret.n)/\u.val.cell? ⟨b,j*5+4,none⟩=some vy) /\
     ∀u:GrW wr,Calls prog 82 #[eW y vy,eW x vx] u.val (RG (.int .i64 (BJ y x)) u.val)):=fun wr g j y H=>by
  have hj:=(xS.1 H).1;obtain⟨b,e,af,-,Q⟩:=dx h.own rfl (by omega);obtain⟨vy,ac⟩:∃vy,vms[j]?=some vy:=⟨_,xR (by rw[h.len];exact hj)⟩;have hk:=h.at_ j y vy H ac;refine⟨b,vy,e,?_,fun u=>?_,fun u=>?_⟩
  ·obtain⟨-,⟨X,cy,e2⟩,-⟩:=hk;exact⟨X,cy,e2⟩
  ·have gg:Gr w u.val:=(g1.trans g).trans u.gr;have q:=fun t (ht:t<5)=>(gg.cell b (j*5+t) af).trans ((Q (j*5+t) (by omega)).trans (gD outs vms j t y vy H ac ht));exact⟨q 0 (by decide),q 1 (by decide),q 2 (by decide),q 3 (by decide),q 4 (by decide)⟩
  ·have gg:Gr w u.val:=(g1.trans g).trans u.gr;exact mC (hk.gr gg).tab (hx.gr gg).tab (yJ _)
 have aa:=dJ g1;obtain⟨-,⟨Ax,cx,rfl⟩,-⟩:=hx;obtain⟨n,J⟩:=xJ outs.length;have HN:=dJ J;rw[J]at hn L hc;rw[I,hF,J];clear h ha I hF g1 J hA ae;unfold fO at hW;unfold eW at *
 go_enter func81, ntmps81
 go_wp2
 go_loopw [9,10] (fun s9 S wr=>∃C z:Nat,s9=.int .i64 (C:Int)/\S=.int .i64 (z:Int)/\C<=K/\K<=z/\z<=n/\Hid (Gr W wr)) (fun s9 S _=>(intOf S).toNat-(intOf s9).toNat)
 case atStart=>exact⟨0,n,rfl,rfl,yI _,L,yJ _,yO _⟩
 case round =>
  obtain⟨C,z,rfl,rfl,h1,h2,h3,E⟩:=hrel;by_cases aj:C<z
  ·obtain⟨y,H⟩:∃y,outs[(C+z) / 2]?=some y:=⟨_,xR (by have:=HN.out;omega)⟩;obtain⟨b,vy,rfl,⟨X,cy,rfl⟩,l,m⟩:=Y.out wr E.out _ y H;have R:=ad.out _ y H;have U:=dJ m;obtain⟨d,hd⟩:=xJ (BJ y x);rw[hd]at U R;have ab:=dJ R;have U0:=fun u=>(l u).1;have U1:=fun u=>(l u).2.1;have U2:=fun u=>(l u).2.2.1;have U3:=fun u=>(l u).2.2.2.1;have U4:=fun u=>(l u).2.2.2.2;have X0:=fun u=>(r.out wr E.out u).1;have X1:=fun u=>(r.out wr E.out u).2.1;have X2:=fun u=>(r.out wr E.out u).2.2.1;have X3:=fun u=>(r.out wr E.out u).2.2.2.1;have X4:=fun u=>(r.out wr E.out u).2.2.2.2;have ah:(C+z) / 2<n:=by omega
   clear H l m R hd;by_cases M:d<0
   ·go_wp2;refine dc (by kernel_rfl) (by kernel_rfl) ?_;repeat (go_big_quiet_step ((rename_i u;go_at_call 82;exact dk u (U.out u))))
    refine wpQuiet_nil ?_;intro w9 G;obtain⟨T,rfl⟩:=G;have N:=dJ (E.out.trans T.gr);clear U0 U1 U2 U3 U4 X0 X1 X2 X3 X4;go_wp2;have ag:(C+z) / 2<K:=ab.out.1 M;refine⟨⟨(C+z) / 2+1,z,by rw[show ((C:Int)+(z:Int)) / 2+1=(((C+z) / 2+1:Nat):Int) by omega],rfl,by omega,h2,h3,N⟩,by simp[intOf];omega⟩
   ·have ag:¬(C+z) / 2<K:=fun q=>M (ab.out.2 q);go_wp2;refine dc (by kernel_rfl) (by kernel_rfl) ?_;repeat (go_big_quiet_step ((rename_i u;go_at_call 82;exact dk u (U.out u))))
    refine wpQuiet_nil ?_;intro w9 G;obtain⟨T,rfl⟩:=G;have N:=dJ (E.out.trans T.gr);clear U0 U1 U2 U3 U4 X0 X1 X2 X3 X4;go_wp2;refine⟨⟨C,(C+z) / 2,rfl,by rw[show ((C:Int)+(z:Int)) / 2=(((C+z) / 2:Nat):Int) by omega],h1,by omega,by omega,N⟩,by simp[intOf];omega⟩
  ·obtain rfl:C=K:=by omega
   obtain rfl:z=C:=by omega
   by_cases ai:z<n
   ·obtain⟨y,H⟩:∃y,outs[z]?=some y:=⟨_,xR (by have:=HN.out;omega)⟩;obtain⟨b,vy,rfl,⟨X,cy,rfl⟩,l,m⟩:=Y.out wr E.out _ y H;have U:=dJ m;have hz:=DI.zero y x;obtain⟨d,hd⟩:=xJ (BJ y x);rw[hd]at U hz
    have O:Hid (F=decide (d=0)):=by show _=_;rw[<-Z.out,H];simp[hz]
    have U0:=fun u=>(l u).1;have U1:=fun u=>(l u).2.1;have U2:=fun u=>(l u).2.2.1;have U3:=fun u=>(l u).2.2.2.1;have U4:=fun u=>(l u).2.2.2.2;have X0:=fun u=>(r.out wr E.out u).1;have X1:=fun u=>(r.out wr E.out u).2.1;have X2:=fun u=>(r.out wr E.out u).2.2.1;have X3:=fun u=>(r.out wr E.out u).2.2.2.1;have X4:=fun u=>(r.out wr E.out u).2.2.2.2;clear H l m hz hd;by_cases h0:d=0
    all_goals
     go_wp2;refine dc (by kernel_rfl) (by kernel_rfl) ?_;repeat (go_big_quiet_step ((rename_i u;go_at_call 82;exact dk u (U.out u))))
     refine wpQuiet_nil ?_;intro w9 G;obtain⟨T,rfl⟩:=G;have N:=dJ (aa.out.trans (E.out.trans T.gr));clear U0 U1 U2 U3 U4 X0 X1 X2 X3 X4;go_wp2;go_ret2;refine⟨?_,N.out⟩;rw[O.out];simp[h0]
   ·have O:Hid (F=false):=by
     show _=_;rw[<-Z.out,yi (by have:=HN.out;omega)];simp
    go_wp2;refine dc (by kernel_rfl) (by kernel_rfl) ?_;repeat (go_big_quiet_step (fail))
    refine wpQuiet_nil ?_;intro w9 G;obtain⟨T,rfl⟩:=G;have N:=dJ (aa.out.trans (E.out.trans T.gr));go_wp2;go_ret2;refine⟨?_,N.out⟩;rw[O.out];rfl
theorem oY:(prog.info? 33).map (fun i=>(i.zero,i.size,i.bytes))=some (some (.slice none 0 0),1,24):=by kernel_rfl
theorem pC (hfn:FnAt B0 w vf f)(hB0:B0<=w.heap.size)(hf:VFn f){i:CG}{va:Value}(ha:U32At B0 w va i.args)(hm:TabAt B0 w vm i.mem)(hi:AB f i=0)(T:TypeId)(p:Value) :
  Calls prog 79 #[vf,.agg #[va,vm],.iface T p] w fun e w'=>∃c:Cfg,c.n₀=B0/\c.f=f/\c.ch=.iface T p/\e=.returned (.pointer (some ⟨c.Bs,0,none⟩))/\PS c w' (BN f i) 0 (-1) (.slice none 0 0)/\Gr w w'/\(∀k,yT c k->w.heap.size<=k)/\c.Bm<w'.heap.size:=by
 obtain⟨i0,cc,cy,cz,cA⟩:=info_parts dK;obtain⟨i1,cd,cu,cv,cw⟩:=info_parts oY;have cr:=FC hi;obtain⟨hv,b0,ap,ct,b7⟩:=cr;have av:=hf.val.size
 have ag:An f<=1000:=by
  have e:An f=f.p.length+AX f.b:=by unfold An yZ;rw[yv]
  omega
 have ck:f.p.length<=An f:=by unfold An yZ;omega
 have cD:f.b.length<=10:=av.2.2.2.1;have cM:1<=f.b.length:=by omega
 obtain⟨vp,vs,vb,rfl,hp,hs,hb⟩:=hfn;have bs:Hid (FnAt B0 w (.agg #[vp,.int .i64 f.ret,vs,vb]) f):=⟨vp,vs,vb,rfl,hp,hs,hb⟩;obtain⟨N,hN⟩:=xJ w.heap.size;rw[hN]at hB0;obtain⟨W0,aA⟩:=xJ (w.alloc (.cells #[vp,.int .i64 f.ret,vs,vb] 36));obtain⟨W1,aB⟩:=xJ (W0.alloc (.cells #[va,vm] 41));obtain⟨W2,aC⟩:=xJ (W1.alloc (.cells #[vp,.int .i64 f.ret,vs,vb,.iface T p,.slice none 0 0,.slice none 0 0,.slice none 0 0,.slice none 0 0,.int .i64 0,.int .i64 (-1),.int .i64 0,.slice none 0 0] 145));have s0:W0.heap.size=N+1:=by rw[<-aA,<-hN];simp
 have s1:W1.heap.size=N+2:=by rw[<-aB];simp[s0]
 have s2:W2.heap.size=N+3:=by rw[<-aC];simp[s1]
 have q0:W0.heap[N]?=some (.cells #[vp,.int .i64 f.ret,vs,vb] 36 (0,0)):=by rw[<-aA,<-hN];exact heap_alloc_new _ _
 have gA:Gr W0 W1:=by rw[<-aB];exact(yO _).alloc _
 have gB:Gr W1 W2:=by rw[<-aC];exact(yO _).alloc _
 have gW:Gr w W0:=by rw[<-aA];exact(yO _).alloc _
 have q1:W1.heap[N+1]?=some (.cells #[va,vm] 41 (0,0)):=by rw[<-aB,<-s0];exact heap_alloc_new _ _
 have aS:Hid (SS N w W2 vp f.ret vs vb (.iface T p) va vm (.slice none 0 0) (.slice none 0 0) (.slice none 0 0) (.slice none 0 0)):={
   gr:=(gW.trans gA).trans gB
   n:=hN.symm
   fb:=(gB.heap _ (by omega)).trans ((gA.heap _ (by omega)).trans q0)
   ib:=(gB.heap _ (by omega)).trans q1
   st:=by rw[<-aC,<-s1];exact heap_alloc_new _ _}
 obtain⟨Ap,cp,rfl,p1,p2,-⟩:=hp;obtain⟨As,cs,rfl,-,-,-⟩:=hs;obtain⟨Ab,cb,rfl,b1,b2,b3⟩:=hb;obtain⟨bb,ob,rfl,cN,b4⟩:=b3 (by omega)
 have bq:Hid (∀wr,Gr w wr->∀k l,f.b[k]?=some l->∃Al cl,wr.cell? ⟨bb,ob+k,none⟩=some (.slice Al l.length cl)):=fun wr g k l hl=>by obtain⟨u,U,Al,cl,rfl,-⟩:=b4 k l hl;exact⟨Al,cl,(g.cell _ _ (by omega)).trans U⟩
 have bC:Hid (∀k l,f.b[k]?=some l->yZ f (k+1)=yZ f k+l.length/\yZ f k+l.length<=1000):=fun k l hl=>⟨IY f hl,by have:=EK f hl;omega⟩;have HA:=dJ ha
 have ar:Hid (∀(k:Nat)(l:List Int),i.mem[k]?=some l->1<=l.length/\l.length<=8):=fun k l hl=>by have D:=congrArg (fun q=>q[k]?) ap;simp only[yc,hl,Option.map_some]at D;have L:=ym.1 hf.val.head.2 _ (xT D.symm);unfold BH at L;simp at L;omega
 have bz:Hid (∀wr,Gr w wr->∀(k:Nat)(l:List Int),i.mem[k]?=some l->∃bm om bl ol cl,vm=.slice (some ⟨bm,om,none⟩) i.mem.length (match vm with|.slice _ _ c=>c|_=>0)/\wr.cell? ⟨bm,om+k,none⟩=some (.slice (some ⟨bl,ol,none⟩) l.length cl)/\∀F,Gr wr F->∀j z,l[j]?=some z->F.cell? ⟨bl,ol+j,none⟩=some (.int .i64 z)):=fun wr g k l hl=>by obtain⟨A,c,rfl,-,-,h3⟩:=hm;obtain⟨b,o,rfl,hb,h4⟩:=h3 (by have:=(xS.1 hl).1;omega);obtain⟨u,U,Al,cl,rfl,-,-,h5⟩:=h4 k l hl;obtain⟨bl,ol,rfl,cP,h6⟩:=h5 (ar.out k l hl).1;exact⟨b,o,bl,ol,cl,rfl,(g.cell _ _ (by omega)).trans U,fun F W j z hz=>((g.trans W).cell _ _ (by omega)).trans (h6 j z hz)⟩
 have aR:Hid (i.mem.map (fun r=>(r.length:Int))=f.s):=ap
 have bA:Hid (i.mem.length<=1000):=by show _<=_;have D:=congrArg List.length ap;rw[yl]at D;omega
 have aP:Hid (i.args.length<=An f):=by show _<=_;omega
 have bo:Hid (∀wr,Gr w wr->∀k x,i.args[k]?=some x->∃b o,va=.slice (some ⟨b,o,none⟩) i.args.length (match va with|.slice _ _ c=>c|_=>0)/\wr.cell? ⟨b,o+k,none⟩=some (.int .u32 x)):=fun wr g k x hx=>by obtain⟨A,c,rfl,-,-,h3⟩:=HA.out;obtain⟨b,o,rfl,hb,h4⟩:=h3 (by have:=(xS.1 hx).1;omega);exact⟨b,o,rfl,(g.cell _ _ (by omega)).trans (h4 k x hx)⟩
 have HM:=dJ hm;have HV:=dJ hf;have HI:=dJ hi;have bp:=dJ hB0;have C:=dJ hN;have bP:W0.cell? ⟨N,0,none⟩=some (.slice Ap f.p.length cp):=yo _ _ 0 _ _ _ q0
 have I:∀(i:Nat)(v:Value),(#[Value.slice Ap f.p.length cp,.int .i64 f.ret,.slice As f.s.length cs,.slice (some ⟨bb,ob,none⟩) f.b.length cb]:Array Value)[i]?=some v->W1.cell? ⟨N,i,none⟩=some v/\W2.cell? ⟨N,i,none⟩=some v:=fun i v hv =>
  ⟨(yo _ _ i _ _ _ ((gA.heap _ (by omega)).trans q0)).trans hv,(yo _ _ i _ _ _ aS.out.fb).trans hv⟩
 obtain⟨x0,y0⟩:=I 0 _ rfl;obtain⟨x1,y1⟩:=I 1 _ rfl;obtain⟨x2,y2⟩:=I 2 _ rfl;obtain⟨x3,y3⟩:=I 3 _ rfl;obtain⟨Aa,ca,rfl,-,-,-⟩:=ha;obtain⟨ad,aa,rfl,-,-,-⟩:=hm;clear b3 b4 hi hv ct b7 av hN gA gB gW q0 q1 b0 ap bP I ck hf;rw[<-C.out]at s0 s1 s2 x0 x1 x2 x3 y0 y1 y2 y3
 go_enter func79, ntmps79
 go_wp2
 go_loopw [8,25] (fun s8 aK wr=>∃(k:Nat)(A:Option Addr)(c:Nat),k<=f.b.length/\aK=.int .i64 (k:Int)/\s8=.int .i64 (yZ f k:Nat) /\
     Hid (SS N w wr (.slice Ap f.p.length cp) f.ret (.slice As f.s.length cs) (.slice (some ⟨bb,ob,none⟩) f.b.length cb) (.iface T p) (.slice Aa i.args.length ca) (.slice ad i.mem.length aa) (.slice none 0 0) (.slice none 0 0) (.slice A k c) (.slice none 0 0)) /\
     Hid (Own1 (N+3) 3 wr (.slice A k c) (frL f k))) (fun _ aK _=>f.b.length-(intOf aK).toNat)
 case atStart=>exact⟨0,none,0,yI _,rfl,by (congr 1),aS,Own1.nil _ _ _⟩
 case round =>
  obtain⟨k,A,c,hk,rfl,rfl,d,m⟩:=hrel;by_cases Y:k<f.b.length
  ·obtain⟨l,hl⟩:∃l,f.b[k]?=some l:=⟨_,xR Y⟩;obtain⟨Al,cl,b8⟩:=bq.out wr d.out.gr k l hl;obtain⟨n1,n2⟩:=bC.out k l hl;have c7:wr.cell? ⟨w.heap.size+2,7,none⟩=some (.slice A k c):=by rw[C.out];exact yo _ _ 7 _ _ _ d.out.st
   have bB:Hid ((yZ f (k+1):Nat)=yZ f k+l.length):=n1;obtain⟨q,H⟩:=xJ (yZ f k);have HQ:=dJ H;rw[H]at n2;rw[H];clear hl n1 H;go_wp2_with (at_builtin;refine kZ (n:=k) (v:=.slice A k c) underlying33 cc cy cz cA rfl (by omega) rfl (.tmp 33) (.tmp 35) rfl (mO f k) rfl m.out rfl rfl (by omega) (by have:=d.out.lt;omega) ?_;intro J K Q ab aj af;have ao:=dJ (d.out.push m.out aj ab);have cU:Q.cell? ⟨w.heap.size+2,7,none⟩=some (.slice A k c):=(by rw[C.out];exact yo _ _ 7 _ _ _ ao.out.1.st);have aq:Q.frozen? ⟨w.heap.size+2,7,none⟩=false:=(by rw[C.out];exact yp _ _ 7 _ _ ao.out.1.st);clear ab aj af)
   have bH:Hid (SS N w (Q.setCell ⟨w.heap.size+2,7,none⟩ (.slice J (k+1) K)) (.slice Ap f.p.length cp) f.ret (.slice As f.s.length cs) (.slice (some ⟨bb,ob,none⟩) f.b.length cb) (.iface T p) (.slice Aa i.args.length ca) (.slice ad i.mem.length aa) (.slice none 0 0) (.slice none 0 0) (.slice J (k+1) K) (.slice none 0 0)):=by rw[C.out];exact ao.out.1.put 7 _ rfl
   have bD:Hid (Own1 (N+3) 3 (Q.setCell ⟨w.heap.size+2,7,none⟩ (.slice J (k+1) K)) (.slice J (k+1) K) (frL f (k+1))):=by rw[C.out,tB,HQ.out];exact ao.out.2.1 7
   refine⟨⟨k+1,J,K,by omega,by go_num,by rw[bB.out,HQ.out];go_num,bH,bD⟩,by simp[intOf];omega⟩
  ·obtain rfl:k=f.b.length:=by omega
   obtain⟨n,hn⟩:=xJ (An f);have a8:yZ f f.b.length=n:=hn;have an:=dJ hn;rw[hn]at ag;rw[a8];clear hn a8 Y hk;obtain⟨Wa,bX⟩:∃Wa,Wa=wr:=⟨_,rfl⟩;subst bX;have bU:=fun T=>fp T n ag;have bF:Hid (Array.replicate n (Value.bool false)=((List.replicate n false).map Value.bool).toArray):=by (show _=_);simp
   have bT:=fun T=>nU T n ag;have bV:N+2<Wa.heap.size:=by have:=d.out.lt;omega
   have a5:Wa.cell? ⟨w.heap.size+2,5,none⟩=some (.slice none 0 0):=by rw[C.out];exact yo _ _ 5 _ _ _ d.out.st
   have a6:Wa.cell? ⟨w.heap.size+2,6,none⟩=some (.slice none 0 0):=by rw[C.out];exact yo _ _ 6 _ _ _ d.out.st
   have z5:Wa.frozen? ⟨w.heap.size+2,5,none⟩=false:=by rw[C.out];exact yp _ _ 5 _ _ d.out.st
   have z6:Wa.frozen? ⟨w.heap.size+2,6,none⟩=false:=by rw[C.out];exact yp _ _ 6 _ _ d.out.st
   have cL:w.heap.size+2<Wa.heap.size:=by rw[C.out];exact bV
   go_wp2
   go_cut [] (fun wx=>∃Bv Bh:Nat,Hid (MK N Wa wx (wK (.slice Ap f.p.length cp) f.ret (.slice As f.s.length cs) (.slice (some ⟨bb,ob,none⟩) f.b.length cb) (.iface T p) (.slice (some ⟨Bv,0,none⟩) n n) (.slice (some ⟨Bh,0,none⟩) n n) (.slice A f.b.length c) (.slice none 0 0)) [(Bv,.cells (dB (List.replicate n Rn.zero)).toArray 24 (0,0)),(Bh,.cells ((List.replicate n false).map Value.bool).toArray 4 (0,0))]))
   case first =>
    go_region_with (fail)
    all_goals go_wp2
    all_goals go_meet
    all_goals rw[bF.out,C.out]
    all_goals first
     | exact⟨Wa.heap.size,Wa.heap.size+1,uH d.out.st _ _ _ _ _ _⟩
     | exact⟨Wa.heap.size+1,Wa.heap.size,(uH d.out.st _ _ _ _ _ _).mono (by intro q H;simp at H ⊢;exact H.symm)⟩
   case rest =>
    obtain⟨Bv,Bh,al⟩:=hcut;obtain⟨Wc,bY⟩:∃Wc,Wc=wc:=⟨_,rfl⟩;subst bY;have ai:=al.out.fr;obtain⟨aH,bj⟩:=al.out.at_ _ (List.mem_cons_self);obtain⟨aE,a3⟩:=al.out.at_ _ (List.mem_cons_of_mem _ (List.mem_cons_self))
    have aY:Hid (SS N w Wc (.slice Ap f.p.length cp) f.ret (.slice As f.s.length cs) (.slice (some ⟨bb,ob,none⟩) f.b.length cb) (.iface T p) (.slice Aa i.args.length ca) (.slice ad i.mem.length aa) (.slice (some ⟨Bv,0,none⟩) n n) (.slice (some ⟨Bh,0,none⟩) n n) (.slice A f.b.length c) (.slice none 0 0)):={
      gr:=Gr.below d.out.gr (ai.below (n:=N+2) (fun k hk=>by omega) (by omega)) (by rw[C.out];omega)
      n:=C.out.symm
      fb:=(ai.block _ (by omega) (by omega)).trans d.out.fb
      ib:=(ai.block _ (by omega) (by omega)).trans d.out.ib
      st:=al.out.st}
    have bW:Hid (Own1 (N+3) 3 Wc (.slice A f.b.length c) (frL f f.b.length)):=dm m.out fun k hk=>ai.block k (di m.out hk).2.1 (by have:=(di m.out hk).1;omega);have bS:N+3<=Bv:=by have:Wa.heap.size<=Bv:=bj;omega
    have bR:N+3<=Bh:=by have:Wa.heap.size<=Bh:=a3;omega
    have am:Bv≠Bh:=de aH aE (by decide);have bL:Hid (Wc.heap[Bv]?=some (.cells (dB (eq Rn.zero (i.args.map Ae) n 0)).toArray 24 (0,0))):=by (show _=_);rw[fM];exact aH
    have bu:Hid (Wc.heap[Bh]?=some (.cells ((eq false (i.args.map fun _=>true) n 0).map Value.bool).toArray 4 (0,0))):=by (show _=_);rw[fM];exact aE
    have aZ:i.args.length<=n:=by have:=aP.out;have:=an.out;omega
    have c0:Wc.cell? ⟨w.heap.size+1,0,none⟩=some (.slice Aa i.args.length ca):=by rw[C.out];exact yo _ _ 0 _ _ _ aY.out.ib
    clear al ai aH bj aE a3 d m a5 a6 z5 z6 bU bT;go_wp2
    go_loopw [57] (fun aL wr=>∃k:Nat,k<=i.args.length/\aL=.int .i64 (k:Int) /\
        Hid (SS N w wr (.slice Ap f.p.length cp) f.ret (.slice As f.s.length cs) (.slice (some ⟨bb,ob,none⟩) f.b.length cb) (.iface T p) (.slice Aa i.args.length ca) (.slice ad i.mem.length aa) (.slice (some ⟨Bv,0,none⟩) n n) (.slice (some ⟨Bh,0,none⟩) n n) (.slice A f.b.length c) (.slice none 0 0)) /\
        Hid (Own1 (N+3) 3 wr (.slice A f.b.length c) (frL f f.b.length))/\Hid (wr.heap[Bv]?=some (.cells (dB (eq Rn.zero (i.args.map Ae) n k)).toArray 24 (0,0))) /\
        Hid (wr.heap[Bh]?=some (.cells ((eq false (i.args.map fun _=>true) n k).map Value.bool).toArray 4 (0,0)))) (fun aL _=>i.args.length-(intOf aL).toNat)
    case atStart=>exact⟨0,yI _,rfl,aY,bW,bL,bu⟩
    case round =>
     obtain⟨k,hk,rfl,d,m,hv,hh⟩:=hrel;by_cases Y:k<i.args.length
     ·obtain⟨x,hx⟩:∃x,i.args[k]?=some x:=⟨_,xR Y⟩;obtain⟨ba,oa,aI,cQ⟩:=bo.out wr d.out.gr k x hx;injection aI with aI _ _;subst aI;have c5:wr.cell? ⟨w.heap.size+2,5,none⟩=some (.slice (some ⟨Bv,0,none⟩) n n):=by rw[C.out];exact yo _ _ 5 _ _ _ d.out.st
      have c6:wr.cell? ⟨w.heap.size+2,6,none⟩=some (.slice (some ⟨Bh,0,none⟩) n n):=by rw[C.out];exact yo _ _ 6 _ _ _ d.out.st
      have a4:k<n:=by omega
      obtain⟨y,hy⟩:∃y,(eq Rn.zero (i.args.map Ae) n k)[k]?=some y:=⟨_,xR (by rw[fD _ _ _ _ (by simp;omega) (by simp;omega)];exact a4)⟩;obtain⟨z,hz⟩:∃z,(eq false (i.args.map fun _=>true) n k)[k]?=some z:=⟨_,xR (by rw[fD _ _ _ _ (by simp;omega) (by simp;omega)];exact a4)⟩;obtain⟨aq,aN,aO⟩:=dX _ _ _ hy;rw[Nat.mul_comm]at aq aN aO;have d0:wr.cell? ⟨Bv,k*3,none⟩=some (.bool y.p):=(yo _ _ _ _ _ _ hv.out).trans (by simpa using aq);have d1:wr.cell? ⟨Bv,k*3+1,none⟩=some (.int .i64 y.s):=(yo _ _ _ _ _ _ hv.out).trans (by simpa using aN);have d2:wr.cell? ⟨Bv,k*3+2,none⟩=some (.int .u32 y.n):=(yo _ _ _ _ _ _ hv.out).trans (by simpa using aO);have e0:wr.cell? ⟨Bh,k,none⟩=some (.bool z):=(yo _ _ _ _ _ _ hh.out).trans (by simp[hz]);have f0:wr.frozen? ⟨Bv,k*3,none⟩=false:=yp _ _ _ _ _ hv.out;have f1:wr.frozen? ⟨Bv,k*3+1,none⟩=false:=yp _ _ _ _ _ hv.out;have f2:wr.frozen? ⟨Bv,k*3+2,none⟩=false:=yp _ _ _ _ _ hv.out;have f3:wr.frozen? ⟨Bh,k,none⟩=false:=yp _ _ _ _ _ hh.out;have n1:w.heap.size+2≠Bv:=by rw[C.out];omega
      have n2:w.heap.size+2≠Bh:=by rw[C.out];omega
      have bg:=cX (i:=k*3) (.bool false) hv.out;have bh:=cX (i:=k*3+1) (.int .i64 0) bg;have bi:=cX (i:=k*3+2) (.int .u32 x) bh;have er:=gQ (eq Rn.zero (i.args.map Ae) n k) k (Ae x);rw[fL Rn.zero (i.args.map Ae) n k (by simp;omega) (Ae x) (by rw[yc,hx];rfl)]at er;have ay:=kN (eq false (i.args.map fun _=>true) n k) k;rw[fL false (i.args.map fun _=>true) n k (by simp;omega) true (by rw[yc,hx];rfl)]at ay;obtain⟨W9,aD⟩:=xJ (((((wr.setCell ⟨Bv,k*3,none⟩ (.bool false)).setCell ⟨Bv,k*3+1,none⟩ (.int .i64 0)).setCell ⟨Bv,k*3+2,none⟩ (.int .u32 x)).setCell ⟨Bh,k,none⟩ (.bool true)))
      have az:FrS (fun q=>q=Bv\/q=Bh) wr W9:=by rw[<-aD];exact((((FrS.refl (fun q=>q=Bv\/q=Bh) wr).setCell (p:=⟨Bv,k*3,none⟩) (.inl rfl) _).setCell (p:=⟨Bv,k*3+1,none⟩) (.inl rfl) _).setCell (p:=⟨Bv,k*3+2,none⟩) (.inl rfl) _).setCell (p:=⟨Bh,k,none⟩) (.inr rfl) _
      have bM:Hid (W9.drew.heap[Bv]?=some (.cells (dB (eq Rn.zero (i.args.map Ae) n (k+1))).toArray 24 (0,0))):=by show W9.heap[Bv]?=_;rw[<-er,<-aD];exact(yy _ _ _ _ am).trans bi
      have bv:Hid (W9.drew.heap[Bh]?=some (.cells ((eq false (i.args.map fun _=>true) n (k+1)).map Value.bool).toArray 4 (0,0))):=by show W9.heap[Bh]?=_;rw[<-ay,<-aD];exact cX (i:=k) (.bool true) ((yy _ _ _ _ am.symm).trans ((yy _ _ _ _ am.symm).trans ((yy _ _ _ _ am.symm).trans hh.out)))
      have bI:=dJ ((d.out.keep az (fun q H=>H.elim (fun e=>by omega) (fun e=>by omega))).grow ((yO W9).drew))
      have bE:Hid (Own1 (N+3) 3 W9.drew (.slice A f.b.length c) (frL f f.b.length)):=dm m.out fun q H=>az.drew.block q (di m.out H).2.1 (by
        obtain⟨-,-,B,ht⟩:=di m.out H
        rintro (e|e)
        · subst e;exact de ht hv.out (by decide) rfl
        · subst e;exact de ht hh.out (by decide) rfl)
      clear hx hy hz aq aN aO bg bh bi er ay d m hv hh az;go_wp2
      go_region_with (fail)
      all_goals go_wp2
      all_goals exact⟨⟨k+1,by omega,by go_num,bI,bE,bM,bv⟩,by simp[intOf];omega⟩
     ·obtain rfl:k=i.args.length:=by omega
      obtain⟨We,bZ⟩:∃We,We=wr:=⟨_,rfl⟩;subst bZ
      have bN:Hid (We.heap[Bv]?=some (.cells (dB (BN f i).v).toArray 24 (0,0))):=by show _=_;rw[hv.out];unfold eq BN;rw[an.out,yh (by simp)]
      have bx:Hid (We.heap[Bh]?=some (.cells ((BN f i).had.map Value.bool).toArray 4 (0,0))):=by show _=_;rw[hh.out];unfold eq BN;rw[an.out,yh (by simp)]
      have c1:We.cell? ⟨w.heap.size+1,1,none⟩=some (.slice ad i.mem.length aa):=by rw[C.out];exact yo _ _ 1 _ _ _ d.out.ib
      clear hv hh Y hk aZ;go_wp2
      go_loopw [80] (fun aM wr=>∃(k:Nat)(us:List (Nat × Nat))(A8:Option Addr)(c8:Nat),k<=i.mem.length/\aM=.int .i64 (k:Int)/\us.length=k /\
          Hid (SS N w wr (.slice Ap f.p.length cp) f.ret (.slice As f.s.length cs) (.slice (some ⟨bb,ob,none⟩) f.b.length cb) (.iface T p) (.slice Aa i.args.length ca) (.slice ad i.mem.length aa) (.slice (some ⟨Bv,0,none⟩) n n) (.slice (some ⟨Bh,0,none⟩) n n) (.slice A f.b.length c) (.slice A8 k c8)) /\
          Hid (Own1 (N+3) 3 wr (.slice A f.b.length c) (frL f f.b.length))/\Hid (wr.heap[Bv]?=some (.cells (dB (BN f i).v).toArray 24 (0,0))) /\
          Hid (wr.heap[Bh]?=some (.cells ((BN f i).had.map Value.bool).toArray 4 (0,0))) /\
          Hid (MU N wr us i.mem (.slice A f.b.length c))/\Hid (Own1 (N+3) 33 wr (.slice A8 k c8) (usV us i.mem))) (fun aM _=>i.mem.length-(intOf aM).toNat)
      case atStart=>exact⟨0,[],none,0,yI _,rfl,rfl,d,m,bN,bx,MU.nil _ _ _ _,Own1.nil _ _ _⟩
      case round =>
       obtain⟨k,us,A8,c8,hk,rfl,M,d,m,hv,hh,G,O⟩:=hrel;by_cases Y:k<i.mem.length
       ·obtain⟨l,hl⟩:∃l,i.mem[k]?=some l:=⟨_,xR Y⟩;obtain⟨bm,om,bl,ol,cl,aJ,cR,a1⟩:=bz.out wr d.out.gr k l hl;injection aJ with aJ _ _;subst aJ;obtain⟨l1,l2⟩:=ar.out k l hl
        have CL:Hid (∀F,Gr wr F->Calls prog 100 #[.slice (some ⟨bl,ol,none⟩) l.length cl] F fun e w'=>∃b' E:Nat,e=.returned (.slice (some ⟨b',0,none⟩) l.length E)/\(F.heap.size<=b'/\l.length<=E/\E<=9223372036854775807/\∃B:Array Value,w'.heap[b']?=some (.cells B 3 (0,0))/\∀(i:Nat)(z:Int),l[i]?=some z->B[i]?=some (.int .i64 z))/\Gr F w'):=fun F W=>by
         refine(Tryz.slices_Clone_int bl ol l.length cl l F (yJ _) (by omega) (fun j X=>by
           rw[xU,xR X]
           exact a1 F W j _ (xR X))).mono ?_
         rintro e w' ⟨v',rfl,ho,ci,a0⟩;obtain⟨o1,o2⟩:=ho;rcases o2 with ⟨rfl,-⟩|⟨g,E,B,rfl,hg,hc,h3,h4,h5,h6⟩
         ·exact absurd rfl ci
         ·refine⟨g,E,rfl,⟨hg,h3,by unfold maxLen at h4;omega,B,hc,fun q z hz=>?_⟩,a0⟩;have H:=(xS.1 hz).1;have h7:=congrArg (fun r=>r[q]?) h6;simp only[yf,yc,yv,hz,Option.map_some,Nat.mul_one,yr H]at h7;simpa using h7
        have ac:Hid (∀F,Gr wr F->Own1 (N+3) 33 F (.slice A8 k c8) (usV us i.mem)/\F.cell? ⟨w.heap.size+2,8,none⟩=some (.slice A8 k c8)/\F.frozen? ⟨w.heap.size+2,8,none⟩=false/\N+3<=F.heap.size):=fun F W=>by have D:=d.out.grow W;exact⟨O.out.gr W,by rw[C.out];exact yo _ _ 8 _ _ _ D.st,by rw[C.out];exact yp _ _ 8 _ _ D.st,D.lt⟩
        have aQ:Hid (∀(F Q:World)(bk:Obj)(b' E:Nat)(J:Option Addr)(K:Nat),Gr wr F->(wr.heap.size<=b'/\l.length<=E/\E<=9223372036854775807/\∃B:Array Value,F.heap[b']?=some (.cells B 3 (0,0))/\∀(i:Nat)(z:Int),l[i]?=some z->B[i]?=some (.int .i64 z)) ->
            (F.alloc bk).grownBy Q (Value.slice A8 k c8).ownBlock->Own1 (N+3) 33 Q (.slice J (k+1) K) (usV us i.mem++[.slice (some ⟨b',0,none⟩) l.length E]) ->
            (Q.cell? ⟨w.heap.size+2,8,none⟩=some (.slice A8 k c8)/\Q.frozen? ⟨w.heap.size+2,8,none⟩=false) /\
            SS N w (Q.setCell ⟨w.heap.size+2,8,none⟩ (.slice J (k+1) K)) (.slice Ap f.p.length cp) f.ret (.slice As f.s.length cs) (.slice (some ⟨bb,ob,none⟩) f.b.length cb) (.iface T p) (.slice Aa i.args.length ca) (.slice (some ⟨bm,om,none⟩) i.mem.length aa) (.slice (some ⟨Bv,0,none⟩) n n) (.slice (some ⟨Bh,0,none⟩) n n) (.slice A f.b.length c) (.slice J (k+1) K) /\
            Own1 (N+3) 3 (Q.setCell ⟨w.heap.size+2,8,none⟩ (.slice J (k+1) K)) (.slice A f.b.length c) (frL f f.b.length)/\((Q.setCell ⟨w.heap.size+2,8,none⟩ (.slice J (k+1) K)).heap[Bv]?=some (.cells (dB (BN f i).v).toArray 24 (0,0))) /\
            ((Q.setCell ⟨w.heap.size+2,8,none⟩ (.slice J (k+1) K)).heap[Bh]?=some (.cells ((BN f i).had.map Value.bool).toArray 4 (0,0))) /\
            MU N (Q.setCell ⟨w.heap.size+2,8,none⟩ (.slice J (k+1) K)) (us++[(b',E)]) i.mem (.slice A f.b.length c)/\Own1 (N+3) 33 (Q.setCell ⟨w.heap.size+2,8,none⟩ (.slice J (k+1) K)) (.slice J (k+1) K) (usV (us++[(b',E)]) i.mem)):=by
         intro F Q bk b' E J K W b6 hg ab;rw[C.out];have co:=d.out.grow W;have bc:=O.out.gr W;obtain⟨p1,p2,p3⟩:=co.push bc hg ab;have hF:=p3 8
         have a9:∀{q:Nat} {B:Array Value} {t:TypeId},F.heap[q]?=some (.cells B t (0,0))->t≠33->N+3<=q->¬((Value.slice A8 k c8).ownBlock=some q\/q=N+2):=by
          rintro q B t H ht aX (e|e)
          ·obtain⟨-,-,ae,cq⟩:=di bc e;exact de H cq ht rfl
          ·omega
         have Z:∀{q:Nat} {B:Array Value} {t:TypeId},F.heap[q]?=some (.cells B t (0,0))->t≠33->N+3<=q->(Q.setCell ⟨N+2,8,none⟩ (.slice J (k+1) K)).heap[q]?=some (.cells B t (0,0)):=fun H ht aX=>(hF.block _ (cY H) (a9 H ht aX)).trans H;obtain⟨b1,b2,bO,B,aT,b5⟩:=b6;have a7:=d.out.lt;have cG:=W.size;have cH:F.heap.size<=(Q.setCell ⟨N+2,8,none⟩ (.slice J (k+1) K)).heap.size:=hF.size;refine⟨⟨yo _ _ 8 _ _ _ p1.st,yp _ _ 8 _ _ p1.st⟩,p1.put 8 _ rfl,dm m.out fun q H=>?_,Z ((W.heap _ (cY hv.out)).trans hv.out) (by decide) bS,Z ((W.heap _ (cY hh.out)).trans hh.out) (by decide) bR,⟨?_,?_,?_,?_⟩,?_⟩
         ·obtain⟨D,L,ae,h3⟩:=di m.out H;exact(Z ((W.heap _ L).trans h3) (by decide) D).trans h3.symm
         ·intro j b S l' D L;rcases yw j us.length with X|X
          ·rw[yd X]at D;obtain⟨r1,r2,r3,ae,r4,r5⟩:=G.out.row j b S l' D L;exact⟨r1,r2,r3,ae,Z ((W.heap _ (cY r4)).trans r4) (by decide) r1,r5⟩
          ·rw[ye X]at D
           obtain rfl:j=us.length:=by
            rcases yw us.length j with q|q
            ·rw[yi (by simp;omega)]at D;cases D
            ·omega
           rw[Nat.sub_self]at D;simp at D;obtain⟨rfl,rfl⟩:=D;rw[M,hl]at L;injection L with L;subst L;exact⟨by omega,b2,bO,B,Z aT (by decide) (by omega),b5⟩
         ·rw[List.map_append,List.nodup_append];refine⟨G.out.apart,by simp,fun a ha b hb=>?_⟩;simp at hb;subst hb;obtain⟨u,U,rfl⟩:=List.mem_map.1 ha;have:=G.out.all u U;omega
         ·intro u U;rcases yz.1 U with U|U
          ·exact G.out.off u U
          ·simp at U;subst U;intro e;have:=(di m.out e).2.1;dsimp only at this;omega
         ·intro u U;rcases yz.1 U with U|U
          ·have:=G.out.all u U;omega
          ·simp at U;subst U;have:=cY aT;show b'<_;omega
         ·rw[kS us i.mem (b',E) l (by rw[M];exact hl)];exact p2 8
        have aG:(usV us i.mem).length=k:=by rw[ie _ _ (by omega),M]
        have bJ:=dJ aG;have mixed:(prog).follows .mixedOrders=true:=by kernel_rfl
        obtain⟨-,o8,z8,-⟩:=ac.out wr (yO _);have Q8:=fun o=>(ac.out (wr.drew.alloc o) (((yO wr).drew).alloc o)).2.1;have be:(us++[((0:Nat),(0:Nat))]).length=k+1:=by simp[M]
        have bK:Hid (∀u:Nat × Nat,(us++[u]).length=k+1):=fun u=>by simp[M]
        have bn:k<1000000:=by have:=HI.out;have h3:=aG;have:i.mem.length<=1000:=bA.out;omega
        clear hl M d m hv hh G O a1 aG be;go_wp2
        go_region_law_o (first|(refine pR rfl (f:=100) (args:=#[.slice (some ⟨bl,ol,none⟩) l.length cl]) (by simp[go_sem,Act.eval,Act.put]) ((CL.out _ ((yO wr).drew)).mono ?_);rintro e F ⟨b',E,rfl,bd,W⟩;refine⟨_,rfl,?_⟩;have G1:Hid (Gr wr F):=((yO wr).drew).trans W;have bG:=dJ bd;have ax:=dJ (ac.out F G1.out);have cT:=ax.out.2.1;have cI:=fun o=>(ac.out (F.alloc o) (G1.out.alloc o)).2.1;clear bd W)|(refine fg (n:=k) (v:=.slice A8 k c8) underlying25 cd cu cv cw rfl (by omega) rfl (.tmp 88) (.tmp 91) rfl bJ.out rfl ax.out.1 rfl rfl (by omega) ax.out.2.2.2 ?_;intro J K Q ab aj af;have aw:=dJ (aQ.out F Q _ b' E J K G1.out bG.out aj ab);have cV:=aw.out.1.1;have cW:=aw.out.1.2;clear ab aj af))
        all_goals go_wp2
        all_goals
         obtain⟨-,j1,j2,j3,j4,j5,j6⟩:=aw.out;exact⟨⟨k+1,us++[(b',E)],J,K,by omega,by go_num,bK.out _,j1,j2,j3,j4,j5,j6⟩,by simp[intOf];omega⟩
       ·obtain rfl:k=i.mem.length:=by omega
        have a2:∃c9:Cfg,c9.n₀=B0/\c9.f=f/\c9.ch=.iface T p/\c9.Bs=w.heap.size+2/\PS c9 wr (BN f i) 0 (-1) (.slice none 0 0)/\(∀k,yT c9 k->w.heap.size<=k)/\c9.Bm<wr.heap.size:=by
         have a7:=d.out.lt;have cK:=C.out;have cB:B0<=N:=bp.out;obtain⟨bf,bQ,cO,cF,b9⟩:=dx (by have:=m.out;unfold Own1 at this;rw[mO]at this;exact this) rfl (by omega:0<f.b.length);subst bQ;obtain⟨-,cn⟩:=id m.out;have cE:N+3<=bf:=(di m.out (k:=bf) rfl).1;obtain⟨aU,ah⟩:=(di m.out (k:=bf) rfl).2.2
         have au:f.b.length<=c/\c<=9223372036854775807:=by
          rcases cn with ⟨e,-⟩|⟨g,E,B,e,-,-,D,L,-⟩
          ·cases e
          ·injection e with _ e1 e2;unfold maxLen at L;rw[mO]at D;omega
         have cj:i.mem.length<=c8/\c8<=9223372036854775807:=by
          obtain⟨-,hr⟩:=id O.out;rcases hr with ⟨e,h0⟩|⟨g,E,B,e,-,-,D,L,-⟩
          ·injection e with _ e1 e2;omega
          ·injection e with _ e1 e2;unfold maxLen at L;rw[ie _ _ (by omega),M]at D;omega
         obtain⟨Bm,cC,aV,aW⟩:∃Bm:Nat,N+2<=Bm/\Bm<wr.heap.size/\(0<us.length->A8=some ⟨Bm,0,none⟩/\∃B:Array Value,wr.heap[Bm]?=some (.cells B 33 (0,0))/\∀j v,(usV us i.mem)[j]?=some v->B[j]?=some v):=by
          by_cases h0:0<us.length
          ·obtain⟨-,hr⟩:=id O.out;rcases hr with ⟨e,D⟩|⟨g,E,B,e,D,L,-,-,-,h3⟩
           ·rw[ie _ _ (by omega)]at D;omega
           ·injection e with e1 _ _;refine⟨g,by omega,cY L,fun _=>⟨e1,B,L,fun j v X=>?_⟩⟩;rw[<-h3,yf]at X;split at X
            ·simpa using X
            ·cases X
          ·exact⟨N+2,yJ _,by omega,fun q=>absurd q h0⟩
         have cJ:us.length=0->A8=none\/True:=fun _=>.inr trivial;have cS:Bv≠Bh:=am;refine⟨{n₀:=B0,f:=f,vp:=.slice Ap f.p.length cp,vs:=.slice As f.s.length cs,vb:=.slice (some ⟨bb,ob,none⟩) f.b.length cb,ch:=.iface T p,Bf:=bf,cf:=c,Am:=A8,Bm:=Bm,cm:=c8,us:=us,Bs:=N+2,Bv:=Bv,Bh:=Bh},rfl,rfl,rfl,by show N+2=_;omega,?_,?_,aV⟩
         ·exact {
             st:=by
               have D:=d.out.st
               have e1:(BN f i).v.length=n:=by
                 have:=aP.out
                 have:=an.out
                 unfold BN;simp;omega
               rw[e1]
               show wr.heap[N+2]?=_
               rw[D]
               unfold wK pP Cfg.first Cfg.mv
               dsimp only
               rw[M];rfl
             v:=hv.out
             had:=hh.out
             hlen:=by unfold BN;simp
             mem:=⟨by show i.mem.length=us.length;omega,fun j b S l' D L=>by
               obtain⟨r1,r2,r3,r4⟩:=G.out.row j b S l' D L
               exact⟨r2,r3,r4⟩⟩
             s:=⟨by show us.length<=c8;omega,cj.2,fun ce=>by
               obtain⟨q1,B,q2,q3⟩:=aW ce
               refine⟨q1,B,q2,fun j b S z D L=>q3 j _ ?_⟩
               have hz:i.mem[j]?.map (fun r=>(r.length:Int))=some z:=by rw[<-yc,aR.out];exact L
               obtain⟨l',ak,cx⟩:=Option.map_eq_some_iff.1 hz
               unfold usV
               rw[List.getElem?_zipWith,D,ak,<-cx]
               rfl⟩
             fn:=bs.out.below (Below.mono d.out.gr (by omega))
             first:=⟨au.1,au.2,aU,ah,fun j X=>by
               have aF:j<f.b.length:=X
               have D:=b9 j (by omega)
               rw[yo _ _ j _ _ _ ah]at D
               rw[D]
               unfold frL
               rw[yc,List.getElem?_range aF];rfl⟩
             old:=⟨by show B0<=N+2;omega,by show B0<=Bv;omega,by show B0<=Bh;omega,by show B0<=bf;omega,by show B0<=Bm;omega,fun j b S D=>by
               have cg:=xT D
               have X:=(xS.1 D).1
               obtain⟨l',ak⟩:∃l',i.mem[j]?=some l':=⟨_,xR (by have:us.length=i.mem.length:=M;have aF:j<us.length:=X;omega)⟩
               have r1:=(G.out.row j b S l' D ak).1
               refine⟨by show B0<=b;omega,fun e=>?_⟩
               have e':b=bf:=e
               exact G.out.off (b,S) cg (by rw[e'];rfl)⟩
             apart:=G.out.apart}
         ·intro q H;rcases H with (e|e|e|⟨j,S,D⟩)|e|e
          ·have e':q=N+2:=e;omega
          ·have e':q=Bv:=e;omega
          ·have e':q=Bh:=e;omega
          ·have X:=(xS.1 D).1;obtain⟨l',ak⟩:∃l',i.mem[j]?=some l':=⟨_,xR (by have:us.length=i.mem.length:=M;have aF:j<us.length:=X;omega)⟩;have r1:=(G.out.row j q S l' D ak).1;omega
          ·have e':q=bf:=e;omega
          ·have e':q=Bm:=e;omega
        obtain⟨c9,e1,e2,e3,e4,e5,e6,e7⟩:=a2;have R:=dJ (And.intro e5 (And.intro d.out.gr (And.intro e6 e7)));have br:=dJ e4;clear e5 e6 e7 d m hv hh G O Y hk;go_wp2;go_ret;exact⟨c9,e1,e2,e3,by (show _=Ending.returned (.pointer (some ⟨c9.Bs,0,none⟩)));rw[br.out];rfl,R.out.1,R.out.2.1,R.out.2.2.1,R.out.2.2.2⟩
theorem vX (b:Int)(w:World):Calls prog 117 #[.int .i64 b] w (RT (.bool (decide (b < -1) || decide (255<b))) w):=by
 by_cases d:b < -1
 ·go_enter func117, ntmps117
  go_wp2;go_ret;exact⟨cZ (by simp[d]),rfl⟩
 ·by_cases g:255<b
  all_goals
   go_enter func117, ntmps117
   go_wp2;go_ret;exact⟨cZ (by simp[d,g]),rfl⟩
theorem wN (hv:IntsAt B w v zs):Calls prog 88 #[v,.func (.func 117) #[] #[]] w (RG (.bool (zs.any fun b=>decide (b < -1) || decide (255<b))) w):=by
 obtain⟨A,c,rfl,r,t,m⟩:=hv;rcases Nat.eq_zero_or_pos zs.length with l|d
 ·obtain rfl:=yB l;exact(Tryz.slices_ContainsFunc_empty_f40 (α:=Int) A c _ w).mono fun e w' h=>⟨h.1,by rw[h.2];exact yO _⟩
 ·obtain⟨b,o,rfl,u,p⟩:=m d
  refine(Tryz.slices_ContainsFunc_f40 (fun z:Int=>Value.int .i64 z) (fun b=>decide (b < -1) || decide (255<b)) 117 #[] (fun args w=>by kernel_rfl) b o zs.length c zs w (fun W x _=>(vX x W).mono fun e w' h=>⟨h.1,0,by rw[h.2];rfl⟩) (yJ _) (by omega) (fun j g=>by rw[getElem!_pos zs j g];exact p j _ (xR g))).mono ?_
  rintro e w' ⟨rfl,q,rfl⟩;rw[yv];exact⟨rfl,(yO w).drewN q⟩
namespace Rn
theorem Hu {α β:Type}{l:List α}{m:List β}{p:α × β->Bool}{a:α}{b:β}(h1:l[j]?=some a)(h2:m[j]?=some b)(hp:p (a,b)=true):(l.zip m).any p=true:=by rw[yG];exact⟨(a,b),xT (List.getElem?_zip_eq_some.2 ⟨h1,h2⟩),hp⟩
theorem Gx {α β:Type}{l:List α}{m:List β}{p:α × β->Bool}(h:∀(j:Nat)(a:α)(b:β),l[j]?=some a->m[j]?=some b->p (a,b)=false):(l.zip m).any p=false:=by rw[List.any_eq_false];rintro⟨a,b⟩ r;obtain⟨j,q⟩:=List.getElem?_of_mem r;obtain⟨d,g⟩:=List.getElem?_zip_eq_some.1 q;rw[h j a b d g];exact Bool.false_ne_true
end Rn
theorem pX (hfn:FnAt w.heap.size w vf f)(hnice:gT f){i:CG}{va:Value}(ha:U32At w.heap.size w va i.args)(hm:TabAt w.heap.size w vm i.mem) :
  Calls prog 78 #[vf,.agg #[va,vm]] w (RG (.int .i64 (AB f i)) w):=by
 obtain⟨vp,vs,vb,rfl,hp,hs,Q⟩:=hfn;obtain⟨W,hW⟩:=xJ ((w.alloc (.cells #[vp,.int .i64 f.ret,vs,vb] 36)).alloc (.cells #[va,vm] 41));have D:Gr w W:=by rw[<-hW];exact((yO w).alloc _).alloc _
 have al:(w.alloc (.cells #[vp,.int .i64 f.ret,vs,vb] 36)).heap.size=w.heap.size+1:=by simp
 have T:W.heap[w.heap.size]?=some (.cells #[vp,.int .i64 f.ret,vs,vb] 36 (0,0)):=by rw[<-hW];exact(((yO (w.alloc (.cells #[vp,.int .i64 f.ret,vs,vb] 36))).alloc _).heap _ (by simp)).trans (heap_alloc_new w _)
 have X:W.heap[w.heap.size+1]?=some (.cells #[va,vm] 41 (0,0)):=by rw[<-hW,<-al];exact heap_alloc_new _ _
 have CV:=dJ (gK (.agg #[vp,.int .i64 f.ret,vs,vb]) f W ⟨vp,vs,vb,rfl,(hp.below D).mono D.size,(hs.below D).mono D.size,(Q.below D).mono D.size⟩ hnice);have HF:Hid (∀wr,Gr W wr->wr.heap[w.heap.size]?=some (.cells #[vp,.int .i64 f.ret,vs,vb] 36 (0,0))/\wr.heap[w.heap.size+1]?=some (.cells #[va,vm] 41 (0,0))):=fun wr g=>⟨(g.heap _ (cY T)).trans T,(g.heap _ (cY X)).trans X⟩;obtain⟨Ap,cp,rfl,p1,p2,p3⟩:=hp;obtain⟨As,cs,rfl,s1,s2,s3⟩:=hs;obtain⟨Ab,cb,rfl,-,-,-⟩:=id Q;obtain⟨Aa,ca,rfl,a1,a2,a3⟩:=ha;obtain⟨Am,cm,rfl,m1,m2,m3⟩:=hm
 have ax:Hid (∀wr,Gr W wr->∀j z,f.p[j]?=some z->∃b o,Ap=some ⟨b,o,none⟩/\wr.cell? ⟨b,o+j,none⟩=some (.int .i64 z)):=fun wr g j z p=>by obtain⟨b,o,e,Q,O⟩:=p3 (by have:=(xS.1 p).1;omega);exact⟨b,o,e,((D.trans g).cell _ _ (by omega)).trans (O j z p)⟩
 have ay:Hid (∀wr,Gr W wr->∀j z,f.s[j]?=some z->∃b o,As=some ⟨b,o,none⟩/\wr.cell? ⟨b,o+j,none⟩=some (.int .i64 z)):=fun wr g j z p=>by obtain⟨b,o,e,Q,O⟩:=s3 (by have:=(xS.1 p).1;omega);exact⟨b,o,e,((D.trans g).cell _ _ (by omega)).trans (O j z p)⟩
 have ap:Hid (∀wr,Gr W wr->∀j z,i.args[j]?=some z->∃b o,Aa=some ⟨b,o,none⟩/\wr.cell? ⟨b,o+j,none⟩=some (.int .u32 z)):=fun wr g j z p=>by obtain⟨b,o,e,Q,O⟩:=a3 (by have:=(xS.1 p).1;omega);exact⟨b,o,e,((D.trans g).cell _ _ (by omega)).trans (O j z p)⟩
 have ar:Hid (∀wr,Gr W wr->∀j l,i.mem[j]?=some l->∃b o Al cl,Am=some ⟨b,o,none⟩/\wr.cell? ⟨b,o+j,none⟩=some (.slice Al l.length cl)/\l.length<=17592186044416/\Calls prog 88 #[.slice Al l.length cl,.func (.func 117) #[] #[]] wr (RG (.bool (l.any fun b=>decide (b < -1) || decide (255<b))) wr)):=fun wr g j l hl=>by obtain⟨b,o,e,Q,O⟩:=m3 (by have:=(xS.1 hl).1;omega);obtain⟨u,hu,am⟩:=O j l hl;have an:=am;obtain⟨Al,cl,rfl,-,h6,-⟩:=an;exact⟨b,o,Al,cl,e,((D.trans g).cell _ _ (by omega)).trans hu,h6,wN (am.below (D.trans g))⟩
 have B:=dJ D;obtain⟨R,hR⟩:=xJ (AB f i);rw[hR];unfold AB at hR;have HR:=dJ hR;obtain⟨V,hV⟩:=xJ (zL f);rw[hV]at CV HR;have HV:=dJ hV
 have S:∀wr,Gr W wr->C6 wr w.heap.size (.slice Ap f.p.length cp) (.int .i64 f.ret) (.slice As f.s.length cs) (.slice Ab f.b.length cb) (.slice Aa i.args.length ca) (.slice Am i.mem.length cm):=fun wr g=>by obtain⟨q1,q2⟩:=HF.out wr g;exact⟨yo _ _ 0 _ _ _ q1,yo _ _ 1 _ _ _ q1,yo _ _ 2 _ _ _ q1,yo _ _ 3 _ _ _ q1,yo _ _ 0 _ _ _ q2,yo _ _ 1 _ _ _ q2⟩
 have HC:=dJ S;obtain⟨k0,k1,k2,k3,k4,k5⟩:=S W (yO _);clear D T X p3 s3 a3 m3 hR hV S al Q;by_cases ao:V=0
 ·subst ao
  have HW:Hid (∀j z,f.p[j]?=some z->zi z):=fun j z p=>by have hv:FB f:=(Jt f).1 HV.out;exact Fj (ym.1 hv.head.1 z (xT p))
  by_cases d:i.args.length=f.p.length
  ·by_cases A:i.mem.length=f.s.length
   ·have ae:Hid ((if (f.p.zip i.args).any (fun q=>decide (m9 q.1<=q.2))=true then 1 else if (f.s.zip i.mem).any (fun q=>decide ((q.2.length:Int)≠q.1) || q.2.any (fun b=>decide (b < -1) || decide (255<b)))=true then 1 else 0)=R):=by
     have:=HR.out;rw[yt (by decide),yt (by omega)]at this;exact this
    obtain⟨n,Y⟩:=xJ f.p.length;obtain⟨m,hm⟩:=xJ f.s.length;rw[Y]at d p1 p2 k0;rw[hm]at A s1 s2 k2;rw[d]at a1 a2 k4;rw[A]at m1 m2 k5
    have ab:Hid (∀wr,Gr W wr->wr.cell? ⟨w.heap.size,0,none⟩=some (.slice Ap n cp)/\wr.cell? ⟨w.heap.size,2,none⟩=some (.slice As m cs)/\wr.cell? ⟨w.heap.size+1,0,none⟩=some (.slice Aa n ca)/\wr.cell? ⟨w.heap.size+1,1,none⟩=some (.slice Am m cm)):=fun wr g=>by obtain⟨q0,q1,q2,q3,q4,q5⟩:=HC.out wr g;rw[Y]at q0;rw[hm]at q2;rw[d]at q4;rw[A]at q5;exact⟨q0,q2,q4,q5⟩
    have ac:=dJ Y;have ad:=dJ hm;have au:=dJ d;have av:=dJ A;rw[Y,hm,d,A]at hW;rw[Y,hm]at CV;rw[Y,hm,d,A];clear d A Y hm
    go_enter func78, ntmps78
    go_wp2_with (go_at_call 42;refine CV.out.mono ?_;rintro e L ⟨rfl,K⟩;obtain⟨j0,j2,j4,j5⟩:=ab.out L K;have t:=dJ K)
    have aw:Hid (∀k z x,f.p[k]?=some z->i.args[k]?=some x->m9 z<=x->R=1):=fun k z x r y h3=>by rw[<-ae.out,yr (Hu r y (by simpa using h3))]
    go_loop [36] (fun Z=>∃k:Nat,k<=n/\Z=.int .i64 (k:Int)/\Hid (∀j z x,j<k->f.p[j]?=some z->i.args[j]?=some x->x<m9 z)) (fun Z=>n-(intOf Z).toNat)
    case atStart=>exact⟨0,yI _,rfl,(fun j z x h=>absurd h (Nat.not_lt_zero _))⟩
    case round =>
     obtain⟨k,hk,rfl,F⟩:=hrel;by_cases ak:k<n
     ·obtain⟨z,p⟩:∃z,f.p[k]?=some z:=⟨_,xR (by have:=ac.out;omega)⟩;obtain⟨x,hx⟩:∃x,i.args[k]?=some x:=⟨_,xR (by have:=au.out;omega)⟩;obtain⟨bp,op,rfl,cz⟩:=ax.out L t.out k z p;obtain⟨ba,oa,rfl,cx⟩:=ap.out L t.out k x hx;have CM:=dJ (lf z L (HW.out k z p));have M:=dJ (aw.out k z x p hx)
      have H:Hid (x<m9 z->∀j z x,j<k+1->f.p[j]?=some z->i.args[j]?=some x->x<m9 z):=fun h j z' x' hj r y=>by
       rcases yw j k with q|q
       ·exact F.out j z' x' q r y
       ·obtain rfl:j=k:=by omega
        rw[p]at r;rw[hx]at y;injection r with r;injection y with y;subst r;subst y;exact h
      obtain⟨s,hs⟩:=xJ (m9 z);rw[hs]at CM M H;clear p hx hs;by_cases ag:s<=x
      ·have C:Hid (R=1):=M.out ag;have az:s-1<x:=by omega
       go_wp2_with (go_at_call 116;refine CM.out.mono ?_;rintro e w2 ⟨rfl,rfl⟩);go_ret;exact⟨dg C.out.symm,B.out.trans t.out⟩
      ·have az:¬s-1<x:=by omega
       have I:=dJ (H.out (by omega));go_wp2_with (go_at_call 116;refine CM.out.mono ?_;rintro e w2 ⟨rfl,rfl⟩);go_round;case rel=>exact⟨k+1,by omega,by go_num,I⟩
       case measure=>simp[intOf];omega
     ·obtain rfl:n=k:=by omega
      have af:Hid ((if (f.s.zip i.mem).any (fun q=>decide ((q.2.length:Int)≠q.1) || q.2.any (fun b=>decide (b < -1) || decide (255<b)))=true then 1 else 0)=R):=by
       show _=_;have h:=ae.out
       rw[Gx (fun j a b r y=>by
         have hj:=(xS.1 r).1
         have:=F.out j a b (by have:=ac.out;omega) r y
         simpa using this)]at h
       simpa using h
      clear F ak hk;go_wp2
      go_loopw [57] (fun aa wr=>∃k:Nat,k<=m/\aa=.int .i64 (k:Int)/\Hid (Gr W wr)/\Hid (∀j z l,j<k->f.s[j]?=some z->i.mem[j]?=some l->(decide ((l.length:Int)≠z) || l.any (fun b=>decide (b < -1) || decide (255<b)))=false)) (fun aa _=>m-(intOf aa).toNat)
      case atStart=>exact⟨0,yI _,rfl,t,(fun j z x h=>absurd h (Nat.not_lt_zero _))⟩
      case round =>
       obtain⟨k,hk,rfl,U,F⟩:=hrel;obtain⟨q0,q2,q4,q5⟩:=ab.out wr U.out;by_cases ak:k<m
       ·obtain⟨z,p⟩:∃z,f.s[k]?=some z:=⟨_,xR (by have:=ad.out;omega)⟩;obtain⟨l,hl⟩:∃l,i.mem[k]?=some l:=⟨_,xR (by have:=av.out;omega)⟩;obtain⟨bs,os,rfl,cz⟩:=ay.out wr U.out k z p;obtain⟨bm,om,Al,cl,rfl,cx,aC,J⟩:=ar.out wr U.out k l hl;have CC:=dJ J
        have G:Hid ((decide ((l.length:Int)≠z) || l.any (fun b=>decide (b < -1) || decide (255<b)))=true->R=1):=fun h=>by rw[<-af.out,yr (Hu p hl h)]
        have H:Hid ((decide ((l.length:Int)≠z) || l.any (fun b=>decide (b < -1) || decide (255<b)))=false->∀j z l,j<k+1->f.s[j]?=some z->i.mem[j]?=some l->(decide ((l.length:Int)≠z) || l.any (fun b=>decide (b < -1) || decide (255<b)))=false):=fun h j z' l' hj r y=>by
         rcases yw j k with q|q
         ·exact F.out j z' l' q r y
         ·obtain rfl:j=k:=by omega
          rw[p]at r;rw[hl]at y;injection r with r;injection y with y;subst r;subst y;exact h
        obtain⟨bd,ah⟩:∃bd,l.any (fun b=>decide (b < -1) || decide (255<b))=bd:=⟨_,rfl⟩;rw[ah]at CC G H;clear p hl J ah;by_cases E:(l.length:Int)=z
        ·have ai:((l.length:Int) != z)=false:=by simp[E]
         have aq:=dJ E;clear E
         cases bd with
         | true =>
          have C:Hid (R=1):=G.out (by simp);go_wp2_with (go_at_call 88;refine CC.out.mono ?_;rintro e w2 ⟨rfl,g2⟩);go_ret;exact⟨dg C.out.symm,B.out.trans (U.out.trans g2)⟩
         | false =>
          have I:=dJ (H.out (by simp[aq.out]));go_wp2_with (go_at_call 88;refine CC.out.mono ?_;rintro e w2 ⟨rfl,g2⟩;have G2:=dJ (U.out.trans g2));refine⟨⟨k+1,by omega,by go_num,G2,I⟩,by simp[intOf];omega⟩
        ·have ai:((l.length:Int) != z)=true:=by simpa using E
         have C:Hid (R=1):=G.out (by simp[E]);clear E;go_wp2;go_ret;exact⟨dg C.out.symm,B.out.trans U.out⟩
       ·obtain rfl:m=k:=by omega
        have C:Hid (R=0):=by
         show _=_
         rw[<-af.out,Gx (fun j a b r y=>by
           have hj:=(xS.1 r).1
           exact F.out j a b (by have:=ad.out;omega) r y)]
         rfl
        go_wp2;go_ret;exact⟨dg C.out.symm,B.out.trans U.out⟩
   ·have C:Hid (R=1):=by show _=_;rw[<-HR.out,yt (by decide),yr (.inr A)]
    have aj:¬((i.mem.length:Int)=(f.s.length:Int)):=by omega
    have N:(i.args.length:Int)=(f.p.length:Int):=by omega
    have aA:((i.args.length:Int) != (f.p.length:Int))=false:=by simp[d]
    have aB:((i.mem.length:Int) != (f.s.length:Int))=true:=by simp;omega
    clear d N aj
    go_enter func78, ntmps78
    go_wp2_with (go_at_call 42;refine CV.out.mono ?_;rintro e L ⟨rfl,K⟩;obtain⟨j0,j1,j2,j3,j4,j5⟩:=HC.out L K;have t:=dJ K);go_ret;exact⟨dg C.out.symm,B.out.trans t.out⟩
  ·have C:Hid (R=1):=by show _=_;rw[<-HR.out,yt (by decide),yr (.inl d)]
   have N:¬((i.args.length:Int)=(f.p.length:Int)):=by omega
   go_enter func78, ntmps78
   go_wp2_with (go_at_call 42;refine CV.out.mono ?_;rintro e L ⟨rfl,K⟩;obtain⟨j0,j1,j2,j3,j4,j5⟩:=HC.out L K;have t:=dJ K);go_ret;exact⟨dg C.out.symm,B.out.trans t.out⟩
 ·have C:Hid (R=V):=by show _=_;rw[<-HR.out,yr ao]
  go_enter func78, ntmps78
  go_wp2_with (go_at_call 42;refine CV.out.mono ?_;rintro e L ⟨rfl,K⟩);go_ret;exact⟨dg C.out.symm,B.out.trans K⟩
theorem lE {a b:World}(g:Gr w a)(h:FrS S a b)(hS:∀k,S k->w.heap.size<=k):Gr w b :=
 ⟨h.os.trans g.os,h.tape.trans g.tape,h.output.trans g.output,Nat.le_trans g.size h.size,fun k d=>(h.block k (by have:=g.size;omega) (fun q=>by have:=hS k q;omega)).trans (g.heap k d)⟩
theorem U32At.below {w':World}(h:U32At B w v zs)(hb:Below B w w'):U32At B w' v zs :=
 SlAt.imp h fun b off d g j z l=>(hb.cell (p:=⟨b,off+j,none⟩) d).trans (g j z l)
theorem vC {i:CG}(h:IP f i p)(hk:DG (AW p (Bq f i p).length) (Bq f i p) (Bq f i p).length=some k) :
  IP f i (FM (AW p (Bq f i p).length) k)/\(Bq f i (FM (AW p (Bq f i p).length) k)).take (FM (AW p (Bq f i p).length) k).length=(Bq f i p).take (k+1):=by
 obtain⟨d,t,g⟩:=KI h hk;have j:=(JE _ _ _ _ hk).1;refine⟨d,?_⟩;rw[LA (by rw[FX h.1];exact j),<-g,List.take_append_of_le_length (by rw[List.length_take];omega),List.take_take,Nat.min_self]
def qj (f:Fn)(i:CG)(B Bg:Nat)(R:Option (List zO))(n:Nat)(v:Value)(w:World):Prop :=
 ∃(D:Nat->Prop)(vp vw:Value)(vms:List Value)(p:List Int)(outs:List zO),Rd D B Bg w v vp vw vms p ((Bq f i p).take p.length) 0 outs/\IP f i p/\Gn outs/\outs.length+1<=n/\E6 f i (257-n) p outs=R
theorem lY {i:CG}{Bg:Nat}{R:Option (List zO)}{vp vw:Value}{outs:List zO}
  (hRA:Gv) (hf:VFn f) (hin:AB f i=0) (ha:∀a∈i.args,0<=a) (hg:IP f i p) (ho:Gn outs) (hn:outs.length+1<=n) (hn2:n<257) (he:E6 f i (257-n) p outs=R)
  (h:Rd D B Bg w v vp vw vms (AW p (Bq f i p).length) (Bq f i p) (Bq f i p).length (Cm (DC f (zo p) i).1 outs)) {N:Option Nat} (hN:DG (AW p (Bq f i p).length) (Bq f i p) (Bq f i p).length=N) :
  Calls prog 84 #[.pointer (some ⟨Bg,0,none⟩)] w fun e w'=>e=.returned (.bool N.isSome)/\FrS (fun k=>B<=k) w w' /\
   (N=none->∃outs',R=some outs'/\outs'.length<=256/\Gn outs'/\OutsAt D B w' v outs' vms)/\(N.isSome=true->qj f i B Bg R (n+1) v w'):=by
 obtain⟨K,u,L,M⟩:=IK hRA hf.val hf.im hin ha p;have j:(AW p (Bq f i p).length).length=(Bq f i p).length:=FX hg.1;have C:=IL (DC f (zo p) i).1 outs;have d:=IE (DC f (zo p) i).1 outs ho;obtain⟨m,E⟩:∃m,257-n=m+1:=⟨256-n,by omega⟩;rw[E]at he;obtain⟨y,z⟩:=FD he;refine(oT h.ex j.symm (by omega) u (Jd hg u) (R:=N) (by rw[j];exact hN)).mono ?_;rintro e w' ⟨rfl,l,J,A⟩;refine⟨rfl,l.mono fun k g=>(lA h.ex g).1,fun hn0=>⟨_,y (by rw[hN];exact hn0),by omega,d,h.at_.frs l (fun k g q=>(h.dlt k g).2.2.1 q) (fun k g q=>h.vo k g q)⟩,fun hs=>?_⟩;obtain⟨k,rfl⟩:∃k,N=some k:=Option.isSome_iff_exists.1 hs;obtain⟨r,t,F,G⟩:=A k rfl;obtain⟨H,I⟩:=vC hg hN;refine⟨D,r,t,vms,_,_,?_,H,d,by omega,by rw[show 257-(n+1)=m by omega];exact z k hN⟩;rw[I];exact h.next F l G
def AllP (f:Fn)(i:CG)(B:Nat)(e:Ending)(w':World):Prop :=
 (AB f i≠0/\e=.returned (.tuple #[.slice none 0 0,.int .i64 (AB f i)])) \/
 (AB f i=0/\Rn.all f i=none/\e=.returned (.tuple #[.slice none 0 0,.int .i64 3])) \/
 (AB f i=0/\∃outs,Rn.all f i=some outs/\outs.length<=256/\Gn outs/\∃(v:Value)(D:Nat->Prop)(vms:List Value),e=.returned (.tuple #[v,.int .i64 0])/\OutsAt D B w' v outs vms)
theorem qm (hfn:FnAt w.heap.size w vf f)(hnice:gT f)(him:Hh f){i:CG}{va:Value}(ha:U32At w.heap.size w va i.args)(hm:TabAt w.heap.size w vm i.mem)(hnn:∀a∈i.args,0<=a) :
  Calls prog 52 #[vf,.agg #[va,vm]] w fun e w'=>AllP f i (w.heap.size+2) e w'/\Gr w w':=by
 obtain⟨vp,vs,vb,rfl,hp,hs,hb⟩:=hfn;have aQ:Hid (FnAt w.heap.size w (.agg #[vp,.int .i64 f.ret,vs,vb]) f):=⟨vp,vs,vb,rfl,hp,hs,hb⟩;have HA:=dJ ha;have HM:=dJ hm;have ad:=dJ hnn;obtain⟨W,hW⟩:=xJ ((w.alloc (.cells #[vp,.int .i64 f.ret,vs,vb] 36)).alloc (.cells #[va,vm] 41));have B:Gr w W:=by rw[<-hW];exact((yO w).alloc _).alloc _
 have aK:(w.alloc (.cells #[vp,.int .i64 f.ret,vs,vb] 36)).heap.size=w.heap.size+1:=by simp
 have aD:W.heap.size=w.heap.size+2:=by rw[<-hW];simp
 have aj:W.heap[w.heap.size]?=some (.cells #[vp,.int .i64 f.ret,vs,vb] 36 (0,0)):=by rw[<-hW];exact(((yO (w.alloc (.cells #[vp,.int .i64 f.ret,vs,vb] 36))).alloc _).heap _ (by simp)).trans (heap_alloc_new w _)
 have ak:W.heap[w.heap.size+1]?=some (.cells #[va,vm] 41 (0,0)):=by rw[<-hW,<-aK];exact heap_alloc_new _ _
 have CV:=dJ (pX (w:=W) (f:=f) (vf:=.agg #[vp,.int .i64 f.ret,vs,vb]) (i:=i) (va:=va) (vm:=vm) ⟨vp,vs,vb,rfl,(hp.below B).mono B.size,(hs.below B).mono B.size,(hb.below B).mono B.size⟩ hnice (SlAt.mono (U32At.below ha B) B.size) ((hm.below B).mono B.size));have HB:Hid (∀wr,Gr W wr->wr.heap[w.heap.size]?=some (.cells #[vp,.int .i64 f.ret,vs,vb] 36 (0,0))/\wr.heap[w.heap.size+1]?=some (.cells #[va,vm] 41 (0,0))):=fun wr g=>⟨(g.heap _ (cY aj)).trans aj,(g.heap _ (cY ak)).trans ak⟩
 have ah:∀wr,Gr W wr->C6 wr w.heap.size vp (.int .i64 f.ret) vs vb va vm:=fun wr g=>by obtain⟨q1,q2⟩:=HB.out wr g;exact⟨yo _ _ 0 _ _ _ q1,yo _ _ 1 _ _ _ q1,yo _ _ 2 _ _ _ q1,yo _ _ 3 _ _ _ q1,yo _ _ 0 _ _ _ q2,yo _ _ 1 _ _ _ q2⟩
 have HC:=dJ ah;obtain⟨k0,k1,k2,k3,k4,k5⟩:=ah W (yO _);have G:=dJ B;have au:=dJ aD;obtain⟨Ap,cp,rfl,-⟩:=id hp;obtain⟨As,cs,rfl,-⟩:=id hs;obtain⟨Ab,cb,rfl,-⟩:=id hb;obtain⟨Aa,ca,rfl,-⟩:=id ha;obtain⟨Am,cm,rfl,-⟩:=id hm;obtain⟨V,hV⟩:=xJ (AB f i);rw[hV]at CV;have L:=dJ hV;clear B aj ak hV ah aK hp hs hb aD ha hm hnn;by_cases aL:V=0
 ·subst aL;have hf:VFn f:=⟨(FC L.out).1,him⟩
  go_enter func52, ntmps52
  go_wp2_with (go_at_call 78;refine CV.out.mono ?_;rintro e C ⟨rfl,g1⟩;obtain⟨j0,j1,j2,j3,j4,j5⟩:=HC.out C g1;have a2:=dJ g1);obtain⟨O,ag⟩:=xJ (C.alloc (.cells #[.slice none 0 0,.slice none 0 0,.int .i64 0] 101));obtain⟨R,hR⟩:=xJ (Rn.all f i);have g3:Gr C O:=by rw[<-ag];exact(yO C).alloc _
  have aF:O.heap[C.heap.size]?=some (.cells #[.slice none 0 0,.slice none 0 0,.int .i64 0] 101 (0,0)):=by rw[<-ag];exact heap_alloc_new _ _
  have ae:w.heap.size+2<=C.heap.size:=by have:=g1.size;have:=au.out;omega
  have aS:Hid (qj f i (w.heap.size+2) C.heap.size R 1 (.slice none 0 0) O) :=
   ⟨fun _=>False,.slice none 0 0,.slice none 0 0,[],[],[],⟨⟨aF,Own1.nil _ _ _,Own1.nil _ _ _,ae⟩,⟨rfl,⟨rfl,.inl ⟨rfl,rfl⟩⟩,fun j o vm h=>by simp at h⟩,fun k A=>A.elim,fun k A=>by cases A⟩,K8 f i,by unfold Gn;exact List.Pairwise.nil,yJ _,hR⟩
  have HR:=dJ hR;have y:=dJ (g1.trans g3);have a1:=dJ ae
  have aP:Hid (∀wr,FrS (fun k=>w.heap.size+2<=k) O wr->C6 wr w.heap.size (.slice Ap f.p.length cp) (.int .i64 f.ret) (.slice As f.s.length cs) (.slice Ab f.b.length cb) (.slice Aa i.args.length ca) (.slice Am i.mem.length cm)):=fun wr I=>by obtain⟨q1,q2⟩:=HB.out O y.out;have r1:=(I.block _ (cY q1) (by omega)).trans q1;have r2:=(I.block _ (cY q2) (by omega)).trans q2;exact⟨yo _ _ 0 _ _ _ r1,yo _ _ 1 _ _ _ r1,yo _ _ 2 _ _ _ r1,yo _ _ 3 _ _ _ r1,yo _ _ 0 _ _ _ r2,yo _ _ 1 _ _ _ r2⟩
  clear aF ae g3 hR g1 j0 j1 j2 j3 j4 j5 k0 k1 k2 k3 k4 k5;go_wp2
  go_loopw [8,9] (fun s8 s9 wr=>∃n:Nat,1<=n/\n<=257/\s9=.int .i64 (n:Int)/\Hid (qj f i (w.heap.size+2) C.heap.size R n s8 wr)/\Hid (FrS (fun k=>w.heap.size+2<=k) O wr)) (fun _ s9 _=>257-(intOf s9).toNat)
  case atStart=>rw[ag];exact⟨1,yJ _,by decide,rfl,aS,FrS.refl _ _⟩
  case round =>
   obtain⟨n,a9,ba,rfl,hI,I⟩:=hrel;by_cases aH:n=257
   ·subst aH
    have HE:Hid (R=none):=by obtain⟨D,aZ,a0,aO,p,d,-,-,-,-,h⟩:=hI.out;exact h.symm
    have aR:Hid (Gr w wr):=lE (G.out.trans y.out) I.out (fun k A=>by omega);clear hI I;go_wp2;go_ret2;exact⟨.inr (.inl ⟨L.out,HR.out.trans HE.out,rfl⟩),aR.out⟩
   ·have Z:n<257:=by omega
    have bb:(n:Int)<=256:=by omega
    obtain⟨D,aZ,a0,aO,p,d,ax,ay,az,aA,aB⟩:=hI.out;have aT:=dJ ax;have ac:=dJ ay;have H:=dJ az;have N:=dJ aA;have aq:=dJ aB;clear ax ay az aA aB aH;have aW:FrS (fun k=>w.heap.size+2<=k) O wr.drew:=I.out.drew;have ap:Hid (Below w.heap.size w wr):=lE (G.out.trans y.out) I.out (fun k A=>by omega);obtain⟨X,hX⟩:=xJ ((DC f (zo p) i).1);obtain⟨Nx,aC⟩:=xJ (DG (AW p (Bq f i p).length) (Bq f i p) (Bq f i p).length);have HX:=dJ hX;have ar:=dJ aC
    have CS:Hid (∀u:World,Gr wr u->Calls prog 79 #[.agg #[.slice Ap f.p.length cp,.int .i64 f.ret,.slice As f.s.length cs,.slice Ab f.b.length cb],.agg #[.slice Aa i.args.length ca,.slice Am i.mem.length cm],.iface 99 (.pointer (some ⟨C.heap.size,0,none⟩))] u fun e w4=>∃c:Cfg,e=.returned (.pointer (some ⟨c.Bs,0,none⟩))/\∀u2,Gr w4 u2 ->
        Calls prog 80 #[.pointer (some ⟨c.Bs,0,none⟩)] u2 fun e w'=>∃vx,e=.returned (eW X vx)/\∃(D':Nat->Prop)(T U:Value),Rd D' (w.heap.size+2) C.heap.size w' u8 T U aO (AW p (Bq f i p).length) (Bq f i p) (Bq f i p).length d/\Keeps D' w' vx X.mem/\FrS (fun k=>w.heap.size+2<=k) wr w'):=fun u gu=>by
     have am:Below w.heap.size w u:=ap.out.trans (Below.mono gu (by have:=ap.out.size;omega));refine(pC (B0:=w.heap.size+2) (f:=f) (i:=i) ((aQ.out.below am).mono (by omega)) (by have:=gu.size;have:=I.out.size;have:=y.out.size;have:=au.out;omega) hf (SlAt.mono (U32At.below HA.out am) (by omega)) ((HM.out.below am).mono (by omega)) L.out _ _).mono ?_;rintro e w4 ⟨c,cn,cf,aV,rfl,aX,g4,hK,a8⟩;refine⟨c,rfl,fun u2 g2=>?_⟩;rw[<-hX];refine(ud aT.out ac.out lX hf L.out ad.out ((gu.trans g4).trans g2) cn cf aV (aX.gr g2) (fun k A=>by have:=hK k A;have:=gu.size;omega) (by have:=g2.size;omega)).mono ?_;rintro e w' ⟨vx,rfl,D',T,U,r1,r2,r3⟩;exact⟨vx,rfl,D',T,U,r1,r2,(FrS.of_gr ((gu.trans g4).trans g2)).trans r3⟩
    obtain⟨Bl,af⟩:=xJ (EG X d);obtain⟨F,aw⟩:∃F,decide (d[Bl]?=some X)=F:=⟨_,rfl⟩;have M:=dJ af;have ab:=dJ aw;have ao:Hid (Bl<=d.length):=by show _<=_;rw[<-af];exact JQ X d
    obtain⟨j0,j1,j2,j3,j4,j5⟩:=aP.out wr I.out;clear aW hX aC af aw;unfold eW at CS;cases F;all_goals cases Nx
    all_goals
     go_wp2_with (first
       | (go_at_call 79;refine(CS.out _ (by first|exact(yO wr).drew|exact yO wr)).mono ?_;rintro e w4 ⟨c,rfl,aE⟩;have CO:=dJ aE;clear aE)
       | (go_at_call 80;refine(CO.out _ (yO w4)).mono ?_;rintro e w5 ⟨vx,rfl,D',T,U,aJ,al,aG⟩;obtain⟨Ax,cx,rfl⟩:=al.2.1;have RD:=dJ aJ;have KP:=dJ al;have FR:=dJ aG;clear aJ al aG)
       | (go_at_call 81
          obtain⟨W6,Q⟩:=xJ (w5.alloc (.cells #[.int .i64 X.kind,.bool X.ret.p,.int .i64 X.ret.s,.int .u32 X.ret.n,.slice Ax X.mem.length cx] 27))
          have G6:Hid (Gr w5 W6):=by show Gr _ _;rw[<-Q];exact(yO w5).alloc _
          have BX:Hid (∀u,Gr W6 u->_):=fun u gu=>dz (w:=w5) (o:=X) (vm:=.slice Ax X.mem.length cx) (w':=u) (by show Gr (w5.alloc _) u;rw[Q];exact gu)
          rw[Q]
          have BS:=dJ (mA ((RD.out.gr G6.out).at_) (by have:=N.out;omega) H.out (KP.out.gr G6.out))
          rw[M.out,ab.out]at BS
          unfold eW at BS
          (with_reducible refine BS.out.mono ?_)
          rintro e K ⟨rfl,Y⟩
          have G7:Hid (Gr w5 K):=G6.out.trans Y
          obtain⟨b0,b1,b2,b3,b4⟩:=BX.out K Y
          have a3:=fun o=>(BX.out (K.alloc o) (Y.alloc o)).1
          have a4:=fun o=>(BX.out (K.alloc o) (Y.alloc o)).2.1
          have a5:=fun o=>(BX.out (K.alloc o) (Y.alloc o)).2.2.1
          have a6:=fun o=>(BX.out (K.alloc o) (Y.alloc o)).2.2.2.1
          have a7:=fun o=>(BX.out (K.alloc o) (Y.alloc o)).2.2.2.2
          clear Y BS Q)
       | (go_at_call 83
          obtain⟨W8,S⟩:=xJ (K.alloc (.cells #[.int .i64 X.kind,.bool X.ret.p,.int .i64 X.ret.s,.int .u32 X.ret.n,.slice Ax X.mem.length cx] 27))
          have G8:Hid (Gr w5 W8):=by show Gr _ _;rw[<-S];exact G7.out.alloc _
          have aN:W8.heap[K.heap.size]?=some (.cells (kU X (.slice Ax X.mem.length cx)).toArray 27 (0,0)):=by rw[<-S];exact heap_alloc_new _ _
          have aY:w5.heap.size<=K.heap.size:=G7.out.size
          rw[S]
          have z:=RD.out.gr G8.out
          have av:w.heap.size+2<=W8.heap.size:=by have:=lA z.ex (k:=C.heap.size) (Or.inl rfl);omega
          have CI:=dJ (tG z.at_ av (by have:=N.out;omega) ao.out (KP.out.gr G8.out) aN (fun q=>by have:=(dt RD.out.at_.own _ q).2;omega) (fun k A=>(z.dlt k A).2.2.2))
          (with_reducible refine CI.out.mono ?_)
          rintro e w9 ⟨A9,c9,rfl,aI,ai,aM⟩
          have r:=z.insert aI ai aM
          rw[<-M.out,<-Jq X d H.out (by have:=ab.out;rw[<-M.out]at this;simpa using this),<-HX.out]at r
          have aU:=dJ r
          have aa:Hid (FrS (fun k=>w.heap.size+2<=k) wr w9):=(FR.out.trans (FrS.of_gr G8.out)).trans (ai.mono fun k A=>(dt z.at_.own k A).1)
          clear r z aI ai aM aN aY S CI av)
       | (go_at_call 84
          have CN:=dJ (lY lX hf L.out ad.out ac.out H.out N.out Z aq.out aU.out ar.out)
          (with_reducible refine CN.out.mono ?_)
          rintro e an ⟨he,J,l,m⟩
          simp only[Option.isSome_none,Option.isSome_some]at he
          subst he
          have EN:=dJ l
          have ES:=dJ m
          have E:Hid (FrS (fun k=>w.heap.size+2<=k) O an):=I.out.trans (aa.out.trans J)
          clear J l m)
       | (go_at_call 84
          have r:=RD.out.gr G7.out
          rw[<-IF X d H.out (by have:=ab.out;rw[<-M.out]at this;simpa using this),<-HX.out]at r
          have aa:Hid (FrS (fun k=>w.heap.size+2<=k) wr K):=FR.out.trans (FrS.of_gr G7.out)
          have CN:=dJ (lY lX hf L.out ad.out ac.out H.out N.out Z aq.out r ar.out)
          (with_reducible refine CN.out.mono ?_)
          rintro e an ⟨he,J,l,m⟩
          simp only[Option.isSome_none,Option.isSome_some]at he
          subst he
          have EN:=dJ l
          have ES:=dJ m
          have E:Hid (FrS (fun k=>w.heap.size+2<=k) O an):=I.out.trans (aa.out.trans J)
          clear J l m r))
    ·go_ret2;obtain⟨t,e1,e2,e3,e4⟩:=EN.out trivial;exact⟨.inr (.inr ⟨L.out,t,HR.out.trans e1,e2,e3,_,_,_,rfl,e4⟩),lE (G.out.trans y.out) E.out (fun k A=>by omega)⟩
    ·exact⟨⟨n+1,by omega,by omega,by go_num,ES.out rfl,E⟩,by simp[intOf];omega⟩
    ·go_ret2;obtain⟨t,e1,e2,e3,e4⟩:=EN.out trivial;exact⟨.inr (.inr ⟨L.out,t,HR.out.trans e1,e2,e3,_,_,_,rfl,e4⟩),lE (G.out.trans y.out) E.out (fun k A=>by omega)⟩
    ·exact⟨⟨n+1,by omega,by omega,by go_num,ES.out rfl,E⟩,by simp[intOf];omega⟩
 ·go_enter func52, ntmps52
  go_wp2_with (go_at_call 78;refine CV.out.mono ?_;rintro e C ⟨rfl,g1⟩);go_ret2;exact⟨.inl ⟨by rw[L.out];exact aL,by rw[L.out];rfl⟩,G.out.trans g1⟩
theorem nN {W:World}{p0 p1 p2 p3 va:Value}(h:(w.alloc (.cells #[p0,p1,p2,p3] 36)).alloc (.cells #[va,vm] 41)=W):Gr w W/\W.heap.size=w.heap.size+2 /\
  ∀wr,Gr W wr->C6 wr w.heap.size p0 p1 p2 p3 va vm:=by
 subst h;have e:(w.alloc (.cells #[p0,p1,p2,p3] 36)).heap.size=w.heap.size+1:=by simp
 refine⟨((yO w).alloc _).alloc _,by simp,fun wr g=>?_⟩;have d:wr.heap[w.heap.size]?=some (.cells #[p0,p1,p2,p3] 36 (0,0)):=(g.heap w.heap.size (by simp;omega)).trans ((((yO (w.alloc (.cells #[p0,p1,p2,p3] 36))).alloc (.cells #[va,vm] 41)).heap _ (by simp)).trans (heap_alloc_new w _));have j:wr.heap[w.heap.size+1]?=some (.cells #[va,vm] 41 (0,0)):=(g.heap (w.heap.size+1) (by simp)).trans (by rw[<-e];exact heap_alloc_new (w.alloc (.cells #[p0,p1,p2,p3] 36)) (.cells #[va,vm] 41));exact⟨yo _ _ 0 _ _ _ d,yo _ _ 1 _ _ _ d,yo _ _ 2 _ _ _ d,yo _ _ 3 _ _ _ d,yo _ _ 0 _ _ _ j,yo _ _ 1 _ _ _ j⟩
structure GotV (u:World)(Bv Bh n:Nat)(s:AN):Prop where
 ln:s.v.length=n
 hl:s.had.length=n
 hv:u.heap[Bv]?=some (.cells (dB s.v).toArray 24 (0,0))
 hh:u.heap[Bh]?=some (.cells (s.had.map Value.bool).toArray 4 (0,0))
theorem GotV.cells {u:World}{Bv Bh:Nat}{s:AN}(h:GotV u Bv Bh n s){v:Nat}(hv:v<n):u.cell? ⟨Bv,v*3,none⟩=some (.bool (s.get v).p)/\u.cell? ⟨Bv,v*3+1,none⟩=some (.int .i64 (s.get v).s)/\u.cell? ⟨Bv,v*3+2,none⟩=some (.int .u32 (s.get v).n)/\u.cell? ⟨Bh,v,none⟩=some (.bool (s.had.getD v false)):=by
 have l:=h.ln;have m:=h.hl
 have e:s.v[v]?=some (s.get (v:Int)):=by unfold AN.get;rw[ya,xU,xR (by omega)];rfl
 obtain⟨d,g,j⟩:=dX _ _ _ e;rw[Nat.mul_comm]at d g j;refine⟨(yo _ _ _ _ _ _ h.hv).trans (by simpa using d),(yo _ _ _ _ _ _ h.hv).trans (by simpa using g),(yo _ _ _ _ _ _ h.hv).trans (by simpa using j),(yo _ _ _ _ _ _ h.hh).trans ?_⟩;rw[xU];simp[show v<s.had.length by omega]
def uQ (v:Value)(n:Nat):Prop:=∃A c,v=.slice A n c/\n<=c/\n<=9223372036854775807
theorem U32At.slLen (h:U32At B w v zs):uQ v zs.length:=by obtain⟨A,c,e,d,g,-⟩:=h;exact⟨A,c,e,d,by omega⟩
structure nF (w:World)(v:Value)(zs:List Int):Prop where
 len:uQ v zs.length
 at_:zs.length<=1000->U32At w.heap.size w v zs
 words:∀z∈zs,0<=z/\z<4294967296
def jr (i:CG):Bool:=decide (20<i.args.length) || decide (20<i.mem.length) || i.mem.any fun l=>decide (50<l.length)
theorem uy {i:CG}{va:Value}(ha:uQ va i.args.length)(hm:TabAt w.heap.size w vm i.mem) :
  Calls prog 17 #[.agg #[va,vm]] w (RG (.bool (jr i)) w):=by
 obtain⟨B,ca,rfl,X,Y⟩:=ha;obtain⟨Am,cm,rfl,m1,m2,M⟩:=hm;obtain⟨W,L⟩:=xJ (w.alloc (.cells #[.slice B i.args.length ca,.slice Am i.mem.length cm] 41));have F:Gr w W:=by rw[<-L];exact(yO w).alloc _
 have p:W.heap[w.heap.size]?=some (.cells #[.slice B i.args.length ca,.slice Am i.mem.length cm] 41 (0,0)):=by rw[<-L];exact heap_alloc_new _ _
 have k0:W.cell? ⟨w.heap.size,0,none⟩=some (.slice B i.args.length ca):=yo _ _ 0 _ _ _ p;have k1:W.cell? ⟨w.heap.size,1,none⟩=some (.slice Am i.mem.length cm):=yo _ _ 1 _ _ _ p
 have C:Hid (∀j l,i.mem[j]?=some l->∃b o y A,Am=some ⟨b,o,none⟩/\W.cell? ⟨b,o+j,none⟩=some (.slice y l.length A)):=fun j l hl=>by obtain⟨b,o,e,T,S⟩:=M (by have:=(xS.1 hl).1;omega);obtain⟨u,U,y,A,rfl,-⟩:=S j l hl;exact⟨b,o,y,A,e,(F.cell _ _ T).trans U⟩
 have z:=dJ F;obtain⟨R,H⟩:=xJ (jr i);have D:=dJ H;rw[H];clear F p M H;by_cases d:20<i.args.length
 ·have m:Hid (R=true):=by show _=_;rw[<-D.out];simp[jr,d]
  have N:(20:Int)<(i.args.length:Int):=by omega
  go_enter func17, ntmps17
  go_wp2;go_ret;exact⟨cZ m.out.symm,z.out⟩
 ·have N:¬(20:Int)<(i.args.length:Int):=by omega
  by_cases g:20<i.mem.length
  ·have m:Hid (R=true):=by show _=_;rw[<-D.out];simp[jr,g]
   have O:(20:Int)<(i.mem.length:Int):=by omega
   go_enter func17, ntmps17
   go_wp2;go_ret;exact⟨cZ m.out.symm,z.out⟩
  ·have O:¬(20:Int)<(i.mem.length:Int):=by omega
   have r:Hid ((i.mem.any fun l=>decide (50<l.length))=R):=by show _=_;rw[<-D.out];simp[jr,d,g]
   go_enter func17, ntmps17
   go_wp2
   go_loop [3] (fun K=>∃k:Nat,k<=i.mem.length/\K=.int .i64 (k:Int)/\Hid (∀j l,j<k->i.mem[j]?=some l->l.length<=50)) (fun K=>i.mem.length-(intOf K).toNat)
   case atStart=>exact⟨0,yI _,rfl,(fun j l h=>absurd h (Nat.not_lt_zero _))⟩
   case round =>
    obtain⟨k,hk,rfl,t⟩:=hrel;by_cases J:k<i.mem.length
    ·obtain⟨l,hl⟩:∃l,i.mem[k]?=some l:=⟨_,xR J⟩;obtain⟨b,o,y,A,rfl,Z⟩:=C.out k l hl;by_cases G:50<l.length
     ·have m:Hid (R=true):=by show _=_;rw[<-r.out,yG];exact⟨l,xT hl,by simpa using G⟩
      have Q:(50:Int)<(l.length:Int):=by omega
      clear hl;go_wp2;go_ret;exact⟨cZ m.out.symm,z.out⟩
     ·have Q:¬(50:Int)<(l.length:Int):=by omega
      have E:Hid (∀j l,j<k+1->i.mem[j]?=some l->l.length<=50):=fun j l' I h=>by
       rcases yw j k with q|q
       ·exact t.out j l' q h
       ·obtain rfl:j=k:=by omega
        rw[hl]at h;injection h with h;subst h;omega
      clear hl;go_wp2;go_round;case rel=>exact⟨k+1,by omega,by go_num,E⟩
      case measure=>simp[intOf];omega
    ·have m:Hid (R=false):=by
      show _=_;rw[<-r.out,List.any_eq_false];intro l hl;obtain⟨j,I⟩:=List.getElem?_of_mem hl;have:=(xS.1 I).1;have:=t.out j l (by omega) I;simpa using this
     go_wp2;go_ret;exact⟨cZ m.out.symm,z.out⟩
theorem Rn.Ni {n:Int}(h:zi n):F6 n=true:=by unfold F6;have d:=h.1;have g:=h.2;simp[d,g]
theorem iS (hfn:FnAt w.heap.size w vf f)(hnice:gT f){i:CG}{va:Value}(ha:U32At w.heap.size w va i.args)(hm:TabAt w.heap.size w vm i.mem)(hnn:∀a∈i.args,0<=a/\a<4294967296) :
  Calls prog 27 #[vf,.agg #[va,vm]] w (RG (.int .i64 (AB f i)) w):=by
 have aD:=dJ hnn;clear hnn;obtain⟨vp,vs,vb,rfl,hp,hs,hb⟩:=hfn;obtain⟨W,hW⟩:=xJ ((w.alloc (.cells #[vp,.int .i64 f.ret,vs,vb] 36)).alloc (.cells #[va,vm] 41));have G:Gr w W:=by rw[<-hW];exact((yO w).alloc _).alloc _
 have au:(w.alloc (.cells #[vp,.int .i64 f.ret,vs,vb] 36)).heap.size=w.heap.size+1:=by simp
 have ac:W.heap[w.heap.size]?=some (.cells #[vp,.int .i64 f.ret,vs,vb] 36 (0,0)):=by rw[<-hW];exact(((yO (w.alloc (.cells #[vp,.int .i64 f.ret,vs,vb] 36))).alloc _).heap _ (by simp)).trans (heap_alloc_new w _)
 have ad:W.heap[w.heap.size+1]?=some (.cells #[va,vm] 41 (0,0)):=by rw[<-hW,<-au];exact heap_alloc_new _ _
 have CV:=dJ (jm (.agg #[vp,.int .i64 f.ret,vs,vb]) f W ⟨vp,vs,vb,rfl,(hp.below G).mono G.size,(hs.below G).mono G.size,(hb.below G).mono G.size⟩ hnice);have HF:Hid (∀wr,Gr W wr->wr.heap[w.heap.size]?=some (.cells #[vp,.int .i64 f.ret,vs,vb] 36 (0,0))/\wr.heap[w.heap.size+1]?=some (.cells #[va,vm] 41 (0,0))):=fun wr g=>⟨(g.heap _ (cY ac)).trans ac,(g.heap _ (cY ad)).trans ad⟩;obtain⟨Ap,cp,rfl,p1,p2,p3⟩:=hp;obtain⟨As,cs,rfl,s1,s2,s3⟩:=hs;obtain⟨Ab,cb,rfl,-,-,-⟩:=id hb;obtain⟨Aa,ca,rfl,a1,a2,a3⟩:=ha;obtain⟨Am,cm,rfl,m1,m2,m3⟩:=hm
 have al:Hid (∀wr,Gr W wr->∀j z,f.p[j]?=some z->∃b o,Ap=some ⟨b,o,none⟩/\wr.cell? ⟨b,o+j,none⟩=some (.int .i64 z)):=fun wr g j z r=>by obtain⟨b,o,e,hb,h4⟩:=p3 (by have:=(xS.1 r).1;omega);exact⟨b,o,e,((G.trans g).cell _ _ (by omega)).trans (h4 j z r)⟩
 have ao:Hid (∀wr,Gr W wr->∀j z,f.s[j]?=some z->∃b o,As=some ⟨b,o,none⟩/\wr.cell? ⟨b,o+j,none⟩=some (.int .i64 z)):=fun wr g j z r=>by obtain⟨b,o,e,hb,h4⟩:=s3 (by have:=(xS.1 r).1;omega);exact⟨b,o,e,((G.trans g).cell _ _ (by omega)).trans (h4 j z r)⟩
 have ah:Hid (∀wr,Gr W wr->∀j z,i.args[j]?=some z->∃b o,Aa=some ⟨b,o,none⟩/\wr.cell? ⟨b,o+j,none⟩=some (.int .u32 z)):=fun wr g j z r=>by obtain⟨b,o,e,hb,h4⟩:=a3 (by have:=(xS.1 r).1;omega);exact⟨b,o,e,((G.trans g).cell _ _ (by omega)).trans (h4 j z r)⟩
 have az:Hid (∀j l,i.mem[j]?=some l->∃b o Al cl,Am=some ⟨b,o,none⟩/\l.length<=17592186044416/\∀wq,Gr W wq->wq.cell? ⟨b,o+j,none⟩=some (.slice Al l.length cl)/\∀t x,l[t]?=some x->∃b' o',Al=some ⟨b',o',none⟩/\wq.cell? ⟨b',o'+t,none⟩=some (.int .i64 x)):=fun j l hl=>by obtain⟨b,o,e,hb,h4⟩:=m3 (by have:=(xS.1 hl).1;omega);obtain⟨u,hu,Al,cl,rfl,-,h6,h7⟩:=h4 j l hl;refine⟨b,o,Al,cl,e,h6,fun wq g=>⟨((G.trans g).cell _ _ (by omega)).trans hu,fun t x E=>?_⟩⟩;obtain⟨b',o',F,aH,h8⟩:=h7 (by have:=(xS.1 E).1;omega);exact⟨b',o',F,((G.trans g).cell _ _ aH).trans (h8 t x E)⟩
 have C:=dJ G;obtain⟨R,hR⟩:=xJ (AB f i);rw[hR];unfold AB at hR;have HR:=dJ hR;obtain⟨V,hV⟩:=xJ (zL f);rw[hV]at CV HR;have HV:=dJ hV
 have aa:∀wr,Gr W wr->C6 wr w.heap.size (.slice Ap f.p.length cp) (.int .i64 f.ret) (.slice As f.s.length cs) (.slice Ab f.b.length cb) (.slice Aa i.args.length ca) (.slice Am i.mem.length cm):=fun wr g=>by obtain⟨q1,q2⟩:=HF.out wr g;exact⟨yo _ _ 0 _ _ _ q1,yo _ _ 1 _ _ _ q1,yo _ _ 2 _ _ _ q1,yo _ _ 3 _ _ _ q1,yo _ _ 0 _ _ _ q2,yo _ _ 1 _ _ _ q2⟩
 have HC:=dJ aa;obtain⟨k0,k1,k2,k3,k4,k5⟩:=aa W (yO _);clear G ac ad p3 s3 a3 m3 hR hV aa au hb;by_cases av:V=0
 ·subst av
  have HW:Hid (∀j z,f.p[j]?=some z->zi z):=fun j z r=>by have hv:FB f:=(Jt f).1 HV.out;exact Fj (ym.1 hv.head.1 z (xT r))
  by_cases y:i.args.length=f.p.length
  ·by_cases p:i.mem.length=f.s.length
   ·have am:Hid ((if (f.p.zip i.args).any (fun q=>decide (m9 q.1<=q.2))=true then 1 else if (f.s.zip i.mem).any (fun q=>decide ((q.2.length:Int)≠q.1) || q.2.any (fun b=>decide (b < -1) || decide (255<b)))=true then 1 else 0)=R):=by
     have:=HR.out;rw[yt (by decide),yt (by omega)]at this;exact this
    obtain⟨n,hn⟩:=xJ f.p.length;obtain⟨m,hm⟩:=xJ f.s.length;rw[hn]at y p1 p2 k0;rw[hm]at p s1 s2 k2;rw[y]at a1 a2 k4;rw[p]at m1 m2 k5
    have B:Hid (∀wr,Gr W wr->wr.cell? ⟨w.heap.size,0,none⟩=some (.slice Ap n cp)/\wr.cell? ⟨w.heap.size,2,none⟩=some (.slice As m cs)/\wr.cell? ⟨w.heap.size+1,0,none⟩=some (.slice Aa n ca)/\wr.cell? ⟨w.heap.size+1,1,none⟩=some (.slice Am m cm)):=fun wr g=>by obtain⟨q0,q1,q2,q3,q4,q5⟩:=HC.out wr g;rw[hn]at q0;rw[hm]at q2;rw[y]at q4;rw[p]at q5;exact⟨q0,q2,q4,q5⟩
    have aj:=dJ hn;have ak:=dJ hm;have aA:=dJ y;have aB:=dJ p;rw[hn,hm,y,p]at hW;rw[hn,hm]at CV;rw[hn,hm,y,p];clear y p hn hm
    go_enter func27, ntmps27
    go_wp2_with (go_at_call 44;refine CV.out.mono ?_;rintro e w1 ⟨rfl,Q⟩;obtain⟨j0,j2,j4,j5⟩:=B.out w1 Q;have N:=dJ Q)
    have aC:Hid (∀k z x,f.p[k]?=some z->i.args[k]?=some x->m9 z<=x->R=1):=fun k z x d D H=>by rw[<-am.out,yr (Hu d D (by simpa using H))]
    as_aux_lemma =>
     go_loopw [6] (fun s6 wr=>∃k:Nat,k<=n/\s6=.int .i64 (k:Int)/\Hid (Gr W wr)/\Hid (∀j z x,j<k->f.p[j]?=some z->i.args[j]?=some x->x<m9 z)) (fun s6 _=>n-(intOf s6).toNat)
     case atStart=>exact⟨0,yI _,rfl,N,(fun j z x h=>absurd h (Nat.not_lt_zero _))⟩
     case round =>
      obtain⟨k,hk,rfl,A,K⟩:=hrel;obtain⟨q0,q2,q4,q5⟩:=B.out wr A.out;have U0:=fun u:GrW wr=>(B.out u.val (A.out.trans u.gr)).1;have U4:=fun u:GrW wr=>(B.out u.val (A.out.trans u.gr)).2.2.1;by_cases ae:k<n
      ·obtain⟨z,r⟩:∃z,f.p[k]?=some z:=⟨_,xR (by have:=aj.out;omega)⟩;obtain⟨x,E⟩:∃x,i.args[k]?=some x:=⟨_,xR (by have:=aA.out;omega)⟩;obtain⟨bp,op,rfl,cz⟩:=al.out wr A.out k z r;obtain⟨ba,oa,rfl,cx⟩:=ah.out wr A.out k x E
       have UZ:∀u:GrW wr,u.val.cell? ⟨bp,op+k,none⟩=some (.int .i64 z):=fun u=>by obtain⟨b',o',F,h'⟩:=al.out u.val (A.out.trans u.gr) k z r;injection F with F;injection F with e1 e2;subst e1;subst e2;exact h'
       have UX:∀u:GrW wr,u.val.cell? ⟨ba,oa+k,none⟩=some (.int .u32 x):=fun u=>by obtain⟨b',o',F,h'⟩:=ah.out u.val (A.out.trans u.gr) k x E;injection F with F;injection F with e1 e2;subst e1;subst e2;exact h'
       have ag:=aD.out x (xT E);have CM:Hid (∀u:GrW wr,Calls prog 48 #[.int .i64 z,.int .u32 x] u.val (RG (.bool (decide (x<m9 z))) u.val)):=fun u=>(en z x u.val ag.1 ag.2).mono fun e w' h=>⟨by rw[h.1,Hv,Ni (HW.out k z r),Bool.true_and],by rw[<-h.2];exact yO _⟩;have U:=dJ (aC.out k z x r E)
       have S:Hid (x<m9 z->∀j z x,j<k+1->f.p[j]?=some z->i.args[j]?=some x->x<m9 z):=fun h j z' x' hj d D=>by
        rcases yw j k with q|q
        ·exact K.out j z' x' q d D
        ·obtain rfl:j=k:=by omega
         rw[r]at d;rw[E]at D;injection d with d;injection D with D;subst d;subst D;exact h
       obtain⟨s,hs⟩:=xJ (m9 z);rw[hs]at CM U S;clear r E hs ag cz cx;obtain⟨bd,I⟩:∃bd,decide (x<s)=bd:=⟨_,rfl⟩;rw[I]at CM;have L:=dJ I;clear I;cases bd
       all_goals
        go_wp2;refine dc (by kernel_rfl) (by kernel_rfl) ?_;repeat (go_big_quiet_step ((rename_i u;go_at_call 48;exact dk u (CM.out u))))
        refine wpQuiet_nil ?_;intro w9 af;obtain⟨u9,rfl⟩:=af;have G9:=dJ (A.out.trans u9.gr);clear U0 U4 UZ UX;go_wp2
       ·go_ret;have H:=L.out;simp at H;exact⟨dg (U.out H).symm,C.out.trans G9.out⟩
       ·have H:=L.out;simp at H;have O:=dJ (S.out H);refine⟨⟨k+1,by omega,by go_num,G9,O⟩,by simp[intOf];omega⟩
      ·obtain rfl:n=k:=by omega
       have an:Hid ((if (f.s.zip i.mem).any (fun q=>decide ((q.2.length:Int)≠q.1) || q.2.any (fun b=>decide (b < -1) || decide (255<b)))=true then 1 else 0)=R):=by
        show _=_;have h:=am.out
        rw[Gx (fun j a b d D=>by
          have hj:=(xS.1 d).1
          have:=K.out j a b (by have:=aj.out;omega) d D
          simpa using this)]at h
        simpa using h
       have aw:=A;clear K ae hk U0 U4;go_wp2
       as_aux_lemma =>
        go_loopw [7] (fun s7 wr=>∃k:Nat,k<=m/\s7=.int .i64 (k:Int)/\Hid (Gr W wr)/\Hid (∀j z l,j<k->f.s[j]?=some z->i.mem[j]?=some l->(decide ((l.length:Int)≠z) || l.any (fun b=>decide (b < -1) || decide (255<b)))=false)) (fun s7 _=>m-(intOf s7).toNat)
        case atStart=>exact⟨0,yI _,rfl,aw,(fun j z x h=>absurd h (Nat.not_lt_zero _))⟩
        case round =>
         obtain⟨k,hk,rfl,A,K⟩:=hrel;obtain⟨q0,q2,q4,q5⟩:=B.out wr A.out;have U2:=fun u:GrW wr=>(B.out u.val (A.out.trans u.gr)).2.1;have U5:=fun u:GrW wr=>(B.out u.val (A.out.trans u.gr)).2.2.2;by_cases ae:k<m
         ·obtain⟨z,r⟩:∃z,f.s[k]?=some z:=⟨_,xR (by have:=ak.out;omega)⟩;obtain⟨l,hl⟩:∃l,i.mem[k]?=some l:=⟨_,xR (by have:=aB.out;omega)⟩;obtain⟨bs,os,rfl,-⟩:=ao.out wr A.out k z r;obtain⟨bm,om,Al,cl,rfl,aq,p⟩:=az.out k l hl
          have UZ:∀u:GrW wr,u.val.cell? ⟨bs,os+k,none⟩=some (.int .i64 z):=fun u=>by obtain⟨b',o',F,h'⟩:=ao.out u.val (A.out.trans u.gr) k z r;injection F with F;injection F with e1 e2;subst e1;subst e2;exact h'
          have ai:=dJ p;have UL:=fun u:GrW wr=>(ai.out u.val (A.out.trans u.gr)).1
          have T:Hid ((decide ((l.length:Int)≠z) || l.any (fun b=>decide (b < -1) || decide (255<b)))=true->R=1):=fun h=>by rw[<-an.out,yr (Hu r hl h)]
          have S:Hid ((decide ((l.length:Int)≠z) || l.any (fun b=>decide (b < -1) || decide (255<b)))=false->∀j z l,j<k+1->f.s[j]?=some z->i.mem[j]?=some l->(decide ((l.length:Int)≠z) || l.any (fun b=>decide (b < -1) || decide (255<b)))=false):=fun h j z' l' hj d D=>by
           rcases yw j k with q|q
           ·exact K.out j z' l' q d D
           ·obtain rfl:j=k:=by omega
            rw[r]at d;rw[hl]at D;injection d with d;injection D with D;subst d;subst D;exact h
          have ay:=dJ aq;have ax:Hid (k<m):=ae;clear r hl aq p;obtain⟨bd,I⟩:∃bd,((l.length:Int) != z)=bd:=⟨_,rfl⟩;have L:=dJ I;cases bd
          all_goals
           go_wp2;refine dc (by kernel_rfl) (by kernel_rfl) ?_;repeat (go_big_quiet_step (fail))
           refine wpQuiet_nil ?_;intro w9 af;obtain⟨u9,rfl⟩:=af;have G9:=dJ (A.out.trans u9.gr);clear U2 U5 UZ UL
          ·clear I;go_wp2
           as_aux_lemma =>
            go_loopw [8] (fun s8 wq=>∃t:Nat,t<=l.length/\s8=.int .i64 (t:Int)/\Hid (Gr W wq)/\Hid (∀j x,j<t->l[j]?=some x->(decide (x < -1) || decide (255<x))=false)) (fun s8 _=>l.length-(intOf s8).toNat)
            case atStart=>exact⟨0,yI _,rfl,G9,(fun j x h=>absurd h (Nat.not_lt_zero _))⟩
            case round =>
             obtain⟨t,ht,rfl,J,Z⟩:=hrel;have aL:=ay.out;obtain⟨r0,r2,r4,r5⟩:=B.out wr J.out;obtain⟨aN,ab⟩:=ai.out wr J.out;by_cases Y:t<l.length
             ·obtain⟨x,E⟩:∃x,l[t]?=some x:=⟨_,xR Y⟩;obtain⟨be,oe,rfl,ce⟩:=ab t x E
              have ap:Hid ((decide (x < -1) || decide (255<x))=true->R=1):=fun h=>T.out (by rw[show l.any (fun b=>decide (b < -1) || decide (255<b))=true from yG.2 ⟨x,xT E,h⟩,Bool.or_true])
              have aG:Hid ((decide (x < -1) || decide (255<x))=false->∀j x,j<t+1->l[j]?=some x->(decide (x < -1) || decide (255<x))=false):=fun h j x' hj d=>by
               rcases yw j t with q|q
               ·exact Z.out j x' q d
               ·obtain rfl:j=t:=by omega
                rw[E]at d;injection d with d;subst d;exact h
              have aF:Hid (t<l.length):=Y;clear E ab;by_cases aI:x < -1
              ·have M:Hid (R=1):=ap.out (by simp[aI]);go_wp2;go_ret;exact⟨dg M.out.symm,C.out.trans J.out⟩
              ·by_cases aJ:255<x
               ·have M:Hid (R=1):=ap.out (by simp[aJ]);go_wp2;go_ret;exact⟨dg M.out.symm,C.out.trans J.out⟩
               ·have aE:=dJ (aG.out (by simp;omega));go_wp2;have aP:=aF.out;refine⟨⟨t+1,by omega,by go_num,J,aE⟩,by simp[intOf];omega⟩
             ·obtain rfl:t=l.length:=by omega
              have O:=dJ (S.out (by
                have H:=L.out
                simp only[bne_eq_false_iff_eq]at H
                rw[List.any_eq_false.2 (fun x E=>by
                  obtain⟨j,hj⟩:=List.getElem?_of_mem E
                  have:=Z.out j x (xS.1 hj).1 hj
                  rw[this];exact Bool.false_ne_true)]
                simp[H]))
              clear ab;go_wp2;have aO:=ax.out;refine⟨⟨k+1,by omega,by go_num,J,O⟩,by simp[intOf];omega⟩
          ·go_wp2;go_ret;exact⟨dg (T.out (by have H:=L.out;simp at H;simp[H])).symm,C.out.trans G9.out⟩
         ·obtain rfl:m=k:=by omega
          have M:Hid (R=0):=by
           show _=_
           rw[<-an.out,Gx (fun j a b d D=>by
             have hj:=(xS.1 d).1
             exact K.out j a b (by have:=ak.out;omega) d D)]
           rfl
          clear U2 U5;go_wp2;go_ret;exact⟨dg M.out.symm,C.out.trans A.out⟩
   ·have M:Hid (R=1):=by show _=_;rw[<-HR.out,yt (by decide),yr (.inr p)]
    have ar:¬((i.mem.length:Int)=(f.s.length:Int)):=by omega
    have X:(i.args.length:Int)=(f.p.length:Int):=by omega
    have aK:((i.args.length:Int) != (f.p.length:Int))=false:=by simp[y]
    have aM:((i.mem.length:Int) != (f.s.length:Int))=true:=by simp;omega
    clear y X ar
    go_enter func27, ntmps27
    go_wp2_with (go_at_call 44;refine CV.out.mono ?_;rintro e w1 ⟨rfl,Q⟩;obtain⟨j0,j1,j2,j3,j4,j5⟩:=HC.out w1 Q;have N:=dJ Q);go_ret;exact⟨dg M.out.symm,C.out.trans N.out⟩
  ·have M:Hid (R=1):=by show _=_;rw[<-HR.out,yt (by decide),yr (.inl y)]
   have X:¬((i.args.length:Int)=(f.p.length:Int)):=by omega
   go_enter func27, ntmps27
   go_wp2_with (go_at_call 44;refine CV.out.mono ?_;rintro e w1 ⟨rfl,Q⟩;obtain⟨j0,j1,j2,j3,j4,j5⟩:=HC.out w1 Q;have N:=dJ Q);go_ret;exact⟨dg M.out.symm,C.out.trans N.out⟩
 ·have M:Hid (R=V):=by show _=_;rw[<-HR.out,yr av]
  go_enter func27, ntmps27
  go_wp2_with (go_at_call 44;refine CV.out.mono ?_;rintro e w1 ⟨rfl,Q⟩);go_ret;exact⟨dg M.out.symm,C.out.trans Q⟩
@[go_sem] theorem uE (v0 v1 v2 v3 v4 v5 v7 v8 v9:Value)(A:Option Addr)(n c:Nat)(w:World):(Instr.field 113 (.agg #[v0,v1,v2,v3,v4,v5,.slice A n c,v7,v8,v9]) 2).run prog w=.ok (.slice A n c) w:=by kernel_rfl
@[go_sem] theorem uY (v0 v1 v2 v3 v4 v5 v6 v8 v9:Value)(z:Int)(w:World):(Instr.field 113 (.agg #[v0,v1,v2,v3,v4,v5,v6,.int .i64 z,v8,v9]) 3).run prog w=.ok (.int .i64 z) w:=by kernel_rfl
@[go_sem] theorem tA (z1 z2 z3:Int)(b:Bool)(A:Option Addr)(n c:Nat)(v1 v2 v3 v4 v5:Value)(w:World):(Instr.field 113 (.agg #[.int .i64 z1,.bool b,.int .i64 z2,.int .u32 z3,.slice A n c,v1,v2,v3,v4,v5]) 0).run prog w=.ok (.agg #[.int .i64 z1,.bool b,.int .i64 z2,.int .u32 z3,.slice A n c]) w:=by kernel_rfl
@[go_sem] theorem uF (v0 v1 v2 v3 v4 v6 v7 v8 v9:Value)(A:Option Addr)(n c:Nat)(w:World):(Instr.field 113 (.agg #[v0,v1,v2,v3,v4,.slice A n c,v6,v7,v8,v9]) 1).run prog w=.ok (.slice A n c) w:=by kernel_rfl
theorem Own1.base (h:Own1 B e w v xs)(hb:∀k,v.ownBlock=some k->B'<=k):Own1 B' e w v xs:=by obtain⟨m,p⟩:=h;refine⟨m,p.elim .inl fun⟨g,d,j,l,q,r⟩=>.inr ⟨g,d,j,l,hb g (by rw[l];rfl),r⟩⟩
theorem tx (hfn:FnAt w.heap.size w vf f)(hf:VFn f){i:CG}(hin:AB f i=0){va:Value}(ha:U32At w.heap.size w va i.args)(hm:TabAt w.heap.size w vm i.mem)(hnn:∀a∈i.args,0<=a)
    (hpk:U32At w.heap.size w vpk picks) (hr:∀z∈picks,0<=z/\z<4294967296) (hpl:picks.length<=1000) :
  Calls prog 86 #[vf,.agg #[va,vm],vpk] w fun e w'=>∃(cw cx n6 c6 n8 c8 c9:Nat)(Aw Ax A6 A8 A9:Option Addr)(z7:Int),e=.returned (.agg #[.int .i64 (DC f (zo picks) i).1.kind,.bool (DC f (zo picks) i).1.ret.p,.int .i64 (DC f (zo picks) i).1.ret.s,.int .u32 (DC f (zo picks) i).1.ret.n,.slice Ax (DC f (zo picks) i).1.mem.length cx,.slice Aw (DC f (zo picks) i).2.1.z.length cw,.slice A6 n6 c6,.int .i64 z7,.slice A8 n8 c8,.slice A9 n8 c9]) /\
   (∃D:Nat->Prop,Keeps D w' (.slice Ax (DC f (zo picks) i).1.mem.length cx) (DC f (zo picks) i).1.mem/\∀k,D k->w.heap.size<=k)/\Own1 w.heap.size 3 w' (.slice Aw (DC f (zo picks) i).2.1.z.length cw) ((DC f (zo picks) i).2.1.z.map (Value.int .i64))/\Gr w w':=by
 obtain⟨-,-,K,L⟩:=IK lX hf.val hf.im hin hnn picks;refine(tv lX hfn hf ha hm hin hnn hpk hr hpl).mono ?_;rintro e w' ⟨⟨c,N,M,rfl,rfl,p,r,q,m⟩,g⟩;obtain⟨Aw,cw,F⟩:=p.wid.form;obtain⟨A6,c6,E⟩:=p.blk.form;rw[yl]at F E;subst F;subst E
 have A:∃Ax cx,rD c (DC c.f (zo picks) i).1=.slice Ax (DC c.f (zo picks) i).1.mem.length cx/\∃D:Nat->Prop,Keeps D w' (.slice Ax (DC c.f (zo picks) i).1.mem.length cx) (DC c.f (zo picks) i).1.mem/\∀k,D k->w.heap.size<=k:=by
  unfold rD ed;rcases L with ⟨H,I,-⟩|h|h
  ·rw[yr H,I]
   have t:∀k,Dc c k->k<w'.heap.size/\w.heap.size<=k:=fun k d=>by
    rcases d with ⟨-,rfl⟩|⟨j,B,y⟩
    ·exact⟨m,q⟩
    ·obtain⟨l,hl⟩:∃l,(DC c.f (zo picks) i).2.1.mem[j]?=some l:=⟨_,xR (by rw[p.mem.1];exact(xS.1 y).1)⟩;obtain⟨-,-,G,J,-⟩:=p.mem.2 j k B l y hl;exact⟨cY J,r k (.inl (.inr (.inr (.inr ⟨j,B,y⟩))))⟩
   have u:=lN p.mem p.s (fun k d=>(t k d).1) m hf.val K.mem;have C:c.mv=.slice c.Am (DC c.f (zo picks) i).2.1.mem.length c.cm:=by unfold Cfg.mv;rw[p.mem.1]
   exact⟨c.Am,c.cm,C,Dc c,C ▸ u,fun k d=>(t k d).2⟩
  all_goals
   rw[h];exact⟨none,0,rfl,fun _=>False,jb _ _ (fun _ h=>h.elim),fun _ h=>h.elim⟩
 obtain⟨Ax,cx,A,u⟩:=A;exact⟨cw,cx,_,c6,_,_,_,Aw,Ax,A6,_,_,_,by unfold rA;rw[A],u,p.wid.base fun k d=>r k (.inr (.inl d)),g⟩
def RowOf (B:Nat)(e:TypeId)(w:World)(v:Value)(ys:List Value):Prop:=∃A c,v=.slice A ys.length c/\ys.length<=c/\(0<ys.length->Own1 B e w v ys)
section
variable {P:Program}{w:World}
theorem vZ {i:TypeInfo}
  (ht:P.underlying t=some (.slice e)) (hi:P.info? e=some i) (hz:i.zero=some z) (hsize:i.size=1) (hby:i.bytes<=8) (hzs:z.cells.size=1)
  (s x:Operand) (ho:o.op=.call {callee:=.builtin .append,args:=#[s,x],argTypes:=#[t,t]})  (hs:a.eval s=.slice (some ⟨g,0,none⟩) 0 0)    (hu:Src w u 1 n ys) (hl:ys.length=n) (hn:n<=17592186044416) (h1:∀y∈ys,y.oneCell'=true) (hx:a.eval x=u)
  (h:∀A c w',RowOf w.heap.size e w' (.slice A n c) ys->Gr w w'->K (a.put o.dst (.slice A n c)) w'):o.wp P a w K Q:=by
 subst hl;obtain⟨A,c,w',d,j,l,m⟩:=fw (P:=P) (w:=w) t o.type e i z ht hi hz hsize hzs g u ys hu hn (Nat.le_trans (Nat.mul_le_mul_left _ hby) (by omega)) h1;unfold Oper.wp execOp;simp only[ho,resolve,invoke,builtin,Sem.run_bind,Sem.run_pure,Result.andThen_ok,List.map_toArray,List.map_cons,List.map_nil,hs,hx,d];exact h A c w' ⟨A,c,rfl,l,m⟩ j
theorem nE {i:TypeInfo}
  (ht:P.underlying t=some (.slice e)) (hi:P.info? e=some i) (hz:i.zero=some z) (hsize:i.size=1) (hby:i.bytes<=8) (hzs:z.cells.size=1) (hgd:o.guard=none)
  (s x:Operand) (ho:o.op=.call {callee:=.builtin .append,args:=#[s,x],argTypes:=#[t,t]})  (hs:a.eval s=.slice (some ⟨g,0,none⟩) 0 0)    (hu:Src w u 1 n ys) (hl:ys.length=n) (hn:n<=17592186044416) (h1:∀y∈ys,y.oneCell'=true) (hx:a.eval x=u)
  (h:∀A c w',RowOf w.heap.size e w' (.slice A n c) ys->Gr w w'->wpList P ops Q rest (a.put o.dst (.slice A n c)) w'):wpList P ops Q (o::rest) a w :=
 wpList_plain hgd fun _ d=>vZ ht hi hz hsize hby hzs s x ho hs hu hl hn h1 hx fun A c w' h1 h2=>d _ _ (h A c w' h1 h2)
end
section
variable {w w':World}{B:Nat}{e:TypeId}{v:Value}{ys:List Value}
theorem RowOf.same (h:RowOf B e w v ys)(hw:∀(k:Nat)(cur:Array Value),B<=k->w.heap[k]?=some (.cells cur e (0,0))->w'.heap[k]?=w.heap[k]?):RowOf B e w' v ys:=by obtain⟨A,c,rfl,j,d⟩:=h;refine⟨A,c,rfl,j,fun g=>dm (d g) fun k hk=>?_⟩;obtain⟨l,-,cur,m⟩:=di (d g) hk;exact hw k cur l m
theorem RowOf.less (h:RowOf B e w v ys)(hB:B'<=B):RowOf B' e w v ys:=by obtain⟨A,c,rfl,p,q⟩:=h;refine⟨A,c,rfl,p,fun t=>?_⟩;obtain⟨u,y⟩:=q t;refine⟨u,y.elim .inl fun⟨g,d,j,l,m,r⟩=>.inr ⟨g,d,j,l,Nat.le_trans hB m,r⟩⟩
theorem RowOf.sl (h:RowOf B e w v ys)(hl:ys.length=n)(hn:n<=17592186044416):SlAt w.heap.size v n fun b off=>∀j z,ys[j]?=some z->w.cell? ⟨b,off+j,none⟩=some z:=by subst hl;obtain⟨A,c,rfl,l,m⟩:=h;refine⟨A,c,rfl,l,hn,fun d=>?_⟩;obtain⟨b,rfl,p,-,q⟩:=dx (m d) rfl d;exact⟨b,0,rfl,p,fun j z g=>by rw[Nat.zero_add,q j (by have:=(xS.1 g).1;omega)];exact g⟩
theorem RowOf.ints (h:RowOf B e w v (zs.map (Value.int .i64)))(hn:zs.length<=17592186044416):IntsAt w.heap.size w v zs :=
 SlAt.imp (h.sl (yl _) hn) fun b off _ d j z g=>d j _ (by rw[yc,g];rfl)
theorem RowOf.u32 (h:RowOf B e w v (zs.map (Value.int .u32)))(hn:zs.length<=17592186044416):U32At w.heap.size w v zs :=
 SlAt.imp (h.sl (yl _) hn) fun b off _ d j z g=>d j _ (by rw[yc,g];rfl)
end
structure CS (Bo:Nat)(W w:World)(va:Value)(mem:List (List Int))(k:Nat)(us:List Value)(A8:Option Addr)(c8:Nat):Prop where
 fr:FrS (·=Bo) W w
 st:w.heap[Bo]?=some (.cells #[va,.slice A8 k c8] 41 (0,0))
 len:us.length=k
 own:Own1 (Bo+1) 33 w (.slice A8 k c8) us
 rows:∀(j:Nat)(u:Value)(l:List Int),us[j]?=some u->mem[j]?=some l->RowOf (Bo+1) 3 w u (l.map (Value.int .i64))
section
variable {Bo k c8 c2:Nat}{W w w1 w2:World}{va:Value}{mem:List (List Int)}{us:List Value}{A8 A2:Option Addr}{tmp:Obj}{u:Value}{l:List Int}
theorem CS.grow (hW:W.heap.size=Bo+1)(h:CS Bo W w va mem k us A8 c8)(g:Gr w w1):CS Bo W w1 va mem k us A8 c8 where
 fr:=h.fr.trans (FrS.of_gr g)
 st:=(g.heap _ (cY h.st)).trans h.st
 len:=h.len
 own:=h.own.gr g
 rows:=fun j u l d m=>(h.rows j u l d m).same fun q cur _ hq=>g.heap _ (cY hq)
theorem CS.push (hW:W.heap.size=Bo+1)(h:CS Bo W w va mem k us A8 c8)(hl:mem[k]?=some l)(g1:Gr w w1)(hu:RowOf w.heap.size 3 w1 u (l.map (Value.int .i64)))(hg:(w1.alloc tmp).grownBy w2 (Value.slice A8 k c8).ownBlock)(ho2:Own1 (Bo+1) 33 w2 (.slice A2 (k+1) c2) (us++[u])) :
  (w2.cell? ⟨Bo,1,none⟩=some (.slice A8 k c8)/\w2.frozen? ⟨Bo,1,none⟩=false)/\CS Bo W (w2.setCell ⟨Bo,1,none⟩ (.slice A2 (k+1) c2)) va mem (k+1) (us++[u]) A2 c2:=by
 have y:=h.own.gr g1;have A:FrS (fun q=>(Value.slice A8 k c8).ownBlock=some q) w1 w2:=((FrS.refl _ w1).alloc tmp).grown hg (fun q d=>.inl d);have I:w.heap.size<=w1.heap.size:=g1.size;have H:W.heap.size<=w.heap.size:=h.fr.size;have B:=(g1.heap _ (cY h.st)).trans h.st;have C:w2.heap[Bo]?=some (.cells #[va,.slice A8 k c8] 41 (0,0)):=(A.block _ (cY B) (fun q=>by have:=(di y q).1;omega)).trans B;have G:FrS (fun q=>(Value.slice A8 k c8).ownBlock=some q\/q=Bo) w1 (w2.setCell ⟨Bo,1,none⟩ (.slice A2 (k+1) c2)):=(A.mono fun q d=>.inl d).setCell (p:=⟨Bo,1,none⟩) (.inr rfl) _
 have r:∀(q:Nat)(t:Array Value),Bo+1<=q->w1.heap[q]?=some (.cells t 3 (0,0))->(w2.setCell ⟨Bo,1,none⟩ (.slice A2 (k+1) c2)).heap[q]?=w1.heap[q]?:=fun q t d hc=>G.block _ (cY hc) (by
   rintro (e|e)
   · obtain⟨-,-,F,E⟩:=di y e
     exact de hc E (by decide) rfl
   · omega)
 refine⟨⟨yo _ _ 1 _ _ _ C,yp _ _ 1 _ _ C⟩,?_,?_,by simp[h.len],dm ho2 fun q d=>yy _ _ _ _ (by have:=(di ho2 d).1;show q≠Bo;omega),fun j v m g z=>?_⟩
 ·refine FrS.weaken (S:=fun q=>q=Bo\/W.heap.size<=q) ((h.fr.mono fun q d=>.inl d).trans ((FrS.of_gr g1).trans (G.mono fun q d=>?_))) fun q d e=>e.elim (fun e=>e) (fun e=>by omega);rcases d with e|e
  ·right;have:=(di y e).1;omega
  ·exact .inl e
 ·have:=cX (i:=1) (.slice A2 (k+1) c2) C;exact this
 ·rcases yw j us.length with D|D
  ·rw[yd D]at g;exact((h.rows j v m g z).same fun q t _ d=>g1.heap _ (cY d)).same r
  ·rw[ye D]at g
   obtain rfl:j=us.length:=by
    rcases yw us.length j with q|q
    ·rw[yi (by simp;omega)]at g;cases g
    ·omega
   rw[Nat.sub_self]at g;simp at g;subst g;rw[h.len,hl]at z;injection z with z;subst z;exact(hu.less (by omega)).same r
theorem ww (hlen:us.length=mem.length)(hown:Own1 (Bo+1) 33 w (.slice A8 mem.length c8) us)(hrows:∀(j:Nat)(u:Value)(l:List Int),us[j]?=some u->mem[j]?=some l->RowOf (Bo+1) 3 w u (l.map (Value.int .i64)))(hm:mem.length<=1000)(hr:∀l∈mem,l.length<=1000):TabAt w.heap.size w (.slice A8 mem.length c8) mem:=by
 have d:RowOf (Bo+1) 33 w (.slice A8 mem.length c8) us:=by
  obtain⟨-,hr⟩:=id hown;refine⟨A8,c8,by rw[hlen],?_,fun _=>hown⟩;rcases hr with ⟨e,d⟩|⟨g,p,q,e,-,-,z,-⟩
  ·injection e with _ r t;omega
  ·injection e with _ r t;omega
 refine SlAt.imp (d.sl hlen (by omega)) fun b off _ y j l hl=>?_;obtain⟨u,m⟩:∃u,us[j]?=some u:=⟨_,xR (by have:=(xS.1 hl).1;have:=hlen;omega)⟩;exact⟨u,y j u m,(hrows j u l m hl).ints (by have:=hr l (xT hl);omega)⟩
end
end
section
variable {f:Fn}{x:Int}{p pp:List Int}{xs ys:List Value}{B k n t:Nat}{e:TypeId}{v vf vp:Value}{w:World}
section
open Go.RowKit
theorem hU {x o:zO}:∀{l:List zO},o∈Cm x l->o=x\/o∈l
 | [],h=>by simp[Cm]at h;exact .inl h
 | y::r,h=>by
  rw[Cm]at h
  split at h
  ·exact .inr h
  ·split at h
   ·rcases List.mem_cons.1 h with h|h
    ·exact .inl h
    ·exact .inr h
   ·rcases List.mem_cons.1 h with h|h
    ·exact .inr (by rw[h];simp)
    ·rcases hU h with h|h
     ·exact .inl h
     ·exact .inr (List.mem_cons_of_mem _ h)
theorem uI {i:CG}(hv:FB f)(hi:Hh f)(hin:AB f i=0)(ha:∀a∈i.args,0<=a)(p:List Int):OW (DC f (zo p) i).1:=by
 obtain⟨-,-,-,q⟩:=IK lX hv hi hin ha p;rcases q with ⟨-,-,-,q⟩|q|q
 ·exact q
 all_goals rw[q];unfold OW;decide
def slLen:Value->Nat
 | .slice _ n _=>n
 | _=>0
theorem Own1.src (h:Own1 B e w v xs)(hn:xs.length=n):Src w v 1 n xs:=by subst hn;obtain⟨A,c,rfl⟩:=h.form;refine⟨A,c,rfl,by simp,fun l=>?_⟩;obtain⟨b,rfl,-,-,g⟩:=dx h rfl l;refine⟨_,rfl,fun j x d=>?_⟩;rw[eC];have:=g j (by have:=(xS.1 d).1;omega);rw[d]at this;rw[Nat.zero_add];exact this
theorem RowOf.own (h:RowOf B e w v ys)(hp:0<ys.length):Own1 B e w v ys:=by obtain⟨A,c,-,-,q⟩:=h;exact q hp
theorem tq (h:pp[k]?=some x):(((pp.take (k+1)).map (Value.int .u32)).set k (.int .u32 (x+1)))=(FM pp k).map (Value.int .u32):=by have hl:=(xS.1 h).1;rw[<-KL pp k hl,List.take_set,List.map_set,xU,h];rfl
theorem nd (h:p.length<=t):(AW p (t+1)).map (Value.int .u32)=(AW p t).map (Value.int .u32)++[.int .u32 0]:=by unfold AW;rw[show t+1-p.length=(t-p.length)+1 by omega,List.replicate_succ',List.map_append,List.map_append,List.map_append,List.append_assoc];rfl
def uA (f:Fn)(i:CG)(B:Nat)(R:Option (List zO))(n:Nat)(v vp:Value)(w:World):Prop :=
 ∃(D:Nat->Prop)(vms:List Value)(p:List Int)(outs:List zO),OutsAt D B w v outs vms/\Own1 B 22 w vp (p.map (Value.int .u32))/\(∀k,D k->k<w.heap.size/\vp.ownBlock≠some k)/\IP f i p/\Gn outs/\(∀o∈outs,OW o)/\outs.length+1<=n/\E6 f i (257-n) p outs=R
section
variable {B:Nat}{w w' w2:World}{v:Value}{xs:List Int}
theorem Own1.u32 (h:Own1 B 22 w vp (p.map (Value.int .u32)))(hl:p.length<=1000):U32At w.heap.size w vp p:=by
 have d:RowOf B 22 w vp (p.map (Value.int .u32)):=by
  obtain⟨A,c,rfl⟩:=h.form;refine⟨A,c,rfl,?_,fun _=>h⟩;obtain⟨-,r⟩:=h;rcases r with ⟨e,d⟩|⟨g,j,l,e,-,-,t,-⟩
  ·injection e with _ m q;omega
  ·injection e with _ m q;omega
 exact d.u32 (by omega)
end
theorem tu (hfn:FnAt w.heap.size w vf f)(hnice:gT f)(him:Hh f){i:CG}{va vm:Value}(ha:U32At w.heap.size w va i.args)(hm:TabAt w.heap.size w vm i.mem)(hnn:∀a∈i.args,0<=a/\a<4294967296) :
  Calls prog 54 #[vf,.agg #[va,vm]] w fun e w'=>AllP f i (w.heap.size+2) e w'/\Gr w w':=by
 obtain⟨i2,bh,bu,bv,b4⟩:=info_parts kC;have bx:(Value.int .u32 0).cells.size=1:=rfl;obtain⟨vp,vs,vb,rfl,hp,hs,hb⟩:=hfn;have aU:Hid (FnAt w.heap.size w (.agg #[vp,.int .i64 f.ret,vs,vb]) f):=⟨vp,vs,vb,rfl,hp,hs,hb⟩;have HA:=dJ ha;have HM:=dJ hm;have az:=dJ hnn;have bG:=dJ him;obtain⟨W,hW⟩:=xJ ((w.alloc (.cells #[vp,.int .i64 f.ret,vs,vb] 36)).alloc (.cells #[va,vm] 41));obtain⟨g0,bf,aG⟩:=nN hW;have CV:=dJ (iS (w:=W) (f:=f) (vf:=.agg #[vp,.int .i64 f.ret,vs,vb]) (i:=i) (va:=va) (vm:=vm) ((aU.out.below g0).mono g0.size) hnice (SlAt.mono (U32At.below ha g0) g0.size) ((hm.below g0).mono g0.size) hnn);have HC:=dJ aG;obtain⟨k0,k1,k2,k3,k4,k5⟩:=aG W (yO _);have aV:=dJ g0;have bR:=dJ bf;obtain⟨Ap,cp,rfl,-⟩:=id hp;obtain⟨As,cs,rfl,-⟩:=id hs;obtain⟨Ab,cb,rfl,-⟩:=id hb;obtain⟨Aa,ca,rfl,-⟩:=id ha;obtain⟨Am,cm,rfl,-⟩:=id hm;obtain⟨V,hV⟩:=xJ (AB f i);rw[hV]at CV;have HV:=dJ hV;clear g0 hV aG hp hs hb bf ha hm hnn him;by_cases bq:V=0
 ·subst bq;have hf:VFn f:=⟨(FC HV.out).1,bG.out⟩;have aa:=dJ hf;clear hf
  go_enter func54, ntmps54
  go_wp2_with (go_at_call 27;refine CV.out.mono ?_;rintro e w1 ⟨rfl,g1⟩;have ad:=dJ g1;clear k0 k1 k2 k3 k4 k5);obtain⟨R,hR⟩:=xJ (Rn.all f i);have HR:=dJ hR
  have bF:Hid (uA f i (w.heap.size+2) R 1 (.slice none 0 0) (.slice none 0 0) w1) :=
   ⟨fun _=>False,[],[],[],⟨rfl,⟨rfl,.inl ⟨rfl,rfl⟩⟩,fun j o vm h=>by simp at h⟩,Own1.nil _ _ _,fun _ h=>h.elim,K8 f i,(by unfold Gn;exact List.Pairwise.nil),(fun o h=>by cases h),yJ _,hR⟩
  have aQ:Hid (w.heap.size+2<=w1.heap.size):=by show _<=_;have:=g1.size;have:=bR.out;omega
  have bB:Hid (∀wr,FrS (fun k=>w.heap.size+2<=k) w1 wr->C6 wr w.heap.size (.slice Ap f.p.length cp) (.int .i64 f.ret) (.slice As f.s.length cs) (.slice Ab f.b.length cb) (.slice Aa i.args.length ca) (.slice Am i.mem.length cm)):=fun wr hF=>by have hb:Below (w.heap.size+2) w1 wr:=hF.below (fun k d=>d) aQ.out;obtain⟨j0,j1,j2,j3,j4,j5⟩:=HC.out w1 ad.out;have q:=fun(k o:Nat)(h:k<w.heap.size+2)=>hb.cell (p:=⟨k,o,none⟩) h;exact⟨(q _ 0 (by omega)).trans j0,(q _ 1 (by omega)).trans j1,(q _ 2 (by omega)).trans j2,(q _ 3 (by omega)).trans j3,(q _ 0 (by omega)).trans j4,(q _ 1 (by omega)).trans j5⟩
  have aW:Hid (∀wr,FrS (fun k=>w.heap.size+2<=k) w1 wr->Gr w wr):=fun wr hF=>lE (aV.out.trans ad.out) hF (fun k d=>by omega);clear hR g1;go_wp2
  go_loopw [7,8,9] (fun s7 s8 s9 wr=>∃n:Nat,1<=n/\n<=257/\s9=.int .i64 (n:Int)/\Hid (uA f i (w.heap.size+2) R n s7 s8 wr)/\Hid (FrS (fun k=>w.heap.size+2<=k) w1 wr)) (fun _ _ s9 _=>257-(intOf s9).toNat)
  case atStart=>exact⟨1,yJ _,by decide,rfl,bF,FrS.refl _ _⟩
  case round =>
   obtain⟨n,ci,cj,rfl,hI,hF⟩:=hrel;obtain⟨D,cq,p,r,bd,ah,aC,ai,aD,aE,cf,be⟩:=hI.out;obtain⟨q0,q1,-,-⟩:=IK lX aa.out.val aa.out.im HV.out (fun a ha=>(az.out a ha).1) p;obtain⟨k0,k1,k2,k3,k4,k5⟩:=bB.out wr hF.out;have I:=aW.out wr hF.out;have aJ:p.length<=1000:=by have:=ai.1;omega
   have bm:∀z∈p,0<=z/\z<4294967296:=fun z hz=>Jd ai q1 z (by unfold AW;exact List.mem_append_left _ hz);have CR:=dJ (tx (w:=wr) (f:=f) (i:=i) (vf:=.agg #[.slice Ap f.p.length cp,.int .i64 f.ret,.slice As f.s.length cs,.slice Ab f.b.length cb]) (va:=.slice Aa i.args.length ca) (vm:=.slice Am i.mem.length cm) (vpk:=u8) (picks:=p) ((aU.out.below I).mono I.size) aa.out HV.out (SlAt.mono (U32At.below HA.out I) I.size) ((HM.out.below I).mono I.size) (fun a ha=>(az.out a ha).1) (ah.u32 aJ) bm aJ);obtain⟨O,c8,e8⟩:=ah.form;rw[yl]at e8;subst e8;obtain⟨X,hX⟩:=xJ (DC f (zo p) i);have E:Hid (Bq f i p=X.2.1.z):=by show _=_;unfold Bq;rw[hX]
   rw[hX]at CR;have a7:Hid (OW X.1):=by rw[<-hX];exact uI aa.out.val aa.out.im HV.out (fun a ha=>(az.out a ha).1) p
   have HX:=dJ hX;have hB:w.heap.size+2<=wr.heap.size:=by have:=hF.out.size;have:=aQ.out;omega
   have aS:Hid (∀(Q:Nat->Prop)(K:World)(o:Obj)(vx:Value),Gr wr K->Keeps Q K vx X.1.mem->(∀k,Q k->wr.heap.size<=k) ->
       Calls prog 87 #[u7,eW X.1 vx] (K.alloc o) fun e C=>∃v' G,e=.returned v'/\OutsAt (fun k=>D k\/Q k) (w.heap.size+2) C v' (Cm X.1 r) G/\Gr (K.alloc o) C):=fun Q K o vx g d hd=>by
    have g':=g.trans ((yO K).alloc o)
    have aH:∀k,D k\/Q k->k<(K.alloc o).heap.size:=fun k hk'=>by
     have:=g'.size;have h1:=g.size;rcases hk' with q|q
     ·have:=(aC k q).1;omega
     ·have:=d.1 k q;simp;omega
    refine qR (D:=fun k=>D k\/Q k) (((bd.frs (FrS.of_gr (S:=fun _=>False) g') (fun _ _ q=>q) (fun _ _ q=>q)).more (fun k q=>.inl q) aH)) (by have:=g'.size;omega) aD (by omega) ((d.gr ((yO K).alloc o)).more (fun k q=>.inr q) aH) aE a7.out
   unfold eW at aS;have ax:=dJ ah;have aX:=dJ aC;have Y:=dJ ai;have aY:=dJ aD;have aZ:=dJ aE;have ae:=dJ be;have bQ:=dJ q0;have a4:=dJ q1;have bA:=dJ hB;clear hI bd ah aC ai aD aE be hX q0 q1 hB bm aJ;by_cases hn:n=257
   ·subst hn;go_wp2_with (go_at_call 86;refine CR.out.mono ?_;rintro e K ⟨cw,cx,n6,c6,n8,c8,c9,Aw,Ax,A6,O,A9,z7,rfl,-,-,g6⟩;have H:=dJ (I.trans g6);clear g6 k0 k1 k2 k3 k4 k5);go_ret2;exact⟨.inr (.inl ⟨HV.out,HR.out.trans ae.out.symm,rfl⟩),H.out.alloc _⟩
   ·have ck:(n:Int)<=256:=by omega
    go_wp2_with (first|(go_at_call 86;refine CR.out.mono ?_;rintro e K ⟨cw,cx,n6,c6,n8,c7,c9,Aw,Ax,A6,A7,A9,z7,rfl,⟨Q,d,hD⟩,hw,g6⟩;have CW:=dJ (aS.out Q K (.cells #[.int .i64 X.1.kind,.bool X.1.ret.p,.int .i64 X.1.ret.s,.int .u32 X.1.ret.n,.slice Ax X.1.mem.length cx,.slice Aw X.2.1.z.length cw,.slice A6 n6 c6,.int .i64 z7,.slice A7 n8 c7,.slice A9 n8 c9] 113) _ g6 d hD);have H:=dJ g6;have a5:=dJ hw;have aR:=dJ hD;have a0:=dJ d.1;clear g6 d hD hw k0 k1 k2 k3 k4 k5)|(go_at_call 87;refine CW.out.mono ?_;rintro e C ⟨v',G,rfl,ho,g8⟩;have a2:=dJ ho;have aw:=dJ g8;clear ho g8 CW))
    obtain⟨N6,aF⟩:=xJ K.heap.size
    have U:Hid (C.heap[N6]?=some (.cells #[.int .i64 X.1.kind,.bool X.1.ret.p,.int .i64 X.1.ret.s,.int .u32 X.1.ret.n,.slice Ax X.1.mem.length cx,.slice Aw X.2.1.z.length cw,.slice A6 n6 c6,.int .i64 z7,.slice A7 n8 c7,.slice A9 n8 c9] 113 (0,0))):=by show _=_;rw[<-aF];exact(aw.out.heap _ (by simp)).trans (heap_alloc_new _ _)
    rw[aF];obtain⟨ws,bs⟩:=xJ X.2.1.z;obtain⟨nw,F⟩:=xJ ws.length;have T:Hid (Gr K C):=((yO K).alloc _).trans aw.out;have M:Hid (Own1 wr.heap.size 3 C (.slice Aw X.2.1.z.length cw) (X.2.1.z.map (Value.int .i64))):=a5.out.gr T.out;have aB:Hid (Own1 (w.heap.size+2) 22 C (.slice O p.length c8) (p.map (Value.int .u32))):=ax.out.gr (H.out.trans T.out);rw[bs]at U M E;rw[F]at U M;have a6:Hid (ws.length=nw):=F
    have ac:Hid (∀k,D k\/Q k->k<C.heap.size/\(Value.slice O p.length c8).ownBlock≠some k):=fun k d=>by
     have h1:=H.out.size;have h2:=T.out.size;rcases d with q|q
     ·exact⟨by have:=(aX.out k q).1;omega,(aX.out k q).2⟩
     ·refine⟨by have:=a0.out k q;omega,fun e=>?_⟩;have h3:=(di ax.out e).2.1;have h4:=aR.out k q;omega
    have aA:Hid (∀k,(Value.slice O p.length c8).ownBlock=some k->w.heap.size+2<=k/\k<wr.heap.size/\k≠N6):=fun k d=>by obtain⟨h1,h2,-⟩:=di ax.out d;exact⟨h1,h2,by have:=H.out.size;omega⟩
    have aT:Hid (FrS (fun k=>w.heap.size+2<=k) w1 C):=hF.out.trans (FrS.of_gr (H.out.trans T.out))
    have L:Hid (∀u,FrS (fun k=>(Value.slice O p.length c8).ownBlock=some k) C u->u.cell? ⟨N6,5,none⟩=some (.slice Aw nw cw)/\Own1 wr.heap.size 3 u (.slice Aw nw cw) (ws.map (Value.int .i64))/\OutsAt (fun k=>D k\/Q k) (w.heap.size+2) u v' (Cm X.1 r) G/\FrS (fun k=>w.heap.size+2<=k) w1 u):=fun u l=>by refine⟨yo _ _ 5 _ _ _ ((l.block _ (cY U.out) (fun e=>(aA.out _ e).2.2 rfl)).trans U.out),dm M.out fun k d=>l.block _ (di M.out d).2.1 (fun e=>by have:=(aA.out _ e).2.1;have:=(di M.out d).1;omega),a2.out.frs l (fun k d e=>(ac.out k d).2 e) (fun k d e=>?_),aT.out.trans (l.mono fun k d=>(aA.out k d).1)⟩;exact je a2.out.own aB.out (by decide) k d e
    have bk:p.length<=nw:=by have:=Y.out.1;rw[E.out,F]at this;exact this
    have b2:nw<=400:=by have:=bQ.out;rw[E.out,F]at this;exact this
    have bN:Hid (Own1 (w.heap.size+2) 22 C (.slice O p.length c8) ((AW p p.length).map (Value.int .u32))):=by
     have e:AW p p.length=p:=by unfold AW;simp
     show Own1 _ _ _ _ _;rw[e];exact aB.out
    have ar:Hid (w.heap.size+2<=C.heap.size):=by show _<=_;have:=bA.out;have:=H.out.size;have:=T.out.size;omega
    clear bs F aF U M aB a5 a0 aR aT aw;go_wp2
    go_loopw [8] (fun s8 u=>∃(t:Nat)(A:Option Addr)(c:Nat),p.length<=t/\t<=nw/\s8=.slice A t c/\Hid (Own1 (w.heap.size+2) 22 u (.slice A t c) ((AW p t).map (Value.int .u32)))/\Hid (FrS (fun k=>(Value.slice O p.length c8).ownBlock=some k) C u)/\Hid (∀k,(Value.slice A t c).ownBlock=some k->(Value.slice O p.length c8).ownBlock=some k\/C.heap.size<=k)) (fun s8 _=>nw-slLen s8)
    case atStart=>exact⟨p.length,O,c8,yJ _,bk,rfl,bN,FrS.refl _ _,fun k d=>.inl d⟩
    case round =>
     obtain⟨t,A,c,bp,cl,rfl,ho,l,aj⟩:=hrel;obtain⟨x5,br,-,-⟩:=L.out wr l.out;by_cases aH:t<nw
     ·have bI:Hid (((AW p t).map (Value.int .u32)).length=t):=by show _=_;rw[yl,FX bp]
      have al:w.heap.size+2<=wr.heap.size:=by have:=l.out.size;have:=ar.out;omega
      have bO:=dJ (nd bp);clear br
      go_wp2_with (at_builtin;refine kZ (n:=t) (v:=.slice A t c) underlying39 bh bu bv b4 rfl (by omega) rfl (.tmp 36) (.tmp 37) rfl bI.out rfl ho.out rfl rfl (by omega) al ?_;intro A2 c2 w2 bi bg ao
                   have bL:Hid (Own1 (w.heap.size+2) 22 w2 (.slice A2 (t+1) c2) ((AW p (t+1)).map (Value.int .u32))):=by (show Own1 _ _ _ _ _;rw[bO.out];exact bi)
                   have bE:Hid (FrS (fun k=>(Value.slice O p.length c8).ownBlock=some k) C w2):=(l.out.alloc _).grown bg aj.out
                   have aP:Hid (∀k,(Value.slice A2 (t+1) c2).ownBlock=some k->(Value.slice O p.length c8).ownBlock=some k\/C.heap.size<=k):=fun k d=>(ao k d).elim (aj.out k) (fun q=>.inr (by have:=l.out.size;omega))
                   clear bi bg ao)
      exact⟨⟨t+1,A2,c2,by omega,by omega,rfl,bL,bE,aP⟩,by simp[slLen];omega⟩
     ·obtain rfl:t=nw:=by omega
      obtain⟨B,J⟩:=xJ (AW p t);have aq:B.length=t:=by rw[<-J];exact FX bk
      have am:=a6.out
      have bP:Hid (∀z∈B,0<=z/\z<4294967296):=by have h:=Jd Y.out a4.out;rw[E.out,am,J]at h;exact h
      have bS:Hid (∀z∈ws,zi z):=by have h:=a4.out;rw[E.out]at h;exact h
      have bJ:Hid (∀j,j<t->B.getD j 0<m9 (ws.getD j 0)):=fun j hj=>by
       rw[<-J,I7];rcases yw j p.length with q|q
       ·have:=(Y.out.2 j q).2;rwa [E.out]at this
       ·rw[xU,yi q];exact BC _
      obtain⟨m,hm⟩:∃m,257-n=m+1:=⟨256-n,by omega⟩
      have bC:Hid (DG B ws t=none->R=some (Cm X.1 r)):=by
       have h:=ae.out;rw[hm]at h;have h:=(FD h).1
       rwa [E.out,am,J,HX.out]at h
      have bD:Hid (∀k,DG B ws t=some k->E6 f i (257-(n+1)) (FM B k) (Cm X.1 r)=R/\IP f i (FM B k)):=fun k d=>by have h:=ae.out;rw[hm]at h;have h:=(FD h).2 k;have h2:=KI Y.out (k:=k);rw[E.out,am,J]at h h2;rw[HX.out]at h;rw[show 257-(n+1)=m by omega];exact⟨h d,(h2 d).1⟩
      have ay:Hid ((Cm X.1 r).length+1<=n+1/\Gn (Cm X.1 r)/\∀o∈Cm X.1 r,OW o):=⟨by have:=IL X.1 r;omega,IE _ _ aY.out,fun o ho=>(hU ho).elim (fun e=>e ▸ a7.out) (aZ.out o)⟩;have a3:Hid (Own1 (w.heap.size+2) 22 wr (.slice A t c) (B.map (Value.int .u32))):=by rw[<-J];exact ho.out
      have au:Hid (∀k,D k\/Q k->k<C.heap.size/\(Value.slice A t c).ownBlock≠some k):=fun k d=>⟨(ac.out k d).1,fun e=>(aj.out k e).elim (ac.out k d).2 (fun q=>by have:=(ac.out k d).1;omega)⟩;have af:Hid (B.length=t):=aq;clear br ho aj J aq hm am Y aY aZ ae;go_wp2
      go_loopw [11] (fun aO u=>∃(j:Nat)(z:Int),j<=t/\z+1=j/\aO=.int .i64 z/\Hid (DG B ws t=DG B ws j)/\Hid (Gr wr u)) (fun aO _=>(intOf aO+1).toNat)
      case atStart=>exact⟨t,(t:Int)-1,yJ _,by omega,rfl,rfl,yO _⟩
      case round =>
       obtain⟨j,z,hj,hz,rfl,ak,hg⟩:=hrel;rcases Nat.eq_zero_or_pos j with rfl|bl
       ·obtain rfl:z=-1:=by omega
        have HE:Hid (R=some (Cm X.1 r)):=bC.out (by rw[ak.out];rfl);clear ak;go_wp2;refine dc (by kernel_rfl) (by kernel_rfl) ?_;repeat (go_big_quiet_step (fail))
        refine wpQuiet_nil ?_;intro w9 ab;obtain⟨u9,rfl⟩:=ab;have G9:=dJ (hg.out.trans u9.gr);go_wp2;go_ret2;obtain⟨-,-,o9,f9⟩:=L.out _ (l.out.trans (FrS.of_gr G9.out));exact⟨.inr (.inr ⟨HV.out,_,HR.out.trans HE.out,by have:=ay.out.1;omega,ay.out.2.1,v',_,G,rfl,o9⟩),aW.out _ f9⟩
       ·obtain⟨k,rfl⟩:∃k,j=k+1:=⟨j-1,by omega⟩;obtain rfl:z=(k:Int):=by omega
        clear hz;obtain⟨x,hx⟩:∃x,B[k]?=some x:=⟨_,xR (by have:=af.out;omega)⟩;obtain⟨y,hy⟩:∃y,ws[k]?=some y:=⟨_,xR (by have:=a6.out;omega)⟩;obtain⟨x0,x1⟩:=bP.out x (xT hx);have an:=bS.out y (xT hy);have aM:B.getD k 0=x:=by rw[xU,hx];rfl
        have aN:ws.getD k 0=y:=by rw[xU,hy];rfl
        have ap:=bJ.out k (by omega);rw[aM,aN]at ap;obtain⟨b,cc,ev,q1,q2,q3,q4,q5⟩:=fs (a3.out.gr hg.out) (j:=k) (x:=.int .u32 x) (by rw[yc,hx];rfl);obtain⟨-,bz,-,-⟩:=L.out _ (l.out.trans (FrS.of_gr hg.out));obtain⟨b',b9,bT,-,-,r3,r4,r5⟩:=fs bz (j:=k) (x:=.int .i64 y) (by rw[yc,hy];rfl);injection ev with bU bV ag;clear bV;subst bU;subst ag;injection bT with a9 ba bb;clear ba;subst a9;subst bb;obtain⟨yn,rfl⟩:=xZ (show 0<=y by have:=an.1;omega);have co:yn<64:=by have:=an.2;omega
        have aL:=C4 an;have bo:=BC (yn:Int);have aK:Hid (DG B ws (k+1)=if x+1<m9 (yn:Int) then some k else DG B ws k):=by show _=_;rw[DG,aM,aN]
        have al:m9 (yn:Int)=2 ^ yn:=by unfold m9;rw[ya]
        rw[al]at aK ap aL bo;have e1:IntKind.i64.wrap x=x:=IntWalk.i64_in _ (by omega);have e2:IntKind.i64.wrap (x+1)=x+1:=IntWalk.i64_in _ (by omega);have e3:IntKind.i64.wrap (2 ^ yn)=2 ^ yn:=IntWalk.i64_in _ (by omega);have b6:=(L.out _ (l.out.trans (FrS.of_gr hg.out))).1;have Y1:=fun u:GrW wr=>(u.gr.cell _ _ q5).trans q3;have Y2:=fun u:GrW wr=>(u.gr.cell _ _ r5).trans r3;have Y3:=fun u:GrW wr=>(L.out _ (l.out.trans (FrS.of_gr (hg.out.trans u.gr)))).1;have ch:k<t:=by omega
        have a8:Hid (B[k]?=some x):=hx;have cg:t<=c:=by rw[yl,af.out]at q1;exact q1
        clear bz hx hy aM aN an al q3 q4 q5 r3 r4 r5 bl b6;by_cases cn:x+1=2 ^ yn
        ·go_wp2;refine dc (by kernel_rfl) (by kernel_rfl) ?_;repeat (go_big_quiet_step (fail))
         refine wpQuiet_nil ?_;intro w9 ab;obtain⟨u9,rfl⟩:=ab;have G9:=dJ (hg.out.trans u9.gr);clear Y1 Y2 Y3;go_wp2;have bK:Hid (DG B ws t=DG B ws k):=by show _=_;rw[ak.out,aK.out,yt (by omega)]
         exact⟨⟨k,(k:Int)-1,by omega,by omega,by go_num,bK,G9⟩,by simp[intOf]<;>omega⟩
        ·have b5:x+1<2 ^ yn:=by omega
         have HK:Hid (DG B ws t=some k):=by show _=_;rw[ak.out,aK.out,yr b5]
         go_wp2;refine dc (by kernel_rfl) (by kernel_rfl) ?_;repeat (go_big_quiet_step (fail))
         refine wpQuiet_nil ?_;intro w9 ab;obtain⟨u9,rfl⟩:=ab;have G9:=dJ (hg.out.trans u9.gr);clear Y1 Y2 Y3;have e4:IntKind.u32.wrap (x+1)=x+1:=Jw _ (by omega) (by omega)
         have bM:Hid (Own1 (w.heap.size+2) 22 u9.val (.slice (some ⟨b,0,none⟩) (k+1) c) ((B.take (k+1)).map (Value.int .u32))):=by
          have:=kI (a3.out.gr G9.out) (k:=k+1) (by rw[yl];have:=af.out;omega)
          rwa [<-List.map_take]at this
         have Z:Hid (((B.take (k+1)).map (Value.int .u32)).length=k+1):=by show _=_;rw[yl,List.length_take];have:=af.out;omega
         have bH:Hid (((B.take (k+1)).map (Value.int .u32))[k]?=some (.int .u32 x)):=by show _=_;rw[yc,yf,yr (by omega),a8.out];rfl
         go_wp2_with (at_builtin;refine nE (ys:=(B.take (k+1)).map (Value.int .u32)) (n:=k+1) underlying39 bh bu bv (by omega) bx rfl (.tmp 66) (.tmp 70) rfl rfl ((bM.out.gr ((yO u9.val).alloc _)).src Z.out) Z.out (by omega) (fun y hy=>by obtain⟨z,-,rfl⟩:=List.mem_map.1 hy;rfl) rfl ?_
                      intro A3 c3 w3 bn g3
                      have av:=dJ (((yO u9.val).alloc (.cells #[] 22)).trans g3)
                      have aI:=bn.own (by rw[Z.out];omega)
                      obtain⟨b3,cd,ag,-,-,z3,z4,z5⟩:=fs aI bH.out
                      rw[Z.out]at ag
                      injection ag with bW bX bY
                      clear bX
                      subst bW;subst bY
                      have a1:=dJ aI
                      clear bn g3 aI)
         have f9:=L.out _ (l.out.trans (FrS.of_gr G9.out));have bc:FrS (·=b3) w3 (w3.setCell ⟨b3,k,none⟩ (.int .u32 (x+1))):=(FrS.refl (·=b3) w3).setCell (p:=⟨b3,k,none⟩) rfl _;obtain⟨b1,-,-⟩:=di a1.out (k:=b3) rfl;have b7:u9.val.heap.size<=b3:=by simp at b1;omega
         have b8:C.heap.size<=u9.val.heap.size:=by have:=l.out.size;have:=G9.out.size;omega
         have bj:=rL a1.out (j:=k) (by rw[Z.out];omega) (.int .u32 (x+1));rw[tq a8.out]at bj;obtain⟨HE,HG⟩:=bD.out k HK.out;obtain⟨l1,l2,l3⟩:=ay.out;have b0:=(f9.2.2.1.frs (FrS.of_gr (S:=fun _=>False) av.out) (fun _ _ q=>q) (fun _ _ q=>q)).frs bc (fun q N e=>by have:=(au.out q N).1;omega) (fun q N e=>by have:=(dt f9.2.2.1.own q N).2;omega);have bZ:FrS (fun q=>w.heap.size+2<=q) w1 (w3.setCell ⟨b3,k,none⟩ (.int .u32 (x+1))):=f9.2.2.2.trans ((FrS.of_gr av.out).trans (bc.mono fun q N=>by have:=ar.out;omega));have ce:w.heap.size+2<=b3:=by have:=ar.out;omega
         refine⟨⟨n+1,by omega,by omega,by go_num,?_,bZ⟩,by simp[intOf];omega⟩;exact⟨_,G,_,_,b0,bj.base (fun q N=>by have N:some b3=some q:=N;injection N with N;omega),fun q N=>⟨by have:=(au.out q N).1;have:=av.out.size;simp;omega,fun e=>by have e:some b3=some q:=e;injection e with e;have:=(au.out q N).1;omega⟩,HG,l2,l3,l1,HE⟩
 ·go_enter func54, ntmps54
  go_wp2_with (go_at_call 27;refine CV.out.mono ?_;rintro e w1 ⟨rfl,g1⟩;have ad:=dJ g1);go_ret2;exact⟨.inl ⟨by rw[HV.out];exact bq,by rw[HV.out];rfl⟩,aV.out.trans ad.out⟩
end
namespace Rn
open Ref
theorem KN {f:Fn}{i:CG}:∀(n:Nat)(p:List Int)(outs R:List zO),E6 f i n p outs=some R->Gn outs->Gn R/\R.length<=outs.length+n
 | 0,p,outs,R,h,_=>by simp[E6]at h
 | n+1,p,outs,R,h,ha=>by
  obtain⟨g,j⟩:=FD h
  have d:=IE (DC f (zo p) i).1 outs ha;have m:=IL (DC f (zo p) i).1 outs
  cases hk:DG (AW p (Bq f i p).length) (Bq f i p) (Bq f i p).length with
  | none=>have:=g hk;injection this with this;rw[this];exact⟨d,by omega⟩
  | some k =>
   obtain⟨l,q⟩:=KN n _ _ R (j k hk) d;exact⟨l,by omega⟩
theorem NS {f:Fn}{i:CG}{outs:List zO}(h:all f i=some outs):Gn outs/\outs.length<=256:=by obtain⟨d,g⟩:=KN 256 [] [] outs h (by unfold Gn;exact List.Pairwise.nil);exact⟨d,by simpa using g⟩
end Rn
section
open Go.RowKit Go.Shelf
def fq (f:Fn)(i:CG):List zO:=if AB f i=0 then (Rn.all f i).getD [] else []
def mL (f:Fn)(i:CG):Int:=if AB f i=0 then (if Rn.all f i=none then 3 else 0) else AB f i
def pS (o:zO):Bool:=decide (o.kind=0) && !o.ret.p && o.mem.all (fun r=>r.all fun b=>decide (0<=b))
def OB (o:zO):Prop:=OW o/\∀r∈o.mem,∀b∈r,-1<=b
theorem wJ {f:Fn}{i:CG}(hv:FB f)(hi:Hh f)(hin:AB f i=0)(ha:∀a∈i.args,0<=a)(p:List Int):OB (DC f (zo p) i).1:=by
 refine⟨uI hv hi hin ha p,?_⟩;obtain⟨-,-,h,q⟩:=IK lX hv hi hin ha p;rcases q with ⟨-,q,-⟩|q|q
 ·rw[q];exact fun r d b g=>(h.bytes r d b g).1
 all_goals rw[q];intro r d;cases d
theorem jM {P:zO->Prop}{f:Fn}{i:CG}(h:∀p,P (DC f (zo p) i).1):∀(n:Nat)(p:List Int)(outs outs':List zO),(∀o∈outs,P o)->E6 f i n p outs=some outs'->∀o∈outs',P o
 | 0,p,outs,outs',_,he=>by rw[E6]at he;cases he
 | n+1,p,outs,outs',ho,he=>by
  obtain⟨g,j⟩:=FD he
  have d:∀o∈Cm (DC f (zo p) i).1 outs,P o:=fun o hm=>(hU hm).elim (fun e=>e ▸ h p) (ho o)
  cases hN:DG (AW p (Bq f i p).length) (Bq f i p) (Bq f i p).length with
  | none =>
   have e:=g hN;injection e with e;rw[e];exact d
  | some k=>exact jM h n _ _ _ d (j k hN)
section
variable {f:Fn}{i:CG}
theorem ue (him:Hh f)(ha:∀a∈i.args,0<=a):∀o∈fq f i,OB o:=by
 unfold fq;split
 ·rename_i h
  cases hA:Rn.all f i with
  | none=>intro o d;cases d
  | some outs=>exact jM (wJ (FC h).1 him h ha) 256 [] [] outs (fun o d=>by cases d) hA
 ·intro o d;cases d
theorem gM:(fq f i).length<=256:=by
 unfold fq;split
 ·cases hA:Rn.all f i with
  | none=>exact yI _
  | some outs=>exact(NS hA).2
 ·exact yI _
theorem nY (D:Nat->Prop)(B:Nat)(w:World):OutsAt (fun _=>False) B w (.slice none 0 0) [] []:=⟨rfl,⟨rfl,.inl ⟨rfl,rfl⟩⟩,fun j o vm h=>by simp at h⟩
def xe (f:Fn)(i:CG)(B:Nat)(e:Ending)(w':World):Prop:=∃A c D vms,e=.returned (.tuple #[.slice A (fq f i).length c,.int .i64 (mL f i)])/\OutsAt D B w' (.slice A (fq f i).length c) (fq f i) vms
theorem AllP.row {B:Nat}{e:Ending}{w':World}(h:AllP f i B e w'):xe f i B e w':=by
 unfold xe fq mL;rcases h with ⟨h,rfl⟩|⟨h,d,rfl⟩|⟨h,l,d,-,-,v,D,g,rfl,j⟩
 ·rw[yt h,yt h];exact⟨none,0,_,[],rfl,nY (fun _=>False) _ _⟩
 ·rw[yr h,yr h,d];exact⟨none,0,_,[],rfl,nY (fun _=>False) _ _⟩
 ·rw[yr h,yr h,d];obtain⟨A,c,rfl,-⟩:=dE j.own;exact⟨A,c,D,g,rfl,j⟩
end
abbrev xo (w:World):={x:Value × List Int // IntsAt w.heap.size w x.1 x.2}
theorem tJ (w:World):IntsAt w.heap.size w (.slice none 0 0) []:=⟨none,0,rfl,yJ _,yI _,fun h=>absurd h (by simp)⟩
instance (w:World):Inhabited (xo w):=⟨⟨(.slice none 0 0,[]),tJ w⟩⟩
end
section
namespace Rf
open Rn Ref
def EL:List Int->List Int->Bool
 | [],[]=>true
 | x::a,y::b=>(decide (x=-1) || decide (x=y)) && EL a b
 | _,_=>false
def EY:List (List Int)->List (List Int)->Bool
 | [],[]=>true
 | x::a,y::b=>EL x y && EY a b
 | _,_=>false
def EM (s t:zO):Bool :=
 if s.kind=1 then true
 else if s.kind=2 then decide (t.kind=2)
 else if s.kind≠0\/t.kind≠0 then false
 else if s.ret.p=false/\s.ret≠t.ret then false
 else EY s.mem t.mem
def FY (s t:List zO):Bool:=s.any (fun x=>decide (x.kind=1)) || t.all fun y=>s.any fun x=>EM x y
def JC:List Int->Int->List Int
 | [],_=>[]
 | n::r,k=>k%m9 n::JC r (k / m9 n)
def BP (f:Fn)(k:Int):CG:=⟨(JC f.p.reverse k).reverse,f.s.map fun n=>List.replicate n.toNat 0⟩
def EJ (fl:Int):Fn:=⟨[4,4],4,[],[[⟨1,4,fl,[0,1],0,[]⟩,⟨31,0,0,[2],0,[]⟩]]⟩
def BB:List Int->Int
 | []=>0
 | w::r=>w+BB r
def FP:List Int->Int
 | []=>1
 | w::r=>m9 w*FP r
theorem KO (w:Int):∀(l:List Int)(k:Int),JC (l++[w]) k=JC l k++[k / FP l%m9 w]
 | [],k=>by simp[JC,FP]
 | n::r,k=>by rw[List.cons_append,JC,JC,KO w r,List.cons_append,FP,Int.ediv_ediv_of_nonneg (Int.le_of_lt (BC n))]
theorem KF:∀l:List Int,(∀w∈l,0<=w)->0<=BB l/\FP l=m9 (BB l)
 | [],_=>⟨Int.le_refl 0,rfl⟩
 | w::r,h=>by
  obtain⟨g,j⟩:=KF r fun x hx=>h x (by simp[hx])
  have d:=h w (by simp);refine⟨by unfold BB;omega,?_⟩;rw[FP,j,BB];unfold m9;rw[Int.toNat_add d g,Int.pow_add]
theorem KQ:∀a b:List Int,FP (a++b)=FP a*FP b
 | [],b=>by simp[FP]
 | w::r,b=>by rw[List.cons_append,FP,FP,KQ r b,Int.mul_assoc]
theorem MP:∀l:List Int,FP l.reverse=FP l
 | []=>rfl
 | w::r=>by rw[List.reverse_cons,KQ,MP r,FP,FP,FP,Int.mul_one,Int.mul_comm]
def Gk (k:Int):List Int->List Int
 | []=>[]
 | w::r=>k / m9 (BB r)%m9 w::Gk k r
theorem LK (k:Int):∀l:List Int,(∀w∈l,0<=w)->Gk k l=(JC l.reverse k).reverse
 | [],_=>rfl
 | w::r,h=>by
  have g:=KF r fun x d=>h x (by simp[d])
  rw[List.reverse_cons,KO,List.reverse_append,MP,g.2,Gk,LK k r fun x d=>h x (by simp[d])];rfl
end Rf
end
section
def Ref.Gf (f g:Fn):Bool:=decide (f.p=g.p) && (f.ret == g.ret) && decide (f.s=g.s)
def Ref.Eu (f g:Fn):Int:=if zL f=0 then zL g else zL f
def Ref.FV (f g:Fn):Bool:=if Eu f g=0 then Gf f g else false
namespace Rf
open Rn Ref
def ET (f g:Fn):Int:=if Eu f g≠0 then Eu f g else if Gf f g=false then 5 else 0
def E7 (f:Fn)(i:CG):Int:=if AB f i≠0 then AB f i else if all f i=none then 3 else 0
def Fa (f g:Fn)(i:CG):Int:=if ET f g≠0 then ET f g else if E7 f i≠0 then E7 f i else E7 g i
def EZ (f:Fn)(i:CG):List zO:=(all f i).getD []
def Lq (f g:Fn)(i:CG):Bool:=FY (EZ f i) (EZ g i)
def E2 (f:Fn):Int:=if zL f≠0 then zL f else if 8<BB f.p then 3 else 0
def Gp (f:Fn):Int:=if E2 f=0 then m9 (BB f.p) else 0
def E4 (f g:Fn):Nat->Nat->Int × Bool × Int
 | 0,_=>(0,false,0)
 | n+1,k=>if Fa f g (BP f k)≠0 then (0,false,Fa f g (BP f k)) else if Lq f g (BP f k)=true then E4 f g n (k+1) else (k,true,0)
def Ey (f g:Fn):Int × Bool × Int :=
 if ET f g≠0 then (0,false,ET f g) else if E2 f≠0 then (0,false,E2 f) else E4 f g (Gp f).toNat 0
theorem Ou:Ey (EJ 2) (EJ 0)=(0,false,0):=by decide +kernel
theorem OF:Ey (EJ 0) (EJ 2)=(23,true,0):=by decide +kernel
theorem Lj:E2 (EJ 0)=0/\Gp (EJ 0)=256:=by decide +kernel
def Fq (o:zO):Int:=if o.kind=1 then 2 else if o.kind≠0\/o.ret.p=true then 1 else if o.mem.any (fun r=>r.any fun b=>decide (b=-1))=true then 1 else 0
def Ov:List zO->Int
 | []=>0
 | o::r=>if Fq o<Ov r then Ov r else Fq o
end Rf
end
end

/- Parts. -/
import Derived.Test.YthfjdhanbegaoaaGreatDoorT17
set_option linter.unusedSimpArgs false
set_option linter.unusedVariables false
set_option maxRecDepth 100000
set_option maxHeartbeats 16000000
open Go.Proofs.Tryz
namespace Go.Proofs.YthfjdhanbegaoaaGreatDoor
open Go.RowKit Go.Shelf
attribute [local go_sem] Oper.semAt_some
theorem laid_last {l:List Ins}{y:Ins}(hy:l.getLast?=some y)(h:Ref.isLast y.op=false):Ref.laid l=false:=by
 have:∀(l:List Ins)(p:Bool),l.getLast?=some y->Ref.laidFrom l p=false:=by
  intro l
  induction l with
  | nil=>intro p h;simp at h
  | cons x r ih =>
   intro p d;rw[Ref.laidFrom]
   cases r with
   | nil=>simp at d;subst d;simp[h]
   | cons z r'=>rw[ih _ (by rw[List.getLast?_cons_cons]at d;exact d)];simp
 unfold Ref.laid;rw[this l true hy];simp
theorem lU {l:List Ins}(h:l≠[]):Ref.laid l=Ref.laidFrom l true:=by
 unfold Ref.laid
 cases l with
 | nil=>exact absurd rfl h
 | cons a b=>rfl
theorem kq (v:Value)(f:Fn)(w:World)(hf:FnAt w.heap.size w v f)(hb1:1<=f.blocks.length)(hb10:f.blocks.length<=10)(hA:Hid (∀l∈f.blocks,∀x∈l,Ref.argument f x=true)) :
  Calls prog 52 #[v] w (RG (.bool (Ir.isLaid f)) w):=by
 have aU:=hf;obtain⟨vp,vs,vb,rfl,hp,bv,hb⟩:=hf;obtain⟨Ap,cp,rfl,-,-,-⟩:=hp;obtain⟨As,cs,rfl,-,-,-⟩:=bv;obtain⟨Ab,cb,rfl,-,bI,aR⟩:=hb;obtain⟨bb,ob,rfl,bm,Q⟩:=aR (by omega);obtain⟨W,hW⟩:=xJ ((w.alloc (.cells #[.slice Ap f.params.length cp,.int .i64 f.ret,.slice As f.slots.length cs,.slice (some ⟨bb,ob,none⟩) f.blocks.length cb] 25)).alloc (.cells #[.bool false] 4));have E:Gr w W:=by rw[<-hW];exact((qj w).alloc _).alloc _
 have bH:W.heap.size=w.heap.size+2:=by rw[<-hW];simp
 have g0:Gr (w.alloc (.cells #[.slice Ap f.params.length cp,.int .i64 f.ret,.slice As f.slots.length cs,.slice (some ⟨bb,ob,none⟩) f.blocks.length cb] 25)) W:=by rw[<-hW];exact(qj _).alloc _
 have B0:Hid (∀w',Gr W w'->w'.cell? ⟨w.heap.size,0,none⟩=some (.slice Ap f.params.length cp)/\w'.cell? ⟨w.heap.size,1,none⟩=some (.int .i64 f.ret)/\w'.cell? ⟨w.heap.size,2,none⟩=some (.slice As f.slots.length cs)/\w'.cell? ⟨w.heap.size,3,none⟩=some (.slice (some ⟨bb,ob,none⟩) f.blocks.length cb)) :=
  fun w' q=>⟨(q.cell _ _ (by omega)).trans (dg _ _ 0 g0 rfl),(q.cell _ _ (by omega)).trans (dg _ _ 1 g0 rfl),(q.cell _ _ (by omega)).trans (dg _ _ 2 g0 rfl),(q.cell _ _ (by omega)).trans (dg _ _ 3 g0 rfl)⟩
 have bu:W.heap[w.heap.size+1]?=some (.cells #[.bool false] 4 (0,0)):=by rw[<-hW];exact heap_alloc2_new w _ _
 have R0:Hid (∀w',Gr W w'->w'.heap[w.heap.size+1]?=some (.cells #[.bool false] 4 (0,0))):=fun w' q=>(q.heap _ (by omega)).trans bu;have HS:Hid (Ir.isLaid f=(f.blocks.all Ref.laid && (Ref.before (Ref.graph f) 0).isEmpty && (Ir.items f).all (Ir.phiOk (Ref.graph f)))):=by show _=_;rfl
 have a8:Hid ((∀l∈f.blocks,l≠[])->∀d,Gr w d->Calls prog 86 #[.agg #[.slice Ap f.params.length cp,.int .i64 f.ret,.slice As f.slots.length cs,.slice (some ⟨bb,ob,none⟩) f.blocks.length cb]] d fun e w'=>∃A n c,e=.returned (.slice A n c)/\Hid (TabAt w'.heap.size w' (.slice A n c) (Ref.graph f))/\Gr d w') :=
  fun af d g1=>(km _ f d (aU.gr g1) (by omega) af).mono fun _ _ ⟨u,h1,h2,h3⟩=>by have bk:=h2;obtain⟨A,c,rfl,-,-,-⟩:=h2;exact⟨A,_,c,h1,bk,h3⟩
 have a7:Hid (f.blocks.all Ref.laid=true->∀d u (z:Int),TabAt d.heap.size d u (Ref.graph f)->0<=z->z<f.blocks.length->Calls prog 87 #[u,.int .i64 z] d fun e w'=>∃A c,e=.returned (.tuple #[.slice A (Ref.before (Ref.graph f) z).length c,.int .i64 0])/\Hid (IntsAt w'.heap.size w' (.slice A (Ref.before (Ref.graph f) z).length c) (Ref.before (Ref.graph f) z))/\Gr d w'):=by intro hL d u z h h0 h1;refine(kg u (Ref.graph f) z d h (fG hA.out hL hb1 hb10) h0 (by simpa[Ref.graph] using h1)).mono ?_;rintro e w' ⟨v,q1,q2,q3⟩;have bz:=q2;obtain⟨A,c,rfl,-,-,-⟩:=q2;exact⟨A,c,q1,bz,q3⟩
 have a6:Hid (∀d,Calls prog 50 #[.agg #[.slice Ap f.params.length cp,.int .i64 f.ret,.slice As f.slots.length cs,.slice (some ⟨bb,ob,none⟩) f.blocks.length cb]] d fun e w'=>e=.returned (.func (.func 81) #[] #[.pointer (some ⟨d.heap.size,0,none⟩)])/\w'=d.alloc (.cells #[.slice Ap f.params.length cp,.int .i64 f.ret,.slice As f.slots.length cs,.slice (some ⟨bb,ob,none⟩) f.blocks.length cb] 25)):=fun d=>iF f Ap As _ _ _ _ cp cs cb d;have HC:=dJ Q;have bd:Hid (f.blocks.all Ref.laid=true->∀l∈f.blocks,l≠[]):=fun h l hl=>ip (pw.1 h l hl);refine(callsIn_wide (n:=5)).1 ?_;refine callsIn_of_wp_marks func52 rfl trivial ?_ rfl;simp only[ntmps52,List.size_toArray,List.length_cons,List.length_nil,Nat.reduceAdd,Nat.reduceSub,Array.replicate_succ,Array.replicate_zero,List.push_toArray,List.append_toArray,List.nil_append,List.cons_append];refine wpIn_wide.2 ?_;obtain⟨-,-,-,k3⟩:=B0.out W (qj _);clear g0 Q aR;go_wp2
 go_loopw [4,5,6,16] (fun _ _ _ b wr=>∃k:Nat,k<=f.blocks.length/\b=.int .i64 k/\Gr W wr/\Hid (f.blocks.all Ref.laid=(f.blocks.drop k).all Ref.laid)) (fun _ _ _ b _=>f.blocks.length-(intOf b).toNat)
 case atStart=>exact⟨0,pR _,rfl,qj _,rfl⟩
 case round =>
  obtain⟨k,hk,rfl,H,J⟩:=hrel;obtain⟨wo,rfl⟩:∃wo:World,wo=wr:=⟨_,rfl⟩;have a1:=R0.out _ H;have rc:=cell_of_one a1;have rf:=free_of_one a1;clear k3;rcases hr:f.blocks.drop k with _|⟨l,r⟩
  ·have bp:=dm hr hk;have HE:Hid (f.blocks.all Ref.laid=true):=by show _=_;rw[J.out,hr];rfl
   obtain⟨k0,k1,k2,k3⟩:=B0.out _ H;clear hr J;have bK:(f.blocks.length:Int)<=k:=by omega
   clear bp;have aq:=dJ (a8.out (bd.out HE.out));have Y:=dJ (a7.out HE.out);by_cases T:0<(Ref.before (Ref.graph f) 0).length
   ·have bt:(0:Int)<((Ref.before (Ref.graph f) 0).length:Int):=by omega
    have aw:Hid ((Ref.before (Ref.graph f) 0).isEmpty=false):=by show _=_;cases hbe:Ref.before (Ref.graph f) 0 with|nil=>(rw[hbe]at T;simp at T)|cons a b=>rfl
    clear T;go_wp2_with (first|(go_at_call 86;refine(aq.out _ (E.trans H)).mono ?_;rintro e d ⟨A1,n1,c1,rfl,O,g1⟩)|(go_at_call 87;refine(Y.out _ _ _ (O.out.gr ((qj _).alloc _)) (by omega) (by omega)).mono ?_;rintro e w2 ⟨A2,bj,rfl,bf,g2⟩;have C:Gr W w2:=H.trans (g1.trans (((qj _).alloc _).trans g2));obtain⟨d0,d1,d2,d3⟩:=B0.out _ C;have ai:=R0.out _ C;have a3:=cell_of_one ai;have bC:=free_of_one ai));refine mj rfl (dQ _ _ 2 _ _ false rfl rfl (World.cell?_setCell_same' _ _ _ (by rw[a3];rfl))) ⟨dc (by rw[HS.out,aw.out];simp),(E.trans C).setCell (by show w.heap.size<=w.heap.size+1;omega) _⟩
   ·have bM:((Ref.before (Ref.graph f) 0).length:Int)<=0:=by omega
    have aw:Hid ((Ref.before (Ref.graph f) 0).isEmpty=true):=by show _=_;rw[pK (show (Ref.before (Ref.graph f) 0).length=0 by omega)];rfl
    clear T;go_wp2_with (first|(go_at_call 86;refine(aq.out _ (E.trans H)).mono ?_;rintro e d ⟨A1,n1,c1,rfl,O,g1⟩)|(go_at_call 87;refine(Y.out _ _ _ (O.out.gr ((qj _).alloc _)) (by omega) (by omega)).mono ?_;rintro e w2 ⟨A2,bj,rfl,bf,g2⟩;have C:Gr W w2:=H.trans (g1.trans (((qj _).alloc _).trans g2));obtain⟨d0,d1,d2,d3⟩:=B0.out _ C;have ai:=R0.out _ C;have a3:=cell_of_one ai;have bC:=free_of_one ai)|(go_at_call 50;refine(a6.out _).mono ?_;rintro e w3 ⟨rfl,rfl⟩));have aP:Hid (Ir.isLaid f=(Ir.items f).all (Ir.phiOk (Ref.graph f))):=by show _=_;rw[HS.out,HE.out,aw.out];simp
    obtain⟨Z,ab⟩:=xJ (w2.alloc (.cells #[.slice Ap f.params.length cp,.int .i64 f.ret,.slice As f.slots.length cs,.slice (some ⟨bb,ob,none⟩) f.blocks.length cb] 25));have aV:Gr w w2:=E.trans C;have I:Gr w Z:=by rw[<-ab];exact aV.alloc _
    have bS:Z.heap.size<=w2.heap.size+1/\w2.heap.size+1<=Z.heap.size:=by rw[<-ab];simp
    have au:∀o,Z.cell? ⟨w2.heap.size,o,none⟩=(#[.slice Ap f.params.length cp,.int .i64 f.ret,.slice As f.slots.length cs,.slice (some ⟨bb,ob,none⟩) f.blocks.length cb]:Array Value)[o]?:=by intro o;rw[<-ab];exact px _ _ _ _ _ _ (heap_alloc_new w2 _)
    have R:Gr w2 Z:=by rw[<-ab];exact(qj _).alloc _
    have av:Gr W Z:=C.trans R
    have a5:Hid (∀w',Gr Z w'->w'.heap[d.heap.size]?=some (.cells #[.slice A1 n1 c1] 98 (0,0))):=by
     intro w' q;have h1:d.heap.size<(d.alloc (.cells #[.slice A1 n1 c1] 98)).heap.size:=by simp
     exact((g2.trans (R.trans q)).heap _ h1).trans (heap_alloc_new d _)
    have az:Hid (∀w',Gr Z w'->TabAt w'.heap.size w' (.slice A1 n1 c1) (Ref.graph f)):=fun w' q=>O.out.gr (((qj _).alloc _).trans (g2.trans (R.trans q)));have bR:=E.size;have bT:=I.size
    have bQ:d.heap.size<Z.heap.size:=by have h1:=g2.size;have h2:=R.size;simp at h1;omega
    rw[ab];clear d0 d1 d2 d3
    refine fC (w:=w) (f:=f) (q:=10) (Bf:=w2.heap.size) rfl aU I (by omega) (by omega) (au 0) (au 3) (fun X V=>(∀it∈X,Ir.phiOk (Ref.graph f) it=true)/\Gr Z V)
     (fun c X V=>c=.ret/\(∃it∈X,Ir.phiOk (Ref.graph f) it=false)/\Below w.heap.size w V/\V.heap[w.heap.size+1]?=some (.cells #[.bool false] 4 (0,0)))
     (OwnFrom.and (ownFrom_pure _ _) (eZ Z)) (fun c=>OwnFrom.and (ownFrom_pure _ _) (OwnFrom.and (ownFrom_pure _ _) (OwnFrom.and (ownFrom_below (pS _) (by omega)) (eA _ _ _)))) (fun X V h=>h.2.size) ⟨fun it h=>by simp at h,qj _⟩ ?hassign ?hbody ?hdone ?hstop
    case hassign =>
     intro l it aa ta ca ct V K hK;simp only[pO,List.set_cons_succ,List.set_cons_zero,jn,mn]at hK ⊢;gi_wp2;exact hK
    case hbody =>
     rintro l X it aa ta ca ct V Bx ⟨ag,G⟩ a2 aH ae aX bG ak;simp only[pO,List.set_cons_succ,List.set_cons_zero,jn];have aQ:Bx<V.heap.size:=(pf.1 ak).1;have HX:Hid (∀w' o,Gr V w'->w'.cell? ⟨Bx,o,none⟩=(mn it aa ta ca ct)[o]?):=fun w' o q=>(q.cell Bx o aQ).trans (px _ _ _ _ _ _ ak);have x0:V.cell? ⟨Bx,0,none⟩=some (.int .i64 it.ins.op):=HX.out _ 0 (qj _);have x7:V.cell? ⟨Bx,7,none⟩=some (.int .i64 it.blk):=HX.out _ 7 (qj _);have bJ:=cell_of_one (a5.out _ G)
     have aW:(it.blk:Int)<f.blocks.length:=by obtain⟨lb,e1,e2⟩:=fz f it ae;have:=(pf.1 (show f.blocks.toArray[it.blk]?=some lb by simpa using e1)).1;simp at this;omega
     have bE:=dJ ae;clear ae aX ak;by_cases ho:it.ins.op=28
     ·have bq:(it.ins.op != 28)=false:=by simp[ho]
      obtain⟨ev,aA⟩:∃ev,decide (Ref.before (Ref.graph f) it.blk=it.ins.to)=ev:=⟨_,rfl⟩;have am:Hid (Ir.phiOk (Ref.graph f) it=ev):=by show _=_;unfold Ir.phiOk;rw[aA];simp[ho]
      have ba:Hid (∀w' v',IntsAt w'.heap.size w' v' (Ref.before (Ref.graph f) it.blk)->Gr w w'->Calls prog 88 #[v',.slice ta it.ins.to.length ct] w' (RG (.bool ev) w')):=by rw[<-aA];exact fun w' v' h q=>lc v' _ _ _ w' h (aH.gr q)
      clear ho aA;cases ev
      all_goals gi_wp2_with (first|(refine⟨trivial,?_⟩;gi_at_call 87;refine(CallsIn.inRound l (callsIn_wide.2 (Y.out _ _ _ (az.out _ G) (by omega) aW))).mono ?_;rintro e w4 ⟨A4,c4,rfl,bg,g4⟩;have x5:w4.cell? ⟨Bx,5,none⟩=some (.slice ta it.ins.to.length ct):=HX.out _ 5 g4)|(refine⟨trivial,?_⟩;gi_at_call 88;refine(CallsIn.inRound l (callsIn_wide.2 (ba.out _ _ bg.out (I.trans (G.trans g4))))).mono ?_;rintro e w5 ⟨rfl,g5⟩;have aE:=R0.out _ (av.trans (G.trans (g4.trans g5)));have bV:=cell_of_one aE;have bX:=free_of_one aE))
      ·refine⟨((g4.trans g5).keeps.trans (KeepsOthers.setCell _ _ _)).from _,rfl,⟨it,by simp,am.out⟩,?_,?_⟩
       ·exact Below.setCell (I.trans (G.trans (g4.trans g5))) (p:=⟨w.heap.size+1,0,none⟩) (by show w.heap.size<=w.heap.size+1;omega) _
       ·exact de (i:=0) (.bool false) aE
      ·refine⟨(g4.trans g5).keeps.from _,Below.mono (g4.trans g5) (by have:=I.size;have:=G.size;omega),?_,G.trans (g4.trans g5)⟩;intro aK aB;rcases pI.1 aB with h|h
       ·exact ag aK h
       ·simp at h;subst h;exact am.out
     ·have bq:(it.ins.op != 28)=true:=by simp[ho]
      have am:Hid (Ir.phiOk (Ref.graph f) it=true):=by show _=_;unfold Ir.phiOk;simp[ho]
      clear ho;gi_wp2;refine⟨(KeepsOthers.refl _).from _,Below.refl _ _,?_,G⟩;intro aK aB;rcases pI.1 aB with h|h
      ·exact ag aK h
      ·simp at h;subst h;exact am.out
    case hdone =>
     rintro D V hD ⟨ag,G⟩ hK;have aF:=R0.out _ (av.trans G);have bW:=cell_of_one aF;have bY:=free_of_one aF;have HT:Hid (Ir.isLaid f=true):=by show _=_;rw[aP.out];exact pw.2 ag
     have HK:=dJ hK;clear ag hK;go_wp2;refine oD (w0:=w) (Br:=w.heap.size+1) (b:=true) (t:=2) rfl ((KeepsOthers.setCell _ _ _).same D _ HK.out rfl) rfl rfl (de (i:=0) (.bool true) aF) (Below.setCell (I.trans G) (p:=⟨w.heap.size+1,0,none⟩) (by show w.heap.size<=w.heap.size+1;omega) _) (by omega) ?_;exact fun w' g=>⟨dc (by rw[HT.out]),g⟩
    case hstop =>
     rintro D c X V hD aZ ⟨rfl,⟨it,hm,aY⟩,hB,bn⟩ hK;have HF:Hid (Ir.isLaid f=false):=by show _=_;rw[aP.out];exact List.all_eq_false.2 ⟨it,aZ.subset hm,by simp[aY]⟩
     have HK:=dJ hK;clear hK hm aY;go_wp2;refine oD (w0:=w) (Br:=w.heap.size+1) (b:=false) (t:=2) rfl HK.out rfl rfl bn hB (by omega) ?_;exact fun w' g=>⟨dc (by rw[HF.out]),g⟩
  ·obtain⟨aX,hl,a0⟩:=dj hr;obtain⟨u,hu,bx⟩:=HC.out k l hl;have bw:=((E.trans H).cell _ _ bm).trans hu;obtain⟨Al,cl,rfl,p1,p2,p3⟩:=bx;have HR:Hid (f.blocks.all Ref.laid=(Ref.laid l && r.all Ref.laid)):=by show _=_;rw[J.out,hr];rfl
   have be:Hid (f.blocks.drop (k+1)=r):=a0;have P3:=dJ p3;clear hr hl a0 J hu p3;by_cases ad:l.length=0
   ·have n0:((l.length:Int) == 0)=true:=by simp[ad]
    have HE:Hid (Ref.laid l=false):=by show _=_;rw[pK ad];rfl
    clear ad;go_wp2;refine mj rfl (dQ _ _ 2 _ _ false rfl rfl (World.cell?_setCell_same' _ _ _ (by rw[rc];rfl))) ⟨dc (by rw[HS.out,HR.out,HE.out];simp),(E.trans H).setCell (by show w.heap.size<=w.heap.size+1;omega) _⟩
   ·have n0:((l.length:Int) == 0)=false:=by rw[beq_eq_false_iff_ne];omega
    have af:l≠[]:=fun h=>ad (by rw[h];rfl);have ay:Hid (Ref.laid l=Ref.laidFrom l true):=lU af;obtain⟨bl,ol,rfl,L,aS⟩:=P3.out (by omega);have ax:=dJ aS;obtain⟨y,hy⟩:∃y,l.getLast?=some y:=⟨_,List.getLast?_eq_some_getLast af⟩;obtain⟨m,hm⟩:∃m,m+1=l.length:=⟨l.length-1,by omega⟩;have aJ:l[m]?=some y:=by rw[List.getLast?_eq_getElem?]at hy;rw[show m=l.length-1 by omega];exact hy
    obtain⟨_,_,y0,-⟩:=ax.out m y aJ;have bD:=((E.trans H).cell _ _ L).trans y0;have wm:(l.length:Int)-1=m:=by omega
    have bN:(m:Int)<l.length:=by omega
    obtain⟨ly,ap⟩:=xJ (Ref.isLast y.op);have aM:Hid (∀d,Calls prog 85 #[.int .i64 y.op] d (RS (.bool ly) d)):=by rw[<-ap];exact fun d=>gj y.op d
    have bc:Hid (ly=false->Ref.laid l=false):=fun h=>laid_last hy (by rw[ap,h]);have bi:Hid (l[m]?=some y/\Ref.isLast y.op=ly):=⟨aJ,ap⟩;have HM:=dJ hm;clear ad af aS hy hm aJ y0 ap
    cases ly with
    | false =>
     have HE:=dJ (bc.out rfl);go_wp2_with (go_at_call 85;refine(aM.out _).mono ?_;rintro e d ⟨rfl,rfl⟩);refine mj rfl (dQ _ _ 2 _ _ false rfl rfl (World.cell?_setCell_same' _ _ _ (by rw[rc];rfl))) ⟨dc (by rw[HS.out,HR.out,HE.out];simp),(E.trans H).setCell (by show w.heap.size<=w.heap.size+1;omega) _⟩
    | true =>
     go_wp2_with (go_at_call 85;refine(aM.out _).mono ?_;rintro e d ⟨rfl,rfl⟩)
     go_loopw [5,6,36] (fun _ _ i wr=>∃j:Nat,j<=l.length/\i=.int .i64 j/\Gr W wr/\Hid (Ref.laidFrom l true=Ref.laidFrom (l.drop j) (fU l j))) (fun _ _ i _=>l.length-(intOf i).toNat)
     case atStart=>exact⟨0,pR _,rfl,H,rfl⟩
     case round =>
      obtain⟨j,hj,rfl,B,F⟩:=hrel;obtain⟨wp,rfl⟩:∃wp:World,wp=wr:=⟨_,rfl⟩;have aj:=R0.out _ B;have bA:=cell_of_one aj;have bB:=free_of_one aj;clear bw rc rf bD;rcases hr1:l.drop j with _|⟨x,r1⟩
      ·have bo:=dm hr1 hj;have a9:Hid (Ref.laidFrom l true=true):=by show _=_;rw[F.out,hr1];rfl
       subst bo;clear hr1 F;go_wp2;go_roundw;case rel=>exact⟨k+1,by omega,by go_num,B,by (show _=_;rw[HR.out,be.out,ay.out,a9.out];simp)⟩
       case measure=>simp[intOf];omega
      ·obtain⟨bF,hx,ah⟩:=dj hr1;obtain⟨va,vt,i0,i1,i2,i3,i4,i5,a2,aH⟩:=ax.out j x hx;have M:=E.trans B;obtain⟨Aa,ca,rfl,-,-,-⟩:=a2;obtain⟨At,ct,rfl,-,-,-⟩:=aH;have j0:=(M.cell _ _ L).trans i0;have j1:=(M.cell _ _ L).trans i1;have j2:=(M.cell _ _ L).trans i2;have j3:=(M.cell _ _ L).trans i3;have j4:=(M.cell _ _ L).trans i4;have j5:=(M.cell _ _ L).trans i5;have an:Hid (Ref.laidFrom l true=((Ref.isLast x.op == r1.isEmpty) && (decide (x.op≠28) || fU l j) && Ref.laidFrom r1 (decide (x.op=28)))):=by show _=_;rw[F.out,hr1];rfl
       have ar:Hid (Ref.laidFrom r1 (decide (x.op=28))=Ref.laidFrom (l.drop (j+1)) (fU l (j+1))):=by show _=_;rw[fc l j x hx,ah]
       have aG:r1.isEmpty=decide ((j:Int)=m):=by
        have h1:r1.length=l.length-(j+1):=by rw[<-ah];simp
        have h2:=HM.out
        cases r1 with
        | nil=>rw[List.length_nil]at h1;simp only[List.isEmpty_nil];symm;rw[decide_eq_true_eq];omega
        | cons a b=>rw[List.length_cons]at h1;simp only[List.isEmpty_cons];symm;rw[decide_eq_false_iff_not];omega
       have HX:Hid (l[j]?=some x):=hx;have bh:Hid (∀j' U,l[j']?=some U->w.cell? ⟨bl,ol+j' * 6,none⟩=some (.int .i64 U.op)):=fun j' U h=>by obtain⟨_,_,i0,-⟩:=ax.out j' U h;exact i0
       have bL:(j:Int)<(l.length:Int):=by omega
       clear hr1 hx ah F i0 i1 i2 i3 i4 i5;obtain⟨ph,br⟩:∃ph,(x.op == 28)=ph:=⟨_,rfl⟩
       have aN:Hid (decide (x.op≠28)=!ph):=by show _=_;rw[<-br];by_cases h:x.op=28<;>simp[h]
       obtain⟨la,aC⟩:=xJ (Ref.isLast x.op);have aL:Hid (∀d,Calls prog 85 #[.int .i64 x.op] d (RS (.bool la) d)):=by rw[<-aC];exact fun d=>gj x.op d
       have aT:(((j:Int)<m)/\Hid ((Ref.isLast x.op == r1.isEmpty)=!la))\/((m:Int)<=j/\Hid ((Ref.isLast x.op == r1.isEmpty)=true)):=by
        rcases Int.lt_or_le (j:Int) m with h|h
        ·refine .inl ⟨h,?_⟩;show _=_;rw[aG,aC,decide_eq_false (by omega)];cases la<;>rfl
        ·refine .inr ⟨h,?_⟩;show _=_;have ac:j=m:=by have:=HM.out;omega
         have e1:=bi.out;rw[<-ac,HX.out]at e1;obtain⟨e1,e2⟩:=e1;cases e1;rw[aG,e2,decide_eq_true (by omega)];rfl
       clear aG aC;have a4:∀o,(wp.alloc o).cell? ⟨w.heap.size+1,0,none⟩=some (.bool false):=fun o=>cell_of_one (R0.out _ (B.alloc o));have bZ:∀o,(wp.alloc o).frozen? ⟨w.heap.size+1,0,none⟩=false:=fun o=>free_of_one (R0.out _ (B.alloc o));clear bA bB aj;rcases (by omega:j=0\/0<j) with ao|ao
       ·have al:Hid (fU l j=true):=by show _=_;rw[ao];rfl
        have hz:(j:Int)<=0:=by omega
        clear ao;rcases aT with ⟨ac,N⟩|⟨ac,N⟩;all_goals cases la
        all_goals cases ph
        all_goals go_wp2_with (go_at_call 85;refine(aL.out _).mono ?_;rintro e d ⟨rfl,rfl⟩)
        all_goals first
         | (go_roundw
            case rel=>exact⟨j+1,by omega,by go_num,B.alloc _,by (show _=_;rw[an.out,N.out,al.out,ar.out];simp)⟩
            case measure=>simp[intOf];omega)
         | (refine mj rfl (dQ _ _ 2 _ _ false rfl rfl (World.cell?_setCell_same' _ _ _ (by rw[a4 _];rfl))) ⟨dc (by rw[HS.out,HR.out,ay.out,an.out,N.out];simp),((E.trans B).alloc _).setCell (by show w.heap.size<=w.heap.size+1;omega) _⟩)
       ·obtain⟨p,hp⟩:∃p,p+1=j:=⟨j-1,by omega⟩;obtain⟨U,aI⟩:∃U,l[p]?=some U:=⟨l[p]'(by omega),oY (by omega)⟩;have jp:=(M.cell _ _ L).trans (bh.out p U aI);have bU:∀o,(wp.alloc o).cell? ⟨bl,ol+p*6,none⟩=some (.int .i64 U.op):=fun o=>(((qj wp).alloc o).cell bl _ (by have:=M.size;omega)).trans jp;have al:Hid (fU l j=decide (U.op=28)):=by show _=_;rw[<-hp];exact fc l p U aI
        obtain⟨pp,aD⟩:∃pp,(U.op == 28)=pp:=⟨_,rfl⟩;have bP:(U.op != 28)=!pp:=by rw[bne,aD]
        have aO:Hid (decide (U.op=28)=pp):=by show _=_;rw[<-aD];rfl
        have wj:(j:Int)-1=p:=by omega
        have hz:(0:Int)<j:=by omega
        have bO:(p:Int)<(l.length:Int):=by omega
        clear aI ao hp aD jp;rcases aT with ⟨ac,N⟩|⟨ac,N⟩;all_goals cases la
        all_goals cases ph
        all_goals cases pp
        all_goals go_wp2_with (go_at_call 85;refine(aL.out _).mono ?_;rintro e d ⟨rfl,rfl⟩)
        all_goals first
         | (go_roundw
            case rel=>exact⟨j+1,by omega,by go_num,B.alloc _,by (show _=_;rw[an.out,N.out,al.out,aO.out,aN.out,ar.out];simp)⟩
            case measure=>simp[intOf];omega)
         | (refine mj rfl (dQ _ _ 2 _ _ false rfl rfl (World.cell?_setCell_same' _ _ _ (by rw[a4 _];rfl))) ⟨dc (by rw[HS.out,HR.out,ay.out,an.out,N.out,al.out,aO.out,aN.out];simp),((E.trans B).alloc _).setCell (by show w.heap.size<=w.heap.size+1;omega) _⟩)

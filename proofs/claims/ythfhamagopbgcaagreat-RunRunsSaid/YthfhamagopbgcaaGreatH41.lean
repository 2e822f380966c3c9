/- Parts: El. -/
import Derived.Test.YthfhamagopbgcaaGreatH40
set_option linter.unusedSimpArgs false
set_option linter.unusedVariables false
set_option maxRecDepth 100000
set_option maxHeartbeats 16000000
open Go.Proofs.Tryz
namespace Go.Proofs.YthfhamagopbgcaaGreat
open Go.RowKit
def ux (c:Cfg)(pk:List Int)(w:World)(wv bv:Value)(bl:List Int)(o:Rn.Out)(om:Value)(r:Rn.Nx × Rn.St)(e:Ending)(w':World):Prop :=
 match r with
 | (.run t,s')=>e=.returned (.int .i64 t)/\DLeft c pk w wv bv s' bl o om w'
 | (.over o',s')=>e=.returned (.int .i64 (-1))/\DLeft c pk w wv bv s' bl o' (pV c o') w'
theorem sf {f:Fn}{x:Ins}(h:Rn.Shp f x)(hw:x.width≠0):0<x.width:=by
 cases h <;> (try unfold Wd.Wid at *) <;> (try unfold Rn.MemW at *) <;> omega
theorem ua {f:Fn}{x:Ins}(h:Rn.Shp f x)(ho:x.op≠28)(hl:Ref.isLast x.op=false):x.op<28:=by
 unfold Ref.isLast at hl;simp at hl;cases h <;> omega
theorem nA {c:Cfg}{pk bl:List Int}{w:World}{s:Rn.St}{o:Rn.Out}{om wv bv:Value}(h:DS c pk w s bl o om wv bv)(hf:VFn c.f)(hBm:c.Bm<w.heap.size)(hpk:∀z∈pk,0<=z/\z<4294967296)(hpl:pk.length<=1000)(hbl:bl.length<=1000)
  {b:Nat} {frm:Int} {l:List Ins} (hl:c.f.blocks[b]?=some l) (he:Rn.Ent c.f b frm l s) (hst:s.steps<=400) (hwo:Rn.WOk s) :
  Calls prog 81 #[.pointer (some ⟨c.Bs,0,none⟩),.int .i64 b,.int .i64 frm] w (ux c pk w wv bv (bl++[(b:Int)]) o om (Rn.block c.f (Rn.given pk) b frm s)):=by
 obtain⟨i0,hi,bY,bZ,b0⟩:=info_parts dR;obtain⟨A,cw,rfl⟩:=h.blk.form;rw[vS] at h;rw[vS];obtain⟨N,hN⟩:=xJ bl.length;have HN:=dJ hN;obtain⟨rs,aw⟩:=xJ ((Rn.phis l).map (Rn.phiRead s frm));have Q:=vz hl;have ae:(Rn.phis l).length<=l.length:=Rn.phis_le l;have X:rs.length=(Rn.phis l).length:=by rw[<-aw,vS]
 have aB:=(vy.1 hl).1;have bk:c.f.blocks.length<=100000:=by have:=hf.val.size.2.2.2.1;omega
 have bx:0<l.length:=List.length_pos_iff.2 (Rn.val_laid hf.val Q).1;have br:=Ref.number_count c.f hl
 have aC:Ref.count c.f<=1000:=by
  have:=hf.val.size;have e:Ref.count c.f=c.f.params.length+Ref.total c.f.blocks:=by unfold Ref.count Ref.number;rw[wg]
  omega
 obtain⟨R,hR⟩:=xJ (Rn.block c.f (Rn.given pk) b frm s)
 have bf:Rn.runIns c.f (Rn.given pk) rs l 0 (Ref.number c.f b) s=R:=by
  rw[<-hR];unfold Rn.block;rw[vA,hl];show _=Rn.runIns c.f (Rn.given pk) ((Rn.phis l).map (Rn.phiRead s frm)) l 0 _ s;rw[aw]
 rw[hR];have bQ:w.cell? ⟨c.Bs,12,none⟩=some (.slice A bl.length cw):=h.cell 12;have cq:w.frozen? ⟨c.Bs,12,none⟩=false:=vY _ _ 12 _ _ h.st;have HH:=dJ h;have aG:Hid (c.n₀<=w.heap.size):=h.n₀;have L:=dJ hf;have HL:=dJ hl;have HE:=dJ he;have bM:=dJ hst;have ba:=dJ hwo;have a4:=dJ bf;have a5:=dJ aw;have aK:=dJ X;have aI:=dJ ae;have bJ:=dJ hpk;have bG:=dJ hBm;have HB:=dJ aB;have aU:=dJ bk;have ag:=dJ (And.intro br aC);have ce:N<=1000:=by omega
 rw[hN] at bQ HH ⊢;clear h hf hl he hst hwo hR bf aw X ae hpk hBm aB bk br aC Q hN hbl
 go_enter func81, ntmps81
 go_wp2_with (first
   | (at_builtin;refine lB (n:=N) (v:=.slice A N cw) underlying22 hi bY bZ b0 rfl (by omega) rfl (.tmp 21) (.tmp 23) rfl (by rw[vS];exact HN.out) rfl HH.out.blk rfl rfl (by omega) aG.out ?_;intro A2 c2 w2 bu bn aA;
       obtain⟨r0,r1,r2,r3⟩:=HH.out.pushB bn bu aA;have ck:w2.cell? ⟨c.Bs,12,none⟩=some (.slice A N cw):=vX _ _ 12 _ _ _ r0;have y0:w2.frozen? ⟨c.Bs,12,none⟩=false:=vY _ _ 12 _ _ r0;
       obtain⟨W3,bg⟩:=xJ (w2.setCell ⟨c.Bs,12,none⟩ (.slice A2 (N+1) c2));rw[bg] at r1 r2;have H3:=dJ r1;have F3:=dJ r2;have O3:=dJ r3;clear r0 r1 r2 r3 bu bn aA))
 go_at_call 124
 (with_reducible refine(px H3.out L.out HL.out HE.out bM.out (Rn.given pk)).mono ?_);rintro e w7 ⟨s1,f7,⟨rfl,J,r7⟩|⟨rfl,J,bA,av,r7,ax⟩⟩
 ·have P7:=dJ J;have F7:=dJ (F3.out.trans (f7.mono fun k d=>.inl d));have aJ:Hid (R=(.over Rn.long,s1)):=by (show _=_);rw[<-a4.out,<-a5.out];exact r7
  clear J f7 r7;go_wp2;go_ret;rw[aJ.out];exact⟨rfl,_,_,P7.out,F7.out,O3.out⟩
 ·rw[a5.out] at av r7;have U:=r7.symm.trans a4.out;obtain⟨np,ae⟩:=xJ ((Rn.phis l).length);have X:=aK.out;rw[ae] at X;have aI:=dJ ae;have aK:=dJ X;rw[X] at av U
  have bs:np<l.length:=by
   rcases wh np l.length with q|q
   ·exact q
   ·obtain⟨x,hx⟩:∃x,l[l.length-1]?=some x:=⟨_,vu (by omega)⟩;have h1:=(Rn.last_iff L.out.val (vz HL.out) hx).2 (by omega);have h2:=(Rn.phi_iff L.out.val (vz HL.out) hx).2 (by omega);rw[h2] at h1;exact absurd h1 (by decide)
  have aT:DLeft c pk w wv (.slice A N cw) s1 (bl++[(b:Int)]) o om w7:=⟨_,_,J,F3.out.trans (f7.mono fun k d=>.inl d),O3.out⟩;have bO:Hid (Rn.WOk s1):=⟨by rw[ax.1];exact Nat.le_trans ba.out.1 ax.2,by rw[ax.1];exact ba.out.2⟩;have c0:w7.cell? ⟨c.Bs,0,none⟩=some c.vp:=J.cell 0;have c1:w7.cell? ⟨c.Bs,1,none⟩=some (.int .i64 c.f.ret):=J.cell 1;have bR:w7.cell? ⟨c.Bs,2,none⟩=some c.vs:=J.cell 2;have c3:w7.cell? ⟨c.Bs,3,none⟩=some c.vb:=J.cell 3;have CN:=dJ (fw (.agg #[c.vp,.int .i64 c.f.ret,c.vs,c.vb]) c.f b w7 (J.fn.mono J.n₀) (by have:=HB.out;omega) aU.out);obtain⟨cn,co,cm,e,-,-,hb⟩:=HH.out.fn;injection e with e;injection e with e;injection e with e1 e;injection e with _ e;injection e with e3 e;injection e with e2 _;obtain⟨Ab,cb,bB,b1,b2,b3⟩:=hb;obtain⟨bb,ob,be,bh,b4⟩:=b3 (by have:=HB.out;omega);obtain⟨vl,bC,bU⟩:=b4 b l HL.out;obtain⟨Al,cl,rfl,l1,l2,l3⟩:=bU;obtain⟨bi,ol,rfl,bj,l4⟩:=l3 bx
  have a8:Hid (∀s' wr,DLeft c pk w wv (.slice A N cw) s' (bl++[(b:Int)]) o om wr->wr.cell? ⟨c.Bs,3,none⟩=some (.slice (some ⟨bb,ob,none⟩) c.f.blocks.length cb)/\wr.cell? ⟨bb,ob+b,none⟩=some (.slice (some ⟨bi,ol,none⟩) l.length cl)):=fun s' wr ⟨_,_,p,f,_⟩=>by
   have ab:=f.below (fun k d=>HH.out.dlt d) aG.out;refine⟨?_,(ab.cell (p:=⟨bb,ob+b,none⟩) bh).trans bC⟩;have:=p.cell 3;have e:c.vb=.slice (some ⟨bb,ob,none⟩) c.f.blocks.length cb:=by rw[e2,bB,be]
   rw[<-e];exact this
  have aX:Hid (∀s' wr,DLeft c pk w wv (.slice A N cw) s' (bl++[(b:Int)]) o om wr->∀k x,l[k]?=some x->InsAt c.n₀ wr bi (ol+k*6) x):=fun s' wr ⟨_,_,p,f,_⟩ k x hx=>(l4 k x hx).below bj (f.below (fun k d=>HH.out.dlt d) aG.out);have bH:=dJ aT;have bI:=dJ av;have bL:=dJ bA;obtain⟨NB,aN⟩:=xJ (Ref.number c.f b);have aZ:=dJ aN;rw[aN] at CN U;have bK:=dJ U;have b9:l.length<=1000:=by have:=ag.out;omega
  have b7:NB<=1000:=by have:=ag.out;omega
  clear J f7 bA av ax r7 U ae X e1 e2 e3 bB be bC b1 b2 b3 b4 l1 l2 l3 l4 bh bj aT aN;obtain⟨bc,aa⟩:=xJ c.f.blocks.length;rw[aa] at a8;have cg:b<bc:=by rw[<-aa];exact HB.out
  have bT:bc<=100000:=by rw[<-aa];exact aU.out
  clear aa
  go_wp2_with (first|(go_at_call 80;refine CN.out.mono ?_;rintro e w8 ⟨rfl,g8⟩;have D8:=dJ (bH.out.gr g8);clear g8 c0 c1 bR c3))
  go_loopw [10] (fun aR wr=>∃(i:Nat) (s':Rn.St),i<l.length/\np<=i/\aR=.int .i64 (i:Int)/\Hid (s'.steps<=400)/\Hid (Rn.WOk s')/\Hid (DLeft c pk w wv (.slice A N cw) s' (bl++[(b:Int)]) o om wr)/\Hid (Rn.Mid c.f b i l s')/\Hid (Rn.runIns c.f (Rn.given pk) rs (l.drop i) i (NB+i) s'=R)) (fun aR _=>l.length-(intOf aR).toNat)
  case atStart=>exact⟨np,s1,bs,vV _,by rw[aI.out],bL,bO,D8,bI,bK⟩
  case round =>
   obtain⟨i,s',hi,cc,rfl,aE,ao,aQ,hm,aD⟩:=hrel;obtain⟨y3,y4⟩:=a8.out _ _ aQ.out;by_cases aj:i<l.length
   ·obtain⟨x,hx⟩:∃x,l[i]?=some x:=⟨_,vu aj⟩;have Q:=vz HL.out;have an:=Rn.shp L.out.val L.out.im Q (vz hx);have ho:x.op≠28:=fun e=>by have:=(Rn.phi_iff L.out.val Q hx).1 e;rw[aI.out] at this;omega
    have au:l.drop i=x::l.drop (i+1):=by rw[vM aj];congr 1;rw[vu aj] at hx;injection hx
    obtain⟨va,cp,i0,i1,i2,i3,i4,i5,ia,it⟩:=aX.out _ _ aQ.out i x hx;obtain⟨ay,aq,p,f,q⟩:=aQ.out;have b5:=ia;have b6:=it;obtain⟨Aa,ca,rfl,-,-,-⟩:=b5;obtain⟨At,ct,rfl,-,-,-⟩:=b6;obtain⟨Wa,aO⟩:=xJ (sA wr);obtain⟨Wb,aP⟩:=xJ (oP Wa wr.heap.size x (.slice Aa x.args.length ca) (.slice At x.to.length ct));have ga:Gr wr Wa:=by rw[<-aO];exact(wL wr).alloc _
    have al:Wa.heap[wr.heap.size]?=some (.cells #[.int .i64 0,.int .i64 0,.int .i64 0,.slice none 0 0,.int .u32 0,.slice none 0 0] 67 (0,0)):=by rw[<-aO];exact heap_alloc_new _ _
    have gb:Gr wr Wb:=by rw[<-aP];exact gr_frs' ga (lv _ _ _ _ _) (fun k d=>by omega)
    have am:=lw (x:=x) (va:=.slice Aa x.args.length ca) (vt:=.slice At x.to.length ct) al;rw[aP] at am;obtain⟨r0,r1,r2,r3,r4,r5⟩:=crw6 al 0 1 2 3 4 5;obtain⟨s0,s1,s2,s3,s4,s5⟩:=frw6 al 0 1 2 3 4 5;have ak:=p.gr gb;have F0:=dJ (f.trans (FrS.of_gr (S:=DO c wv (.slice A N cw)) gb));have Q0:=dJ q;unfold sA at aO;unfold oP at aP;by_cases H:s'.steps=400
    ·have CT:=dJ (jl ak H);have aJ:Hid (R=(.over Rn.long,s')):=by (show _=_);rw[<-aD.out,au,fT H]
     clear hx au H Q an ho p f q ga gb al am ak ia it
     go_wp2_with (first|(go_at_call 125;refine CT.out.mono ?_;rintro e w7 ⟨rfl,J,f7⟩;have P7:=dJ J;have F7:=dJ (F0.out.trans (f7.mono fun k d=>.inl (.inl d)));clear J f7))
     go_ret;rw[aJ.out];exact⟨rfl,_,_,P7.out,F7.out,Q0.out⟩
    ·have ac:s'.steps<400:=by have:=aE.out;omega
     have CT:=dJ (mG ak ac);have bp:Rn.Mid c.f b i l s'.tick:=hm.out.like (Rn.like_tick s');have HM:=dJ bp
     have M:Hid (pS c.f (Rn.given pk) rs (l.drop (i+1)) i (NB+i) (Rn.exec c.f (Rn.given pk) x s'.tick)=R):=by
      show _=_;rw[<-aD.out,au,iQ H (by rw[aK.out];omega)]
     have HX:=dJ hx;have ad:=dJ an;have HO:=dJ ho;have aY:Hid (i<l.length):=aj;have a6:Hid (s'.tick.steps<=400):=by show s'.steps+1<=400;omega
     have B:Hid (∀w',FrS (DO c ay aq) Wb w'->w'.heap[wr.heap.size]?=some (.cells #[.int .i64 x.op,.int .i64 x.width,.int .i64 x.flags,.slice Aa x.args.length ca,.int .u32 x.imm,.slice At x.to.length ct] 67 (0,0))):=fun w' f'=>(f'.block _ (cY am) (fun e=>by have:=p.lt e;omega)).trans am
     have aW:Hid (∀w',FrS (DO c ay aq) Wb w'->IntsAt c.n₀ w' (.slice Aa x.args.length ca) x.args/\IntsAt c.n₀ w' (.slice At x.to.length ct) x.to):=fun w' f'=>by
      have ab:=(Below.mono gb p.n₀).trans (f'.below (fun k d=>p.dlt d) ak.n₀);exact⟨ia.below ab,it.below ab⟩
     have cd:=dJ (fun k (d:DO c ay aq k)=>p.lt d);clear hx au H Q an ho p f q ga gb al am ak ia it bp ac
     go_wp2_with (first
       | (go_at_call 125;refine CT.out.mono ?_;rintro e w7 ⟨rfl,J,f7⟩;have P7:=dJ J;have G7:=dJ (f7.mono (S':=DO c ay aq) fun k d=>.inl (.inl d));
           have U:=B.out w7 G7.out;obtain⟨x0,x1,x2,x3,x4,x5⟩:=crw6 U 0 1 2 3 4 5;clear J f7 U))
     have CA:=dJ (pm P7.out L.out x (.slice Aa x.args.length ca) (.slice At x.to.length ct) (aW.out w7 G7.out).1 (mX ad.out HO.out) (fun v hv=>by
       have:=Rn.kind_pos (qM ad.out HO.out v hv)
       rw[<-HM.out.toInv.len] at this;exact this) HM.out.toInv.len (by rw[HM.out.toInv.len];exact ag.out.2))
     unfold df at CA
     go_at_call 126
     (with_reducible refine CA.out.mono ?_);rintro e w8 ⟨A3,c3,A4,c4,rfl,bE,bo,g8⟩;have VS:=dJ bE;have KS:=dJ bo;have G8:=dJ g8;have aV:Hid (c.Bm<w8.heap.size):=by have h1:=bG.out;have h2:=F0.out.size;have h3:=G7.out.size;have h4:=g8.size;show _<_;omega
     have P8:=dJ (P7.out.gr g8);have K:=dJ (G7.out.trans (FrS.of_gr g8));have bz:=B.out w8 K.out;obtain⟨x0,x1,x2,x3,x4,x5⟩:=crw6 bz 0 1 2 3 4 5;obtain⟨la,O⟩:=xJ (Ref.isLast x.op);have CI:=dJ (fun w1=>jq x.op w1);rw[O] at CI;have a7:Hid (∀v∈x.args,0<Ref.kind c.f v->Rn.VOK c.f (Ref.kind c.f v) (s'.tick.get v)):=fun v hv d=>Rn.arg_there L.out.val HM.out HL.out HX.out HO.out hv d;have bm:=Rn.exec_ok (pick:=Rn.given pk) L.out.val L.out.im (Rn.given_ok pk) HM.out HL.out HX.out HO.out;have aH:=dJ bm;clear bE bo g8 bz bm CA
     cases la with
     | true =>
      have bd:29<=x.op:=by unfold Ref.isLast at O;simp at O;omega
      have CL:=dJ (po P8.out (Rn.given pk) x (.slice Aa x.args.length ca) (.slice At x.to.length ct) _ ad.out bd a7.out VS.out (((aW.out w8 K.out).2).mono P8.out.n₀));clear O bd;unfold df at CL
      go_wp2_with (first|(go_at_call 118;refine(CI.out _).mono ?_;rintro e g ⟨rfl,rfl⟩))
      go_at_call 127
      (with_reducible refine CL.out.mono ?_);intro e g D;rcases hq:Rn.exec c.f (Rn.given pk) x s'.tick with ⟨_|_|t|o',s2⟩;all_goals rw[hq] at D M
      ·exact D.elim
      ·exact D.elim
      ·obtain⟨rfl,rfl,p9,E⟩:=D;have D9:=dJ (dP F0.out Q0.out ⟨_,_,p9,K.out.trans (E.mono fun k d=>.inl (.inl d)),fun k d=>.inl d⟩);clear p9 E hq;go_wp2;go_ret;rw[<-M.out];exact⟨rfl,D9.out⟩
      ·obtain⟨rfl,rfl,p9,E⟩:=D;have D9:=dJ (dP F0.out Q0.out ⟨_,_,p9,K.out.trans (E.mono fun k d=>.inl (.inl d)),fun k d=>.inl d⟩);clear p9 E hq;go_wp2;go_ret;rw[<-M.out];exact⟨rfl,D9.out⟩
     | false =>
      have aM:=ua ad.out HO.out O
      have a3:Hid (i+1<l.length):=by
       have h1:=Rn.last_iff L.out.val (vz HL.out) HX.out;have h2:=aY.out;have h3:i+1≠l.length:=fun e=>by have:=h1.2 e;rw[O] at this;cases this
       show _<_;omega
      have bF:=dJ aM;have CR:=dJ (lL P8.out L.out HM.out.toInv (by have:=aV.out;omega) bJ.out hpl (by have:=ao.out.1;have:=aE.out;show s'.widths.length<=1000;omega) x (.slice Aa x.args.length ca) (.slice At x.to.length ct) _ _ ad.out aM a7.out VS.out KS.out);clear O aM;unfold df at CR
      go_wp2_with (first|(go_at_call 118;refine(CI.out _).mono ?_;rintro e g ⟨rfl,rfl⟩))
      go_at_call 128
      (with_reducible refine CR.out.mono ?_);intro e g D;rcases hq:Rn.exec c.f (Rn.given pk) x s'.tick with ⟨v|_|t|o',s2⟩;all_goals rw[hq] at D M aH
      ·obtain⟨rfl,aS,aL,p9,E,q9⟩:=D;obtain⟨af,aF,T⟩:=aH.out;obtain⟨Y,C⟩:=xJ (fF g);obtain⟨Wz,y⟩:=xJ (dw Y g.heap.size v);have G:Gr g Y:=by rw[<-C];exact(wL g).alloc _
       have m:Y.heap[g.heap.size]?=some (.cells #[.bool false,.int .i64 0,.int .u32 0] 37 (0,0)):=by rw[<-C];exact heap_alloc_new _ _
       have Z:Gr g Wz:=by rw[<-y];exact gr_frs' G (ei _ _ _) (fun k d=>by omega)
       have j:=cX (i:=2) (.int .u32 v.n) (cX (i:=1) (.int .i64 v.s) (cX (i:=0) (.bool v.p) m));change (dw Y g.heap.size v).heap[g.heap.size]?=_ at j;rw[y] at j;obtain⟨a0,a1,a2⟩:=crw3 m 0 1 2;obtain⟨t0,t1,t2⟩:=frw3 m 0 1 2;have I:=(Z.heap _ (by have:=cY (B.out g (K.out.trans E));exact this)).trans (B.out g (K.out.trans E));have x1:=vX _ _ 1 _ _ _ I;have PZ:=dJ (p9.gr Z);have FZ:=dJ ((K.out.trans E).trans (FrS.of_gr Z));have cj:0<x.width:=sf ad.out af;have ai:Hid (Rn.WOk s2):=by have:=Rn.exec_wok (f:=c.f) (pick:=Rn.given pk) (x:=x) (s:=s') (Rn.wid_chosen L.out.val L.out.im HL.out x (vz HX.out)) ao.out;rw[hq] at this;exact this
       have ah:Hid (s2.steps<=400):=by have:=Rn.exec_steps c.f (Rn.given pk) x s'.tick;rw[hq] at this;show s2.steps<=400;rw[this];exact a6.out
       have bq:=T.set HL.out HX.out af aF;have ap:=dJ bq;obtain⟨vn,bD⟩:=xJ (NB+i);have ci:(NB:Int)+(i:Int)=(vn:Int):=by omega
       rw[aZ.out,bD] at ap;have az:Hid (vn<s2.vals.length):=by show vn<_;rw[T.toInv.len];have:=ag.out;have:=aY.out;have:=aZ.out;omega
       obtain⟨VN,ar⟩:=xJ s2.vals.length;have a9:=dJ ar;have ch:vn<VN:=by rw[<-ar];exact az.out
       have b8:VN<=1000:=by rw[<-ar,T.toInv.len];exact ag.out.2
       have bP:∀u:GrW Wz,u.val.cell? ⟨c.Bs,14,none⟩=some (.slice (some ⟨c.Bv,0,none⟩) VN VN):=fun u=>by
        have:=(PZ.out.gr u.gr).cell 14;rw[a9.out] at this;exact this
       have U0:∀u:GrW Wz,u.val.cell? ⟨g.heap.size,0,none⟩=some (.bool v.p):=fun u=>(u.gr.cell _ _ (cY j)).trans (vX _ _ 0 _ _ _ j);have U1:∀u:GrW Wz,u.val.cell? ⟨g.heap.size,1,none⟩=some (.int .i64 v.s):=fun u=>(u.gr.cell _ _ (cY j)).trans (vX _ _ 1 _ _ _ j);have U2:∀u:GrW Wz,u.val.cell? ⟨g.heap.size,2,none⟩=some (.int .u32 v.n):=fun u=>(u.gr.cell _ _ (cY j)).trans (vX _ _ 2 _ _ _ j);have DQ:=dJ q9;unfold fF at C;unfold dw at y;dsimp only[dC,vv];clear p9 E q9 af aF T bq G m Z j I hq ar;go_wp2;refine dO (W:=Wz) 10 (wL Wz) (by kernel_rfl) (by kernel_rfl) ?_;simp only[wt,List.take_zero,wz,List.drop_zero];repeat (go_big_quiet_step (fail))
       refine wpQuiet_nil ?_;intro w6 bX;obtain⟨u9,rfl⟩:=bX;clear U0 U1 U2 bP;obtain⟨W2,W3,cf,bg,⟨y',d0,d1,d2⟩,⟨f0,f1,f2⟩,bS,⟨zz,eh⟩,fh,-,p3,f3⟩:=(PZ.out.gr u9.gr).write vn az.out v;rw[a9.out] at bS;have D3:=dJ (dP F0.out Q0.out (dP FZ.out (fun k d=>(DQ.out k d).imp (fun e=>e) (fun e=>Nat.le_trans K.out.size e)) ⟨_,_,p3,(FrS.of_gr u9.gr).trans (f3.mono fun k d=>.inl d),fun k d=>.inl d⟩));clear p3 f3;go_wp2;have bV:=a3.out;exact⟨⟨i+1,s2.set vn v,by omega,by omega,by go_num,ah,ai,D3,ap,by show _=_;rw[<-M.out,<-bD];rfl⟩,by simp[intOf];omega⟩
      ·obtain⟨rfl,aS,aL,p9,E,q9⟩:=D;obtain⟨af,T⟩:=aH.out;obtain⟨Y,C⟩:=xJ (fF g);obtain⟨Wz,y⟩:=xJ (dw Y g.heap.size Rn.zero);have G:Gr g Y:=by rw[<-C];exact(wL g).alloc _
       have m:Y.heap[g.heap.size]?=some (.cells #[.bool false,.int .i64 0,.int .u32 0] 37 (0,0)):=by rw[<-C];exact heap_alloc_new _ _
       have Z:Gr g Wz:=by rw[<-y];exact gr_frs' G (ei _ _ _) (fun k d=>by omega)
       have j:=cX (i:=2) (.int .u32 (0:Int)) (cX (i:=1) (.int .i64 (0:Int)) (cX (i:=0) (.bool false) m));change (dw Y g.heap.size Rn.zero).heap[g.heap.size]?=_ at j;rw[y] at j;obtain⟨a0,a1,a2⟩:=crw3 m 0 1 2;obtain⟨t0,t1,t2⟩:=frw3 m 0 1 2;have I:=(Z.heap _ (by have:=cY (B.out g (K.out.trans E));exact this)).trans (B.out g (K.out.trans E));have x1:=vX _ _ 1 _ _ _ I;have PZ:=dJ (p9.gr Z);have FZ:=dJ ((K.out.trans E).trans (FrS.of_gr Z));have ai:Hid (Rn.WOk s2):=by have:=Rn.exec_wok (f:=c.f) (pick:=Rn.given pk) (x:=x) (s:=s') (Rn.wid_chosen L.out.val L.out.im HL.out x (vz HX.out)) ao.out;rw[hq] at this;exact this
       have ah:Hid (s2.steps<=400):=by have:=Rn.exec_steps c.f (Rn.given pk) x s'.tick;rw[hq] at this;show s2.steps<=400;rw[this];exact a6.out
       have ap:=dJ (T.skip HX.out af);have D3:=dJ (dP F0.out Q0.out (dP FZ.out (fun k d=>(q9 k d).imp (fun e=>e) (fun e=>Nat.le_trans K.out.size e)) (PZ.out.left (FrS.refl _ _))));rw[af] at x1;unfold fF at C;unfold dw at y;dsimp only[Rn.zero] at y;dsimp only[dC,vv,Rn.zero];clear p9 E q9 T G m Z j I hq;go_wp2;have bV:=a3.out;exact⟨⟨i+1,s2,by omega,by omega,by go_num,ah,ai,D3,ap,by show _=_;rw[<-M.out];rfl⟩,by simp[intOf];omega⟩
      ·exact D.elim
      ·obtain⟨rfl,aS,aL,p9,E,q9⟩:=D;have bW:o'=Rn.undefd:=(Rn.exec_fin c.f (Rn.given pk) x s'.tick (o:=o') (by rw[hq])).resolve_right (fun r=>by have:=bF.out;omega);subst bW;obtain⟨Y,C⟩:=xJ (fF g);obtain⟨Wz,y⟩:=xJ (dw Y g.heap.size Rn.zero);have G:Gr g Y:=by rw[<-C];exact(wL g).alloc _
       have m:Y.heap[g.heap.size]?=some (.cells #[.bool false,.int .i64 0,.int .u32 0] 37 (0,0)):=by rw[<-C];exact heap_alloc_new _ _
       have Z:Gr g Wz:=by rw[<-y];exact gr_frs' G (ei _ _ _) (fun k d=>by omega)
       have j:=cX (i:=2) (.int .u32 (0:Int)) (cX (i:=1) (.int .i64 (0:Int)) (cX (i:=0) (.bool false) m));change (dw Y g.heap.size Rn.zero).heap[g.heap.size]?=_ at j;rw[y] at j;obtain⟨a0,a1,a2⟩:=crw3 m 0 1 2;obtain⟨t0,t1,t2⟩:=frw3 m 0 1 2;have I:=(Z.heap _ (by have:=cY (B.out g (K.out.trans E));exact this)).trans (B.out g (K.out.trans E));have x1:=vX _ _ 1 _ _ _ I;have PZ:=dJ (p9.gr Z);have FZ:=dJ ((K.out.trans E).trans (FrS.of_gr Z));have CE:=dJ (jJ PZ.out 1 Rn.zero (by decide));have bN:=dJ (fun(w':World) (P:DS c pk w' s2 (bl++[(b:Int)]) Rn.undefd ef aS aL) (F:FrS (·=c.Bs) Wz w')=>dP F0.out Q0.out (dP FZ.out (fun k d=>(q9 k d).imp (fun e=>e) (fun e=>Nat.le_trans K.out.size e)) (P.left (F.mono fun k d=>.inl (.inl d)))));unfold vv Rn.zero at CE;unfold fF at C;unfold dw at y;dsimp only[Rn.zero] at y;dsimp only[dC];clear p9 E q9 G m Z j I hq
       go_wp2_with (first|(go_at_call 129;refine CE.out.mono ?_;rintro e w6 ⟨rfl,p6,f6⟩;have D6:=dJ (bN.out w6 p6 f6);clear p6 f6))
       go_ret;rw[<-M.out];exact⟨rfl,D6.out⟩
   ·exact absurd hi aj
end Go.Proofs.YthfhamagopbgcaaGreat

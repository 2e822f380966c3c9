/- Parts. -/
import Derived.Test.YtjkajidbdmbbaaaGreatI40
set_option linter.unusedSimpArgs false
set_option linter.unusedVariables false
set_option maxRecDepth 100000
set_option maxHeartbeats 16000000
open Go.Proofs.Tryz
namespace Go.Proofs.YtjkajidbdmbbaaaGreat
section
open Go.RowKit
def rQ:Value:=.slice none 0 0
@[go_sem] theorem sO (v:Value)(w:World):(Instr.typeAssert (.iface 24 v) 20 24 true).run prog w=.ok (.tuple #[v,.bool true]) w:=by kernel_rfl
@[go_sem] theorem sN (v:Value)(w:World):(Instr.typeAssert (.iface 24 v) 20 176 true).run prog w=.ok (.tuple #[.agg #[.int .i64 0],.bool false]) w:=by kernel_rfl
@[go_sem] theorem sM (v:Value)(w:World):(Instr.typeAssert (.iface 24 v) 20 178 true).run prog w=.ok (.tuple #[.agg #[.int .i64 0,.bool false,.int .i64 0,.int .u32 0,.slice none 0 0],.bool false]) w:=by kernel_rfl
@[go_sem] theorem sL (v:Value)(w:World):(Instr.typeAssert (.iface 208 v) 20 24 true).run prog w=.ok (.tuple #[.agg #[.bool false,.int .i64 0,.int .u32 0],.bool false]) w:=by kernel_rfl
@[go_sem] theorem sK (v:Value)(w:World):(Instr.typeAssert (.iface 208 v) 20 176 true).run prog w=.ok (.tuple #[.agg #[.int .i64 0],.bool false]) w:=by kernel_rfl
@[go_sem] theorem sJ (v:Value)(w:World):(Instr.typeAssert (.iface 208 v) 20 178 true).run prog w=.ok (.tuple #[.agg #[.int .i64 0,.bool false,.int .i64 0,.int .u32 0,.slice none 0 0],.bool false]) w:=by kernel_rfl
@[go_sem] theorem sI (v:Value)(w:World):(Instr.typeAssert (.iface 176 v) 20 24 true).run prog w=.ok (.tuple #[.agg #[.bool false,.int .i64 0,.int .u32 0],.bool false]) w:=by kernel_rfl
@[go_sem] theorem sH (v:Value)(w:World):(Instr.typeAssert (.iface 176 v) 20 176 true).run prog w=.ok (.tuple #[v,.bool true]) w:=by kernel_rfl
@[go_sem] theorem sG (v:Value)(w:World):(Instr.typeAssert (.iface 176 v) 20 178 true).run prog w=.ok (.tuple #[.agg #[.int .i64 0,.bool false,.int .i64 0,.int .u32 0,.slice none 0 0],.bool false]) w:=by kernel_rfl
@[go_sem] theorem sF (v:Value)(w:World):(Instr.typeAssert (.iface 178 v) 20 24 true).run prog w=.ok (.tuple #[.agg #[.bool false,.int .i64 0,.int .u32 0],.bool false]) w:=by kernel_rfl
@[go_sem] theorem sE (v:Value)(w:World):(Instr.typeAssert (.iface 178 v) 20 176 true).run prog w=.ok (.tuple #[.agg #[.int .i64 0],.bool false]) w:=by kernel_rfl
@[go_sem] theorem sD (v:Value)(w:World):(Instr.typeAssert (.iface 178 v) 20 178 true).run prog w=.ok (.tuple #[v,.bool true]) w:=by kernel_rfl
theorem qe {f:Fn}{x:Ins}(h:Rn.Shp f x)(ho:x.op≠28):x.args.length<=40:=by
 cases h with
 | phi q=>exact absurd q ho
 | _=>simp[*]
theorem rr {f:Fn}{x:Ins}(h:Rn.Shp f x)(ho:x.op≠28):∀v∈x.args,0<Ref.kind f v:=by
 intro v hv
 cases h with
 | phi q=>exact absurd q ho
 | const o ha=>simp[ha]at hv
 | arith o a b ha ka kb hw=>rw[ha]at hv;have:=hw.1;simp at hv;rcases hv with rfl|rfl<;>omega
 | cmp o a b ha kb hk=>rw[ha]at hv;have:=hk.1;simp at hv;rcases hv with rfl|rfl<;>omega
 | select o a b c ha ka kb kc hw=>rw[ha]at hv;have:0<x.width:=hw.elim (fun q=>by have:=q.1;omega) (fun q=>by omega);simp at hv;rcases hv with rfl|rfl|rfl<;>omega
 | ext o a ha hk=>rw[ha]at hv;have:=hk.1;simp at hv;subst hv;omega
 | lanes o a b ha ka kb hw=>rw[ha]at hv;have:=hw.1;simp at hv;rcases hv with rfl|rfl<;>omega
 | freeze o a ha ka hw=>rw[ha]at hv;have:=hw.1;simp at hv;subst hv;omega
 | poison o ha=>simp[ha]at hv
 | any o ha=>simp[ha]at hv
 | addr o ha=>simp[ha]at hv
 | gep o a b ha ka kb=>rw[ha]at hv;have:=kb.1;simp at hv;rcases hv with rfl|rfl<;>omega
 | load o a ha ka=>rw[ha]at hv;simp at hv;subst hv;omega
 | store o a b ha ka kb=>rw[ha]at hv;simp at hv;rcases hv with rfl|rfl<;>(try rcases kb with q|q|q)<;>omega
 | jump o ha=>simp[ha]at hv
 | branch o a ha ka=>rw[ha]at hv;simp at hv;subst hv;omega
 | ret0 o ha=>simp[ha]at hv
 | ret o a ha ka hr=>rw[ha]at hv;have:=hr.1;simp at hv;subst hv;omega
 | trap o ha=>simp[ha]at hv
theorem PS.mut_lt {c:Cfg}{w:World}{s:Rn.St}{b frm:Int}{vt:Value}(h:PS c w s b frm vt){k:Nat}(hk:Mut c k):k<w.heap.size:=by
 rcases hk with rfl|rfl|rfl|⟨j,g,d⟩
 ·exact cX h.st
 ·exact cX h.vals
 ·exact cX h.had
 ·have p:=(sR.1 d).1;obtain⟨m,r⟩:∃m,s.mem[j]?=some m:=⟨_,sQ (by have:=h.mem.1;omega)⟩;obtain⟨-,-,l,q,-⟩:=h.mem.2 j k g m d r;exact cX q
theorem jO {c:Cfg}{w:World}{s:Rn.St}{b:Nat}{frm:Int}{vt:Value}(h:PS c w s (b:Int) frm vt)(hf:VFn c.f){l:List Ins}(hl:c.f.blocks[b]?=some l){vl:Value}(hvl:BlkAt c.n₀ w vl l)
  (he:Rn.Ent c.f b frm l s) {pick:Rn.Pick} {fin:List Int} (hpk:Rn.PickOk pick) (ch:dW c pick fin) {O:Nat->Prop} (hA:ch.At w s.widths O) (hfin:(Rn.block c.f pick b frm s).2.widths <+: fin) (hst:s.steps<=400) :
  Calls prog 118 #[.pointer (some ⟨c.Bs,0,none⟩),vl] w (lL ch O w (b:Int) frm vt (Rn.block c.f pick b frm s)):=by
 have L:=sS hl;have bO:(Rn.phis l).length<=l.length:=Rn.phis_le l;have bm:0<l.length:=List.length_pos_iff.2 (Rn.val_laid hf.val L).1
 have bk:(Rn.phis l).length<l.length:=by
  rcases tF (Rn.phis l).length l.length with q|q
  ·exact q
  ·obtain⟨x,C⟩:∃x,l[l.length-1]?=some x:=⟨_,sQ (by omega)⟩;have h1:=(Rn.last_iff hf.val L C).2 (by omega);have h2:=(Rn.phi_iff hf.val L C).2 (by omega);rw[h2]at h1;exact absurd h1 (by decide)
 have bU:l.length<=1000:=by
  have hc:=Ref.number_count c.f hl;have:=hf.val.size;have e:Ref.count c.f=c.f.params.length+Ref.total c.f.blocks:=by unfold Ref.count Ref.number;rw[tE]
  omega
 have bQ:s.vals.length<=1000:=by
  have:=he.toMid.toInv.len;have:=hf.val.size;have e:Ref.count c.f=c.f.params.length+Ref.total c.f.blocks:=by unfold Ref.count Ref.number;rw[tE]
  omega
 obtain⟨rs,aA⟩:=xJ ((Rn.phis l).map (Rn.phiRead s frm));have aL:rs.length=(Rn.phis l).length:=by rw[<-aA,tt]
 obtain⟨R,hR⟩:=xJ (Rn.block c.f pick b frm s)
 have bd:Rn.runIns c.f pick rs l 0 (Ref.number c.f b) s=R:=by rw[<-hR];unfold Rn.block;rw[sU,hl];show _=Rn.runIns c.f pick ((Rn.phis l).map (Rn.phiRead s frm)) l 0 _ s;rw[aA]
 have aE:Hid (∀k x,l[k]?=some x->k<(Rn.phis l).length->x.op=28/\frm∈x.to/\x.to.length=x.args.length/\x.to.idxOf frm<x.args.length/\∃z:Nat,x.args[x.to.idxOf frm]?=some (z:Int)/\z<s.vals.length/\rs[k]?=some (s.get (z:Int))/\s.vals[z]?=some (s.get (z:Int))):=by
  intro k x C m;have ad:=(Rn.phi_iff hf.val L C).2 m
  have hp:(Rn.phis l)[k]?=some x:=by have:Rn.phis l <+: l:=List.takeWhile_prefix _;obtain⟨t,ht⟩:=this;rw[<-ht,te m]at C;exact C
  obtain⟨p1,p2,⟨p3,p4⟩,-,-⟩:=he.phi x (sS hp);have ax:x.to.idxOf frm<x.args.length:=by rw[p2];exact List.idxOf_lt_length_iff.2 p1
  obtain⟨z,hz⟩:=tb p3;rw[hz]at p4;have aM:z<s.vals.length:=by rw[he.toMid.toInv.len];exact Int.ofNat_lt.1 p4
  refine⟨ad,p1,p2.symm,ax,z,?_,aM,?_,?_⟩
  ·rw[sU,sQ ax]at hz;rw[sQ ax];exact congrArg some hz
  ·rw[<-aA,td,hp];show some (Rn.phiRead s frm x)=_;unfold Rn.phiRead;rw[hz]
  ·unfold Rn.St.get;rw[tc,sU,sQ aM];rfl
 have a8:Hid (∀k x,l[k]?=some x->k=(Rn.phis l).length->(x.op == 28)=false):=by intro k x C m;have:=Rn.phi_iff hf.val L C;simp;intro q;have:=this.1 q;omega
 obtain⟨Q,ay⟩:=xJ ((Rn.phis l).length);rw[ay]at bO bk aL aE a8;obtain⟨Al,cl,rfl,l1,l2,l3⟩:=hvl;obtain⟨bl,ol,rfl,aK,l4⟩:=l3 bm;have aN:Hid (∀wr,Below c.n₀ w wr->∀k x,l[k]?=some x->InsAt c.n₀ wr bl (ol+k*6) x):=fun wr hb k x C=>(l4 k x C).below aK hb
 have bC:Hid (∀k x,l[k]?=some x->w.cell? ⟨bl,ol+k*6,none⟩=some (.int .i64 x.op)):=fun k x C=>by obtain⟨va,vt,q,-⟩:=l4 k x C;exact q
 have bJ:=fg w Q (by omega);obtain⟨W1,aq⟩:=xJ (w.alloc (.cells (dF (List.replicate Q Rn.zero)).toArray 24));rw[aq]at bJ;have bI:Gr w W1:=by rw[<-aq];exact(tX w).alloc _
 have bT:W1.heap.size=w.heap.size+1:=by rw[<-aq];simp
 have bb:Hid (RowV w.heap.size (dX rs Q 0) W1):=by
  show RowV _ _ _;have e:dX rs Q 0=List.replicate Q Rn.zero:=by unfold dX;simp
  rw[e];unfold RowV;rw[<-aq];exact heap_alloc_new w _
 have bz:Hid (∀wr,FrS (·=w.heap.size) W1 wr->Gr w wr):=fun wr aw=>by have hB:Below w.heap.size W1 wr:=aw.below (fun k m=>by omega) (by omega);exact Gr.below bI hB (tS _)
 have HH:=dJ h;have HA:=dJ hA;have HF:=dJ hf;have HE:=dJ he;have HL:=dJ hl;have a5:Hid (R.2.widths <+: fin):=by show _ <+: _;rw[<-hR];exact hfin
 have bD:=dJ bd;have bE:=dJ aA;have aD:=dJ h.n₀;have bs:(Rn.block c.f pick b frm s)=R:=hR;rw[bs];clear h hA he hl hfin bd aA l3 l4 L hR bs aq aK hf
 go_enter func118, ntmps118
 go_wp2
 go_loop [6] (fun s6=>∃k:Nat,k<=Q/\s6=.int .i64 (k:Int)) (fun s6=>Q-(intOf s6).toNat)
 case atStart=>exact⟨0,tR _,rfl⟩
 case round =>
  obtain⟨k,m,rfl⟩:=hrel;obtain⟨x,C⟩:∃x,l[k]?=some x:=⟨_,sQ (by omega)⟩;have bf:=bC.out k x C;have bg:k<l.length:=by omega
  by_cases M:k<Q
  ·obtain⟨ad,-⟩:=aE.out k x C M;rw[ad]at bf;clear C ad;go_wp2;go_round;case rel=>exact⟨k+1,by omega,by go_num⟩
   case measure=>simp[intOf];omega
  ·obtain rfl:Q=k:=by omega
   have bh:=a8.out Q x C rfl;clear C;go_wp2;clear bf bh bg M
   go_loopw [36] (fun aY wr=>∃k:Nat,k<=Q/\aY=.int .i64 (k:Int)/\Hid (RowV w.heap.size (dX rs Q k) wr)/\Hid (FrS (·=w.heap.size) W1 wr)) (fun aY _=>Q-(intOf aY).toNat)
   case atStart=>exact⟨0,tR _,rfl,bb,FrS.refl _ _⟩
   case round =>
    obtain⟨k,m,rfl,Y,aw⟩:=hrel;have hG:=bz.out wr aw.out;by_cases M:k<Q
    ·obtain⟨x,C⟩:∃x,l[k]?=some x:=⟨_,sQ (by omega)⟩;obtain⟨ad,br,bP,ax,z,hz,aM,bn,bu⟩:=aE.out k x C M;obtain⟨va,aC,i0,i1,i2,i3,i4,i5,ia,it⟩:=aN.out wr (Below.mono hG aD.out) k x C;obtain⟨Aa,ca,rfl,a1,a2,a3⟩:=ia;obtain⟨ba,oa,rfl,bL,a4⟩:=a3 (by omega);obtain⟨At,ct,rfl,t1,t2,t3⟩:=it;obtain⟨bt,ot,rfl,bM,t4⟩:=t3 (by omega);obtain⟨W,aa⟩:=xJ (eU wr x (.slice (some ⟨ba,oa,none⟩) x.args.length ca) (.slice (some ⟨bt,ot,none⟩) x.to.length ct));have g2:Gr wr W:=by rw[<-aa];exact(tX wr).alloc _
     have aJ:=fun(u:GrW W)=>HH.out.gr ((hG.trans g2).trans u.gr);have U5:∀u:GrW W,u.val.cell? ⟨c.Bs,5,none⟩=some (.slice (some ⟨c.Bv,0,none⟩) s.vals.length s.vals.length):=fun u=>(aJ u).cell 5;have bG:∀u:GrW W,u.val.cell? ⟨c.Bs,10,none⟩=some (.int .i64 frm):=fun u=>(aJ u).cell 10;have X:=fun(u:GrW W)=>dn (w:=wr) (x:=x) (va:=.slice (some ⟨ba,oa,none⟩) x.args.length ca) (vt:=.slice (some ⟨bt,ot,none⟩) x.to.length ct) (w':=u.val) (by rw[aa];exact u.gr);have U3:=fun u=>(X u).2.2.2.1;have U6:=fun u=>(X u).2.2.2.2.2;have aO:ba<wr.heap.size:=by have:=aD.out;have:=hG.size;omega
     have aP:bt<wr.heap.size:=by have:=aD.out;have:=hG.size;omega
     have U7:∀u:GrW W,u.val.cell? ⟨ba,oa+x.to.idxOf frm,none⟩=some (.int .i64 z):=fun u=>((g2.trans u.gr).cell _ _ aO).trans (a4 _ _ hz);have V:=fun(u:GrW W)=>RowV.cells (aJ u).vals bu;have V0:=fun u=>(V u).1;have V1:=fun u=>(V u).2.1;have V2:=fun u=>(V u).2.2
     have CI:Hid (∀u:GrW W,Calls prog 127 #[.slice (some ⟨bt,ot,none⟩) x.to.length ct,.int .i64 frm] u.val (RG (.int .i64 (x.to.idxOf frm:Nat)) u.val)):=fun u=>by
      refine eS ?_
      have:=Tryz.slices_Index_int bt ot x.to.length ct x.to frm u.val (tS _) (by omega) (fun j hj=>by
        rw[sU,sQ hj]
        exact((g2.trans u.gr).cell _ _ aP).trans (t4 j _ (sQ hj)))
      rwa [tE,pw br]at this
     obtain⟨q,hq⟩:=xJ (x.to.idxOf frm);rw[hq]at U7 CI ax;obtain⟨y,hy⟩:∃y,(dX rs Q k)[k]?=some y:=⟨_,sQ (by rw[iz _ _ _ m aL.symm];exact M)⟩;have H:Hid (∀u:GrW W,RowV w.heap.size (dX rs Q k) u.val):=fun u=>((g2.trans u.gr).heap _ (cX Y.out)).trans Y.out
     have a9:Hid (∀u:GrW W,RowV w.heap.size (dX rs Q (k+1)) (((u.val.setCell ⟨w.heap.size,k*3,none⟩ (.bool (s.get z).p)).setCell ⟨w.heap.size,k*3+1,none⟩ (.int .i64 (s.get z).s)).setCell ⟨w.heap.size,k*3+2,none⟩ (.int .u32 (s.get z).n))):=fun u=>by rw[<-kT rs Q k aL.symm _ bn];exact(H.out u).set k _
     have a7:Hid (∀u:GrW W,FrS (·=w.heap.size) W1 (((u.val.setCell ⟨w.heap.size,k*3,none⟩ (.bool (s.get z).p)).setCell ⟨w.heap.size,k*3+1,none⟩ (.int .i64 (s.get z).s)).setCell ⟨w.heap.size,k*3+2,none⟩ (.int .u32 (s.get z).n))):=fun u =>
      (((aw.out.trans (FrS.of_gr (g2.trans u.gr))).setCell (p:=⟨w.heap.size,k*3,none⟩) rfl _).setCell (p:=⟨w.heap.size,k*3+1,none⟩) rfl _).setCell (p:=⟨w.heap.size,k*3+2,none⟩) rfl _
     have HD:Hid (∀u:GrW W,(u.val.cell? ⟨w.heap.size,k*3,none⟩=some (.bool y.p)/\u.val.cell? ⟨w.heap.size,k*3+1,none⟩=some (.int .i64 y.s)/\u.val.cell? ⟨w.heap.size,k*3+2,none⟩=some (.int .u32 y.n))/\u.val.frozen? ⟨w.heap.size,k*3,none⟩=false/\u.val.frozen? ⟨w.heap.size,k*3+1,none⟩=false/\u.val.frozen? ⟨w.heap.size,k*3+2,none⟩=false) :=
      fun u=>⟨(H.out u).cells hy,(H.out u).free _,(H.out u).free _,(H.out u).free _⟩
     have bg:k<l.length:=by omega
     obtain⟨sv,bq⟩:=xJ (s.get (z:Int));rw[bq]at V0 V1 V2 a9 a7;obtain⟨N,hN⟩:=xJ s.vals.length;rw[hN]at U5 aM bQ;clear C br bP hz bn bu a3 a4 t3 t4 X V aJ hq hy aO aP bq hN hG bL bM g2 ad;unfold eU at aa;go_wp2;refine dG 20 (by kernel_rfl) (by kernel_rfl) ?_;simp only[tJ,List.take_zero,tM,List.drop_zero];repeat (go_big_quiet_step ((rename_i u;go_at_call 127;exact dt u (CI.out u))))
     refine wpQuiet_nil ?_;intro w9 bR;obtain⟨u9,rfl⟩:=bR;obtain⟨⟨d0,d1,d2⟩,f0,f1,f2⟩:=HD.out u9;have bF:=dJ (a9.out u9);have bx:=dJ (a7.out u9);clear U5 bG U3 U6 U7 V0 V1 V2;go_wp2;go_roundw;case rel=>exact⟨k+1,by omega,by go_num,bF,bx⟩
     case measure=>simp[intOf];omega
    ·obtain rfl:Q=k:=by omega
     obtain⟨Wb,bK⟩:∃Wb,Wb=wr:=⟨_,rfl⟩;subst bK;rw[mB rs Q aL.symm]at Y;have bc:ch.At Wb s.widths O:=ch.keep HA.out (FrS.of_gr (S:=fun _=>False) hG) (fun k m=>m.elim);have aI:=HH.out.gr hG;have bA:Hid (Left ch Wb O s (b:Int) frm vt Wb):=Left.of_gr bc aI (tX _);have ap:∀k,O k->c.n₀<=k/\k<w.heap.size:=fun k m=>⟨(ch.apart HA.out k m).1,(ch.apart HA.out k m).2.1⟩
     have aT:Hid (∀s' wr,Left ch Wb O s' (b:Int) frm vt wr->RowV w.heap.size rs wr):=fun s' wr G =>
      (G.block (cX Y.out) (fun hm=>by have:=HH.out.mut_lt hm;omega) (fun ho=>by have:=(ap _ ho).2;omega)).trans Y.out
     have a0:Hid (∀s' wr,Left ch Wb O s' (b:Int) frm vt wr->Below c.n₀ w wr):=fun s' wr ⟨O',p,a,f,o⟩ =>
      Below.trans (Below.mono hG aD.out) (f.below (fun k m=>m.elim (fun q=>aI.mut q) (fun q=>(ap k q).1)) aI.n₀)
     have aF:Hid (∀s' wr,Left ch Wb O s' (b:Int) frm vt wr->Left ch w O s' (b:Int) frm vt wr):=fun s' wr G=>dH (FrS.of_gr hG) (fun k m=>.inl m) G;clear Y aw bc aI ap hG M m;go_wp2
     go_loopw [64] (fun aZ wr=>∃(k:Nat)(s':Rn.St),k<=l.length/\aZ=.int .i64 (k:Int)/\s'.steps<=400/\Hid (Left ch Wb O s' (b:Int) frm vt wr)/\Hid (Rn.Mid c.f b k l s')/\Hid (Rn.runIns c.f pick rs (l.drop k) k (Ref.number c.f b+k) s'=R)) (fun aZ _=>l.length-(intOf aZ).toNat)
     case atStart=>exact⟨0,s,tR _,rfl,hst,bA,HE.out.toMid,by (show _=_);rw[List.drop_zero,Nat.add_zero];exact bD.out⟩
     case round =>
      obtain⟨k,s',m,rfl,bW,G,hm,E⟩:=hrel;by_cases M:k<l.length
      ·obtain⟨x,C⟩:∃x,l[k]?=some x:=⟨_,sQ M⟩;have ah:l.drop k=x::l.drop (k+1):=by rw[tl M];congr 1;rw[sQ M]at C;injection C
       obtain⟨O',hP,hA,hF,hO⟩:=G.out;obtain⟨va,aC,i0,i1,i2,i3,i4,i5,ia,it⟩:=aN.out wr (a0.out _ _ G.out) k x C;obtain⟨W,aa⟩:=xJ (eU wr x va aC);have g2:Gr wr W:=by rw[<-aa];exact(tX wr).alloc _
       have al:=hP.gr g2;have bH:W.cell? ⟨c.Bs,11,none⟩=some (.int .i64 (s'.steps:Int)):=al.cell 11;by_cases aj:s'.steps=400
       ·have af:Hid (R=(.over Rn.long,s')):=by (show _=_);rw[<-E.out,ah,kY aj]
        rw[show (s'.steps:Int)=400 by omega]at bH;have aS:=dJ fun(w9:World)(g:Gr W w9)=>aF.out _ _ (G.out.gr (g2.trans g));obtain⟨Aa,ca,rfl,-,-,-⟩:=ia;obtain⟨At,ct,rfl,-,-,-⟩:=it;clear C ah hP hA hF hO al hm E g2 G;unfold eU at aa;go_wp2;go_ret2;unfold lL;rw[af.out];exact⟨aS.out _ ((tX _).alloc _),_,_,rfl,heap_alloc_new _ _⟩
       ·have b2:(s'.steps:Int)≠400:=by omega
        obtain⟨W3,aU⟩:=xJ (W.setCell ⟨c.Bs,11,none⟩ (.int .i64 ((s'.steps:Int)+1)));have I:PS c W3 s'.tick (b:Int) frm vt:=by rw[<-aU];exact al.tick
        have bZ:W.frozen? ⟨c.Bs,11,none⟩=false:=tx _ _ 11 _ _ al.st;have ag:FrS (Mut c) wr W3:=by rw[<-aU];exact((FrS.of_gr g2).setCell (p:=⟨c.Bs,11,none⟩) (.inl rfl) _)
        have aG:ch.At W3 s'.tick.widths O':=ch.keep hA ag (fun k m=>⟨hP.mut m,fun q=>(ch.apart hA k q).2.2 (.inl m)⟩);have aH:Left ch Wb O s'.tick (b:Int) frm vt W3:=dH hF hO (tW (s:=s') hA I rfl ag (fun k m=>hP.mut m));have c7:W3.cell? ⟨c.Bs,7,none⟩=some (.slice (some ⟨c.Bf,0,none⟩) c.f.blocks.length c.cf):=I.cell 7;have c9:W3.cell? ⟨c.Bs,9,none⟩=some (.int .i64 (b:Int)):=I.cell 9;have aK:=(sR.1 HL.out).1;have cf:=I.firstAt b aK;obtain⟨b0,b1,-⟩:=I.first;have bj:=Ref.number_count c.f HL.out
        have bN:s'.vals.length<=1000/\Ref.count c.f=s'.vals.length:=by have h1:=hm.out.toInv.len;have h2:=HE.out.toMid.toInv.len;omega
        obtain⟨aQ,ar⟩:=bN;have XC:=dn (w:=wr) (x:=x) (va:=va) (vt:=aC) (w':=W) (by rw[aa];exact tX _);have be:c.Bs≠wr.heap.size:=by have:=cX hP.st;omega
        have ac:∀i,W3.cell? ⟨wr.heap.size,i,none⟩=W.cell? ⟨wr.heap.size,i,none⟩:=fun i=>by rw[<-aU];exact World.cell?_setCell_far _ ⟨c.Bs,11,none⟩ ⟨wr.heap.size,i,none⟩ _ be
        have X0:=(ac 0).trans XC.1;have X1:=(ac 1).trans XC.2.1;have X2:=(ac 2).trans XC.2.2.1;have X3:=(ac 3).trans XC.2.2.2.1;have X4:=(ac 4).trans XC.2.2.2.2.1;have X5:=(ac 5).trans XC.2.2.2.2.2;have bi:(Ref.number c.f b:Int)+(k:Int)<1000:=by omega
        have aW:Ref.number c.f b+k<s'.tick.vals.length:=by show _<s'.vals.length;omega
        have ai:Rn.Mid c.f b k l s'.tick:=hm.out.like (Rn.like_tick s');have bY:=dJ ai;have bX:=dJ aH
        have an:Hid (∀(B w6:World)(F:Rn.St)(y:Rn.V),Gr W3 B->Left ch B O' F (b:Int) frm vt w6->F.vals.length=s'.vals.length ->
            Calls prog 148 #[.pointer (some ⟨c.Bs,0,none⟩),.int .i64 ((Ref.number c.f b:Int)+(k:Int)),vv y] w6 fun e w'=>e=.returned (.tuple #[])/\Left ch Wb O (F.set (Ref.number c.f b+k) y) (b:Int) frm vt w'):=by
         intro B w6 F y g4 ab hlen;have bV:=ab;obtain⟨O6,p6,a6,f6,o6⟩:=ab;refine(rq p6 (Ref.number c.f b+k) (by rw[hlen];exact aW) (by rw[hlen];exact aQ) y _ (by simp)).mono fun e w' h=>⟨h.1,?_⟩;have s1:Left ch w6 O6 (F.set (Ref.number c.f b+k) y) (b:Int) frm vt w':=tW (s:=F) a6 h.2.1 rfl h.2.2 (fun k m=>p6.mut m);have bS:Left ch B O' (F.set (Ref.number c.f b+k) y) (b:Int) frm vt w':=dH f6 o6 s1;have s3:Left ch wr O' (F.set (Ref.number c.f b+k) y) (b:Int) frm vt w':=dH ((ag.mono fun k m=>.inl m).trans (FrS.of_gr g4)) (fun k m=>.inl m) bS;exact dH hF hO s3
        by_cases aX:k<Q
        ·obtain⟨ad,-⟩:=aE.out k x C aX;obtain⟨y,hy⟩:∃y,rs[k]?=some y:=⟨_,sQ (by omega)⟩;have az:=aT.out _ _ aH;obtain⟨d0,d1,d2⟩:=RowV.cells az hy
         have U:Hid (Rn.runIns c.f pick rs (l.drop (k+1)) (k+1) (Ref.number c.f b+(k+1)) (s'.tick.set (Ref.number c.f b+k) y)=R):=by show _=_;rw[<-E.out,ah,mG aj (by omega),sU,hy];rfl
         have T:Hid (Rn.Mid c.f b (k+1) l (s'.tick.set (Ref.number c.f b+k) y)):=by have:=Rn.phi_set HF.out.val HE.out ai HL.out C (by rw[ay];exact aX);rw[bE.out,sU,hy]at this;exact this
         have CS:=dJ fun(B:World)(g:Gr W3 B)=>an.out B B s'.tick y g (Left.of_gr (s:=s'.tick) (ch.keep aG (FrS.of_gr (S:=fun _=>False) g) (fun k m=>m.elim)) (I.gr g) (tX _)) rfl;unfold vv at CS;obtain⟨nb,J⟩:=xJ (Ref.number c.f b);have am:=dJ J;rw[J]at cf bi CS U T;obtain⟨Aa,ca,rfl,-,-,-⟩:=ia;obtain⟨At,ct,rfl,-,-,-⟩:=it;have bo:(s'.tick.set (nb+k) y).steps<=400:=by show s'.steps+1<=400;omega
         clear C ah hP hA hF hO al hm E I ag aG aH ai ac XC az hy J aW bj ar g2 G ad;unfold eU at aa;go_wp2;go_quiet ((fail));go_wp2_with (go_at_call 148;refine(CS.out _ ((tX _).drewN _)).mono ?_;rintro e w5 ⟨rfl,D⟩;have Z:=dJ D;clear D);go_roundw;case rel=>exact⟨k+1,_,by omega,by go_num,bo,Z,T,by (show _=_);rw[am.out];exact U.out⟩
         case measure=>simp[intOf];omega
        ·have bv:=sS C;have L:=sS HL.out;have ho:x.op≠28:=fun q=>aX (by rw[<-ay];exact(Rn.phi_iff HF.out.val L C).1 q);have ak:=Rn.shp HF.out.val HF.out.im L bv;have au:=Rn.exec_ok HF.out.val HF.out.im hpk ai HL.out C ho
         have d:qv c.f pick rs (l.drop (k+1)) k (Ref.number c.f b+k) (Rn.exec c.f pick x s'.tick)=R:=by rw[<-E.out,ah,kX aj (by omega)]
         have av:(Rn.exec c.f pick x s'.tick).2.widths <+: fin:=by have h1:=Rn.step_prefix c.f pick rs x (l.drop (k+1)) k (Ref.number c.f b+k) s' aj (by omega);rw[<-ah,E.out]at h1;exact h1.trans a5.out
         have aB:=Rn.exec_steps c.f pick x s'.tick;have aV:Below c.n₀ wr W3:=ag.below (fun k m=>hP.mut m) hP.n₀
         have K:Hid (∀B,Gr W3 B->Calls prog 149 #[.pointer (some ⟨c.Bs,0,none⟩),du x va aC] B (dL ch O' B (b:Int) frm vt (Rn.exec c.f pick x s'.tick))):=fun B g =>
          oD (I.gr g) HF.out x va aC (ia.below (aV.trans (Below.mono g I.n₀))) (it.below (aV.trans (Below.mono g I.n₀))) (qe ak ho)
           (fun v hv=>by have:=Rn.kind_pos (rr ak ho v hv);rw[ar]at this;exact this) aQ ai.toInv ch (ch.keep aG (FrS.of_gr (S:=fun _=>False) g) (fun k m=>m.elim)) av ak ho (fun v hv m=>Rn.arg_there HF.out.val ai HL.out C ho hv m)
         have ao:Hid (∀(B w6:World)(F:Rn.St),Gr W3 B->Left ch B O' F (b:Int) frm vt w6->Left ch Wb O F (b:Int) frm vt w6):=fun B w6 F g4 ab =>
          dH hF hO (dH ((ag.mono fun k m=>.inl m).trans (FrS.of_gr g4)) (fun k m=>.inl m) ab)
         unfold du at K;obtain⟨nb,J⟩:=xJ (Ref.number c.f b);have am:=dJ J;rw[J]at cf bi an d;obtain⟨Aa,ca,rfl,-,-,-⟩:=ia;obtain⟨At,ct,rfl,-,-,-⟩:=it
         have hvl:(Rn.exec c.f pick x s'.tick).2.vals.length=s'.vals.length\/∃o,(Rn.exec c.f pick x s'.tick).1=.fin o:=by exact Rn.exec_ways c.f pick x s'.tick (fun r=>r.2.vals.length=s'.vals.length\/∃o,r.1=.fin o) (fun _=>.inl rfl) (.inr ⟨_,rfl⟩) (fun _=>.inr ⟨_,rfl⟩) (fun _=>.inl rfl) (fun _=>.inl rfl) (fun _=>.inl rfl)
         have bw:Hid (l[k]?=some x):=C;clear C ah hP hA hF hO al hm E I ag aG aH ai ac XC J aW bj ar g2 G ho ak av aV bv L be;unfold eU at aa
         cases hq:Rn.exec c.f pick x s'.tick with
         | mk r F =>
          rw[hq]at K d au hvl aB;have aR:F.steps<=400:=by have e:F.steps=s'.steps+1:=aB;omega
          clear hq aB
          cases r with
          | val y =>
           obtain⟨e1,e2,e3⟩:=au;have hlen:F.vals.length=s'.vals.length:=hvl.elim (fun q=>q) (fun⟨o,q⟩=>by cases q);have U:Hid (Rn.runIns c.f pick rs (l.drop (k+1)) (k+1) (nb+(k+1)) (F.set (nb+k) y)=R):=d
           have T:Hid (Rn.Mid c.f b (k+1) l (F.set (nb+k) y)):=by have:=e3.set HL.out bw.out e1 e2;rw[am.out]at this;exact this
           have CS:=dJ fun(B w6:World)(g:Gr W3 B)(ab:Left ch B O' F (b:Int) frm vt w6)=>an.out B w6 F y g ab hlen;unfold vv at CS;have bp:(F.set (nb+k) y).steps<=400:=aR;have ae:Hid (∀B,Gr W3 B->Calls prog 149 #[.pointer (some ⟨c.Bs,0,none⟩),.agg #[.int .i64 x.op,.int .i64 x.width,.int .i64 x.flags,.slice Aa x.args.length ca,.int .u32 x.imm,.slice At x.to.length ct]] B fun e w'=>e=.returned (.iface 24 (.agg #[.bool y.p,.int .i64 y.s,.int .u32 y.n]))/\Left ch B O' F (b:Int) frm vt w'):=K.out;clear e1 e2 e3 hlen d hvl K;go_wp2;go_quiet ((fail))
           go_wp2_with (first|(go_at_call 149;refine(ae.out _ ((tX _).drewN _)).mono ?_;rintro e w5 ⟨rfl,D⟩;have Z:=dJ D;clear D)|(go_at_call 148;(with_reducible refine(CS.out _ _ ((tX _).drewN _) (Z.out.gr ((tX _).alloc _))).mono ?_);rintro e w6 ⟨rfl,ab⟩;have bB:=dJ ab;clear ab))
           refine⟨⟨k+1,_,by omega,by go_num,bp,bB,T,by (show _=_);rw[am.out];exact U.out⟩,by simp[intOf];omega⟩
          | on =>
           obtain⟨e1,e3⟩:=au;have U:Hid (Rn.runIns c.f pick rs (l.drop (k+1)) (k+1) (nb+(k+1)) F=R):=d;have T:Hid (Rn.Mid c.f b (k+1) l F):=e3.skip bw.out e1;have ae:Hid (∀B,Gr W3 B->Calls prog 149 #[.pointer (some ⟨c.Bs,0,none⟩),.agg #[.int .i64 x.op,.int .i64 x.width,.int .i64 x.flags,.slice Aa x.args.length ca,.int .u32 x.imm,.slice At x.to.length ct]] B fun e w'=>e=.returned (.iface 208 (.agg #[]))/\Left ch B O' F (b:Int) frm vt w'):=K.out;clear e1 e3 d hvl K;go_wp2;go_quiet ((fail));go_wp2_with (go_at_call 149;refine(ae.out _ ((tX _).drewN _)).mono ?_;rintro e w5 ⟨rfl,D⟩;have Z:=dJ (ao.out _ _ _ ((tX _).drewN _) D);clear D);refine⟨⟨k+1,_,by omega,by go_num,aR,Z,T,by (show _=_);rw[am.out];exact U.out⟩,by simp[intOf];omega⟩
          | go t =>
           have af:Hid (R=(.run t,F)):=d.symm;have ae:Hid (∀B,Gr W3 B->Calls prog 149 #[.pointer (some ⟨c.Bs,0,none⟩),.agg #[.int .i64 x.op,.int .i64 x.width,.int .i64 x.flags,.slice Aa x.args.length ca,.int .u32 x.imm,.slice At x.to.length ct]] B fun e w'=>e=.returned (.iface 176 (.agg #[.int .i64 t]))/\Left ch B O' F (b:Int) frm vt w'):=K.out;clear d hvl K au;go_wp2;go_quiet ((fail));go_wp2_with (go_at_call 149;refine(ae.out _ ((tX _).drewN _)).mono ?_;rintro e w5 ⟨rfl,D⟩;have Z:=dJ (ao.out _ _ _ ((tX _).drewN _) D);clear D);go_ret2;unfold lL;rw[af.out];exact⟨aF.out _ _ (Z.out.gr ((tX _).alloc _)),rfl⟩
          | fin o =>
           have af:Hid (R=(.over o,F)):=d.symm
           obtain⟨A,n,cp,hM⟩:∃A n cp,(if o.kind=0 then c.mv else Value.slice none 0 0)=.slice A n cp:=by
            split
            ·exact⟨_,_,_,rfl⟩
            ·exact⟨_,_,_,rfl⟩
           have HM:=dJ hM
           have ae:Hid (∀B,Gr W3 B->Calls prog 149 #[.pointer (some ⟨c.Bs,0,none⟩),.agg #[.int .i64 x.op,.int .i64 x.width,.int .i64 x.flags,.slice Aa x.args.length ca,.int .u32 x.imm,.slice At x.to.length ct]] B fun e w'=>e=.returned (.iface 178 (.agg #[.int .i64 o.kind,.bool o.ret.p,.int .i64 o.ret.s,.int .u32 o.ret.n,.slice A n cp]))/\Left ch B O' F (b:Int) frm vt w'):=by have:=K.out;unfold dL sd at this;simp only[hM]at this;exact this
           clear d hvl K au hM;go_wp2;go_quiet ((fail));go_wp2_with (go_at_call 149;refine(ae.out _ ((tX _).drewN _)).mono ?_;rintro e w5 ⟨rfl,D⟩;have Z:=dJ (ao.out _ _ _ ((tX _).drewN _) D);clear D);go_ret2;unfold lL;rw[af.out];refine⟨aF.out _ _ (Z.out.gr ((tX _).alloc _)),_,178,rfl,?_⟩;unfold ix;rw[HM.out];exact heap_alloc_new _ _
      ·obtain rfl:k=l.length:=by omega
       have af:Hid (R=(.over Rn.undefd,s')):=by (show _=_);rw[<-E.out,tq (tS l.length)];rfl
       have aS:=dJ fun(w9:World)(g:Gr wr w9)=>aF.out _ _ (G.out.gr g);clear hm E G;go_wp2;go_ret2;unfold lL;rw[af.out];exact⟨aS.out _ ((tX _).alloc _),_,_,rfl,heap_alloc_new _ _⟩
section
variable {c:Cfg}{pk bl:List Int}{w:World}{s:Rn.St}{o:Rn.Out}{om wv bv:Value}
end
end

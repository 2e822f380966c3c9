/- Parts. -/
import Derived.Test.YthfhamagopbgcaaGreatL34
set_option linter.unusedSimpArgs false
set_option linter.unusedVariables false
set_option maxRecDepth 100000
set_option maxHeartbeats 16000000
open Go.Proofs.Tryz
namespace Go.Proofs.YthfhamagopbgcaaGreat
section
open Go.RowKit
section
variable {c:Cfg}{w w':World}{s s':Rn.St}{b frm b' frm':Int}{vt vt':Value}
theorem PS.stSet (h:PS c w s b frm vt)(hv:s'.vals=s.vals)(hh:s'.had=s.had)(hm:s'.mem=s.mem)(hF:FrS (·=c.Bs) w w')(hst:w'.heap[c.Bs]?=some (.cells (oE c s.vals.length b' frm' s'.steps vt') 100 (0,0))):PS c w' s' b' frm' vt':=by
 have keep:∀{k:Nat} {d:Array Value} {t:TypeId} {fr:Nat × Nat},w.heap[k]?=some (.cells d t fr)->t≠100->w'.heap[k]?=some (.cells d t fr):=fun g r =>
  (hF.block _ (cY g) (by rintro rfl;exact dn g h.st r rfl)).trans g
 obtain⟨A,B,C,D,E,F⟩:=h.old
 exact {
   st:=by rw[hv];exact hst
   vals:=by rw[hv];exact keep h.vals (by decide)
   had:=by rw[hh];exact keep h.had (by decide)
   hlen:=by rw[hv,hh];exact h.hlen
   mem:=by
     rw[hm]
     exact⟨h.mem.1,fun j b' y m r z=>by
       obtain⟨l,p,d,q,u⟩:=h.mem.2 j b' y m r z
       exact⟨l,p,d,keep q (by decide),u⟩⟩
   slots:=⟨h.slots.1,h.slots.2.1,fun hm=>by
     obtain⟨l,d,p,q⟩:=h.slots.2.2 hm
     exact⟨l,d,keep p (by decide),q⟩⟩
   fn:=h.fn.below (hF.below (fun k g=>by rw[g];exact A) h.n₀)
   first:=by
     obtain⟨l,p,d,q,u⟩:=h.first
     exact⟨l,p,d,keep q (by decide),u⟩
   old:=h.old
   apart:=h.apart}
theorem PS.tick (h:PS c w s b frm vt):PS c (w.setCell ⟨c.Bs,11,none⟩ (.int .i64 ((s.steps:Int)+1))) s.tick b frm vt:=by refine h.stSet (s':=s.tick) rfl rfl rfl ((FrS.refl (·=c.Bs) w).setCell (p:=⟨c.Bs,11,none⟩) rfl _) ?_;have:=cX (i:=11) (.int .i64 ((s.steps:Int)+1)) h.st;rw[this];rfl
end
theorem jo (x:Int):∀(zs:List Int)(i:Nat),x∈zs->Lib.idxFrom zs x i=((i+zs.idxOf x:Nat):Int)
 | z::r,i,h=>by
  by_cases e:z=x
  ·subst e;simp[Lib.idxFrom]
  ·have g:x∈r:=by
    rcases List.mem_cons.1 h with q|q
    ·exact absurd q.symm e
    ·exact q
   have d:(z == x)=false:=by simpa using e
   rw[Lib.idxFrom,yD e,jo x r (i+1) g,List.idxOf_cons,d];show ((i+1+r.idxOf x:Nat):Int)=((i+(r.idxOf x+1):Nat):Int);congr 1;omega
theorem rx {x:Int}{zs:List Int}(h:x∈zs):Lib.idxOf zs x=(zs.idxOf x:Nat):=by unfold Lib.idxOf;rw[jo x zs 0 h,Nat.zero_add]
def jv (c:Cfg)(o:Rn.Out):Array Value:=#[.int .i64 o.kind,.bool o.ret.p,.int .i64 o.ret.s,.int .u32 o.ret.n,if o.kind=0 then c.mv else .slice none 0 0]
def nxE (c:Cfg)(w':World)(e:Ending):Rn.Nx->Prop
 | .run t=>e=.returned (.tuple #[.int .i64 t,.pointer none])
 | .over o=>∃(k:Nat)(T:TypeId),e=.returned (.tuple #[.int .i64 0,.pointer (some ⟨k,0,none⟩)])/\w'.heap[k]?=some (.cells (jv c o) T (0,0))
def ni {c:Cfg}{pick:Rn.Pick}{fin:List Int}(ch:eD c pick fin)(O:Nat->Prop)(w:World)(b frm:Int)(vt:Value)(r:Rn.Nx × Rn.St)(e:Ending)(w':World):Prop :=
 Left ch w O r.2 b frm vt w'/\nxE c w' e r.1
theorem tG {c:Cfg}{w:World}{s:Rn.St}{b frm:Int}{vt:Value}(h:PS c w s b frm vt)(v:Nat)(hv:v<s.vals.length)(hn:s.vals.length<=1000)(x:Rn.V)(z:Int)(hz:z=v) :
  Calls prog 130 #[.pointer (some ⟨c.Bs,0,none⟩),.int .i64 z,vv x] w fun e w'=>e=.returned (.tuple #[])/\PS c w' (s.set v x) b frm vt/\FrS (Mut c) w w':=by
 subst hz;exact rY h v hv hn x
def eN (rs:List Rn.V)(n k:Nat):List Rn.V:=rs.take k++List.replicate (n-k) Rn.zero
theorem jx (rs:List Rn.V)(n k:Nat)(h:k<=n)(hn:n=rs.length):(eN rs n k).length=n:=by unfold eN;simp;omega
theorem mw (rs:List Rn.V)(n k:Nat)(hn:n=rs.length)(v:Rn.V)(h:rs[k]?=some v):(eN rs n k).set k v=eN rs n (k+1):=by
 have m:=(yC.1 h).1;apply List.ext_getElem?;intro i;have d:(rs.take k).length=k:=by simp;omega
 have g:(rs.take (k+1)).length=k+1:=by simp;omega
 by_cases e:k=i
 ·subst e;rw[ww (by rw[jx _ _ _ (by omega) hn];omega)];unfold eN;rw[vJ (by omega),vL,wa (by omega),h]
 ·rw[List.getElem?_set_ne e];unfold eN;by_cases j:i<k
  ·rw[vJ (by omega),vJ (by omega),vL,vL,wa j,wa (by omega)]
  ·rw[vK (by omega),vK (by omega),d,g,vR,vR];by_cases l:i<n
   ·rw[wa (by omega),wa (by omega)]
   ·rw[yD (by omega),yD (by omega)]
theorem oh (rs:List Rn.V)(n:Nat)(hn:n=rs.length):eN rs n n=rs:=by unfold eN;subst hn;simp
theorem fT {f:Fn}{pick:Rn.Pick}{reads:List Rn.V}{x:Ins}{r:List Ins}{i v:Nat}{s:Rn.St}(h:s.steps=400):Rn.runIns f pick reads (x::r) i v s=(.over Rn.long,s):=by rw[Rn.runIns,wa h]
theorem jB {f:Fn}{pick:Rn.Pick}{reads:List Rn.V}{x:Ins}{r:List Ins}{i v:Nat}{s:Rn.St}(h:s.steps≠400)(hi:i<reads.length):Rn.runIns f pick reads (x::r) i v s=Rn.runIns f pick reads r (i+1) (v+1) (s.tick.set v (reads.getD i Rn.zero)):=by rw[Rn.runIns,yD h,wa hi]
def pS (f:Fn)(pick:Rn.Pick)(reads:List Rn.V)(r:List Ins)(i v:Nat):Rn.Res × Rn.St->Rn.Nx × Rn.St
 | (.val y,s')=>Rn.runIns f pick reads r (i+1) (v+1) (s'.set v y)
 | (.on,s')=>Rn.runIns f pick reads r (i+1) (v+1) s'
 | (.go t,s')=>(.run t,s')
 | (.fin o,s')=>(.over o,s')
theorem iQ {f:Fn}{pick:Rn.Pick}{reads:List Rn.V}{x:Ins}{r:List Ins}{i v:Nat}{s:Rn.St}(h:s.steps≠400)(hi:¬i<reads.length):Rn.runIns f pick reads (x::r) i v s=pS f pick reads r i v (Rn.exec f pick x s.tick):=by
 rw[Rn.runIns,yD h,yD hi]
 cases Rn.exec f pick x s.tick with
 | mk q s'=>cases q<;>rfl
@[go_sem] theorem vj (v:Value)(w:World):(Instr.typeAssert (.iface 37 v) 20 37 true).run prog w=.ok (.tuple #[v,.bool true]) w:=by kernel_rfl
@[go_sem] theorem ve (v:Value)(w:World):(Instr.typeAssert (.iface 37 v) 20 174 true).run prog w=.ok (.tuple #[.agg #[.int .i64 0],.bool false]) w:=by kernel_rfl
@[go_sem] theorem vd (v:Value)(w:World):(Instr.typeAssert (.iface 37 v) 20 176 true).run prog w=.ok (.tuple #[.agg #[.int .i64 0,.bool false,.int .i64 0,.int .u32 0,.slice none 0 0],.bool false]) w:=by kernel_rfl
@[go_sem] theorem vc (v:Value)(w:World):(Instr.typeAssert (.iface 218 v) 20 37 true).run prog w=.ok (.tuple #[.agg #[.bool false,.int .i64 0,.int .u32 0],.bool false]) w:=by kernel_rfl
@[go_sem] theorem uZ (v:Value)(w:World):(Instr.typeAssert (.iface 218 v) 20 174 true).run prog w=.ok (.tuple #[.agg #[.int .i64 0],.bool false]) w:=by kernel_rfl
@[go_sem] theorem uY (v:Value)(w:World):(Instr.typeAssert (.iface 218 v) 20 176 true).run prog w=.ok (.tuple #[.agg #[.int .i64 0,.bool false,.int .i64 0,.int .u32 0,.slice none 0 0],.bool false]) w:=by kernel_rfl
@[go_sem] theorem uX (v:Value)(w:World):(Instr.typeAssert (.iface 174 v) 20 37 true).run prog w=.ok (.tuple #[.agg #[.bool false,.int .i64 0,.int .u32 0],.bool false]) w:=by kernel_rfl
@[go_sem] theorem uW (v:Value)(w:World):(Instr.typeAssert (.iface 174 v) 20 174 true).run prog w=.ok (.tuple #[v,.bool true]) w:=by kernel_rfl
@[go_sem] theorem uV (v:Value)(w:World):(Instr.typeAssert (.iface 174 v) 20 176 true).run prog w=.ok (.tuple #[.agg #[.int .i64 0,.bool false,.int .i64 0,.int .u32 0,.slice none 0 0],.bool false]) w:=by kernel_rfl
@[go_sem] theorem uU (v:Value)(w:World):(Instr.typeAssert (.iface 176 v) 20 37 true).run prog w=.ok (.tuple #[.agg #[.bool false,.int .i64 0,.int .u32 0],.bool false]) w:=by kernel_rfl
@[go_sem] theorem uT (v:Value)(w:World):(Instr.typeAssert (.iface 176 v) 20 174 true).run prog w=.ok (.tuple #[.agg #[.int .i64 0],.bool false]) w:=by kernel_rfl
@[go_sem] theorem uS (v:Value)(w:World):(Instr.typeAssert (.iface 176 v) 20 176 true).run prog w=.ok (.tuple #[v,.bool true]) w:=by kernel_rfl
theorem mX {f:Fn}{x:Ins}(h:Rn.Shp f x)(ho:x.op≠28):x.args.length<=40:=by
 cases h with
 | phi q=>exact absurd q ho
 | _=>simp[*]
theorem qM {f:Fn}{x:Ins}(h:Rn.Shp f x)(ho:x.op≠28):∀v∈x.args,0<Ref.kind f v:=by
 intro v hv
 cases h with
 | phi q=>exact absurd q ho
 | const o ha=>simp[ha]at hv
 | arith o a b ha ka kb hw=>rw[ha]at hv;have:=hw.1;simp at hv;rcases hv with rfl|rfl<;>omega
 | cmp o a b ha kb hk=>rw[ha]at hv;have:=hk.1;simp at hv;rcases hv with rfl|rfl<;>omega
 | select o a b c ha ka kb kc hw=>rw[ha]at hv;have:0<x.width:=hw.elim (fun q=>by have:=q.1;omega) (fun q=>by omega);simp at hv;rcases hv with rfl|rfl|rfl<;>omega
 | ext o a ha hk=>rw[ha]at hv;have:=hk.1;simp at hv;subst hv;omega
 | lanes o a b ha ka kb hw=>rw[ha]at hv;have:=hw.1;simp at hv;rcases hv with rfl|rfl<;>omega
 | freeze o a ha ka hw=>rw[ha]at hv;have:=hw.1;simp at hv;subst hv;omega
 | poison o ha=>simp[ha]at hv
 | any o ha=>simp[ha]at hv
 | addr o ha=>simp[ha]at hv
 | gep o a b ha ka kb=>rw[ha]at hv;have:=kb.1;simp at hv;rcases hv with rfl|rfl<;>omega
 | load o a ha ka=>rw[ha]at hv;simp at hv;subst hv;omega
 | store o a b ha ka kb=>rw[ha]at hv;simp at hv;rcases hv with rfl|rfl<;>(try rcases kb with q|q|q)<;>omega
 | jump o ha=>simp[ha]at hv
 | branch o a ha ka=>rw[ha]at hv;simp at hv;subst hv;omega
 | ret0 o ha=>simp[ha]at hv
 | ret o a ha ka hr=>rw[ha]at hv;have:=hr.1;simp at hv;subst hv;omega
 | trap o ha=>simp[ha]at hv
theorem PS.mut_lt {c:Cfg}{w:World}{s:Rn.St}{b frm:Int}{vt:Value}(h:PS c w s b frm vt){k:Nat}(hk:Mut c k):k<w.heap.size:=by
 rcases hk with rfl|rfl|rfl|⟨j,g,d⟩
 ·exact cY h.st
 ·exact cY h.vals
 ·exact cY h.had
 ·have p:=(yC.1 d).1;obtain⟨m,r⟩:∃m,s.mem[j]?=some m:=⟨_,vu (by have:=h.mem.1;omega)⟩;obtain⟨-,-,l,q,-⟩:=h.mem.2 j k g m d r;exact cY q
theorem ll {c:Cfg}{w:World}{s:Rn.St}{b:Nat}{frm:Int}{vt:Value}(h:PS c w s (b:Int) frm vt)(hf:VFn c.f){l:List Ins}(hl:c.f.blocks[b]?=some l){vl:Value}(hvl:BlkAt c.n₀ w vl l)
  (he:Rn.Ent c.f b frm l s) {pick:Rn.Pick} {fin:List Int} (hpk:Rn.PickOk pick) (ch:eD c pick fin) {O:Nat->Prop} (hA:ch.At w s.widths O) (hfin:(Rn.block c.f pick b frm s).2.widths <+: fin) (hst:s.steps<=400) :
  Calls prog 86 #[.pointer (some ⟨c.Bs,0,none⟩),vl] w (ni ch O w (b:Int) frm vt (Rn.block c.f pick b frm s)):=by
 have K:=vz hl;have bN:(Rn.phis l).length<=l.length:=Rn.phis_le l;have bk:0<l.length:=List.length_pos_iff.2 (Rn.val_laid hf.val K).1
 have bj:(Rn.phis l).length<l.length:=by
  rcases wh (Rn.phis l).length l.length with q|q
  ·exact q
  ·obtain⟨x,C⟩:∃x,l[l.length-1]?=some x:=⟨_,vu (by omega)⟩;have h1:=(Rn.last_iff hf.val K C).2 (by omega);have h2:=(Rn.phi_iff hf.val K C).2 (by omega);rw[h2]at h1;exact absurd h1 (by decide)
 have bT:l.length<=1000:=by
  have hc:=Ref.number_count c.f hl;have:=hf.val.size;have e:Ref.count c.f=c.f.params.length+Ref.total c.f.blocks:=by unfold Ref.count Ref.number;rw[wg]
  omega
 have bP:s.vals.length<=1000:=by
  have:=he.toMid.toInv.len;have:=hf.val.size;have e:Ref.count c.f=c.f.params.length+Ref.total c.f.blocks:=by unfold Ref.count Ref.number;rw[wg]
  omega
 obtain⟨rs,az⟩:=xJ ((Rn.phis l).map (Rn.phiRead s frm));have aK:rs.length=(Rn.phis l).length:=by rw[<-az,vS]
 obtain⟨R,hR⟩:=xJ (Rn.block c.f pick b frm s)
 have bc:Rn.runIns c.f pick rs l 0 (Ref.number c.f b) s=R:=by rw[<-hR];unfold Rn.block;rw[vA,hl];show _=Rn.runIns c.f pick ((Rn.phis l).map (Rn.phiRead s frm)) l 0 _ s;rw[az]
 have aD:Hid (∀k x,l[k]?=some x->k<(Rn.phis l).length->x.op=28/\frm∈x.to/\x.to.length=x.args.length/\x.to.idxOf frm<x.args.length/\∃z:Nat,x.args[x.to.idxOf frm]?=some (z:Int)/\z<s.vals.length/\rs[k]?=some (s.get (z:Int))/\s.vals[z]?=some (s.get (z:Int))):=by
  intro k x C m;have ac:=(Rn.phi_iff hf.val K C).2 m
  have hp:(Rn.phis l)[k]?=some x:=by have:Rn.phis l <+: l:=List.takeWhile_prefix _;obtain⟨t,ht⟩:=this;rw[<-ht,vJ m]at C;exact C
  obtain⟨p1,p2,⟨p3,p4⟩,-,-⟩:=he.phi x (vz hp);have aw:x.to.idxOf frm<x.args.length:=by rw[p2];exact List.idxOf_lt_length_iff.2 p1
  obtain⟨z,hz⟩:=vF p3;rw[hz]at p4;have aL:z<s.vals.length:=by rw[he.toMid.toInv.len];exact Int.ofNat_lt.1 p4
  refine⟨ac,p1,p2.symm,aw,z,?_,aL,?_,?_⟩
  ·rw[vA,vu aw]at hz;rw[vu aw];exact congrArg some hz
  ·rw[<-az,vH,hp];show some (Rn.phiRead s frm x)=_;unfold Rn.phiRead;rw[hz]
  ·unfold Rn.St.get;rw[vG,vA,vu aL];rfl
 have a7:Hid (∀k x,l[k]?=some x->k=(Rn.phis l).length->(x.op == 28)=false):=by intro k x C m;have:=Rn.phi_iff hf.val K C;simp;intro q;have:=this.1 q;omega
 obtain⟨M,ax⟩:=xJ ((Rn.phis l).length);rw[ax]at bN bj aK aD a7;obtain⟨Al,cl,rfl,l1,l2,l3⟩:=hvl;obtain⟨bl,ol,rfl,aJ,l4⟩:=l3 bk;have aM:Hid (∀wr,Below c.n₀ w wr->∀k x,l[k]?=some x->InsAt c.n₀ wr bl (ol+k*6) x):=fun wr hb k x C=>(l4 k x C).below aJ hb
 have bB:Hid (∀k x,l[k]?=some x->w.cell? ⟨bl,ol+k*6,none⟩=some (.int .i64 x.op)):=fun k x C=>by obtain⟨va,vt,q,-⟩:=l4 k x C;exact q
 have bI:=ff w M (by omega);obtain⟨W1,ap⟩:=xJ (w.alloc (.cells (dy (List.replicate M Rn.zero)).toArray 37));rw[ap]at bI;have bH:Gr w W1:=by rw[<-ap];exact(wL w).alloc _
 have bS:W1.heap.size=w.heap.size+1:=by rw[<-ap];simp
 have a9:Hid (RowV w.heap.size (eN rs M 0) W1):=by
  show RowV _ _ _;have e:eN rs M 0=List.replicate M Rn.zero:=by unfold eN;simp
  rw[e];unfold RowV;rw[<-ap];exact heap_alloc_new w _
 have bx:Hid (∀wr,FrS (·=w.heap.size) W1 wr->Gr w wr):=fun wr av=>by have hB:Below w.heap.size W1 wr:=av.below (fun k m=>by omega) (by omega);exact Gr.below bH hB (vV _)
 have HH:=dJ h;have HA:=dJ hA;have HF:=dJ hf;have HE:=dJ he;have HL:=dJ hl;have a0:Hid (R.2.widths <+: fin):=by show _ <+: _;rw[<-hR];exact hfin
 have bC:=dJ bc;have bD:=dJ az;have aC:=dJ h.n₀;have br:(Rn.block c.f pick b frm s)=R:=hR;rw[br];clear h hA he hl hfin bc az l3 l4 K hR br ap aJ hf
 go_enter func86, ntmps86
 go_wp2
 go_loop [6] (fun s6=>∃k:Nat,k<=M/\s6=.int .i64 (k:Int)) (fun s6=>M-(intOf s6).toNat)
 case atStart=>exact⟨0,vU _,rfl⟩
 case round =>
  obtain⟨k,m,rfl⟩:=hrel;obtain⟨x,C⟩:∃x,l[k]?=some x:=⟨_,vu (by omega)⟩;have be:=bB.out k x C;have bf:k<l.length:=by omega
  by_cases L:k<M
  ·obtain⟨ac,-⟩:=aD.out k x C L;rw[ac]at be;clear C ac;go_wp2;go_round;case rel=>exact⟨k+1,by omega,by go_num⟩
   case measure=>simp[intOf];omega
  ·obtain rfl:M=k:=by omega
   have bg:=a7.out M x C rfl;clear C;go_wp2;clear be bg bf L
   go_loopw [36] (fun aX wr=>∃k:Nat,k<=M/\aX=.int .i64 (k:Int)/\Hid (RowV w.heap.size (eN rs M k) wr)/\Hid (FrS (·=w.heap.size) W1 wr)) (fun aX _=>M-(intOf aX).toNat)
   case atStart=>exact⟨0,vU _,rfl,a9,FrS.refl _ _⟩
   case round =>
    obtain⟨k,m,rfl,W,av⟩:=hrel;have hG:=bx.out wr av.out;by_cases L:k<M
    ·obtain⟨x,C⟩:∃x,l[k]?=some x:=⟨_,vu (by omega)⟩;obtain⟨ac,bq,bO,aw,z,hz,aL,bm,bs⟩:=aD.out k x C L;obtain⟨va,aB,i0,i1,i2,i3,i4,i5,ia,it⟩:=aM.out wr (Below.mono hG aC.out) k x C;obtain⟨Aa,ca,rfl,a1,a2,a3⟩:=ia;obtain⟨ba,oa,rfl,bK,a4⟩:=a3 (by omega);obtain⟨At,ct,rfl,t1,t2,t3⟩:=it;obtain⟨bt,ot,rfl,bL,t4⟩:=t3 (by omega);obtain⟨U,Z⟩:=xJ (dY wr x (.slice (some ⟨ba,oa,none⟩) x.args.length ca) (.slice (some ⟨bt,ot,none⟩) x.to.length ct));have g2:Gr wr U:=by rw[<-Z];exact(wL wr).alloc _
     have aI:=fun(u:GrW U)=>HH.out.gr ((hG.trans g2).trans u.gr);have U5:∀u:GrW U,u.val.cell? ⟨c.Bs,5,none⟩=some (.slice (some ⟨c.Bv,0,none⟩) s.vals.length s.vals.length):=fun u=>(aI u).cell 5;have bF:∀u:GrW U,u.val.cell? ⟨c.Bs,10,none⟩=some (.int .i64 frm):=fun u=>(aI u).cell 10;have X:=fun(u:GrW U)=>dk (w:=wr) (x:=x) (va:=.slice (some ⟨ba,oa,none⟩) x.args.length ca) (vt:=.slice (some ⟨bt,ot,none⟩) x.to.length ct) (w':=u.val) (by rw[Z];exact u.gr);have U3:=fun u=>(X u).2.2.2.1;have U6:=fun u=>(X u).2.2.2.2.2;have aN:ba<wr.heap.size:=by have:=aC.out;have:=hG.size;omega
     have aO:bt<wr.heap.size:=by have:=aC.out;have:=hG.size;omega
     have U7:∀u:GrW U,u.val.cell? ⟨ba,oa+x.to.idxOf frm,none⟩=some (.int .i64 z):=fun u=>((g2.trans u.gr).cell _ _ aN).trans (a4 _ _ hz);have V:=fun(u:GrW U)=>RowV.cells (aI u).vals bs;have V0:=fun u=>(V u).1;have V1:=fun u=>(V u).2.1;have V2:=fun u=>(V u).2.2
     have CI:Hid (∀u:GrW U,Calls prog 61 #[.slice (some ⟨bt,ot,none⟩) x.to.length ct,.int .i64 frm] u.val (RG (.int .i64 (x.to.idxOf frm:Nat)) u.val)):=fun u=>by
      refine el ?_
      have:=Tryz.slices_Index_int bt ot x.to.length ct x.to frm u.val (vV _) (by omega) (fun j hj=>by
        rw[vA,vu hj]
        exact((g2.trans u.gr).cell _ _ aO).trans (t4 j _ (vu hj)))
      rwa [wg,rx bq]at this
     obtain⟨q,hq⟩:=xJ (x.to.idxOf frm);rw[hq]at U7 CI aw;obtain⟨y,hy⟩:∃y,(eN rs M k)[k]?=some y:=⟨_,vu (by rw[jx _ _ _ m aK.symm];exact L)⟩;have G:Hid (∀u:GrW U,RowV w.heap.size (eN rs M k) u.val):=fun u=>((g2.trans u.gr).heap _ (cY W.out)).trans W.out
     have a8:Hid (∀u:GrW U,RowV w.heap.size (eN rs M (k+1)) (((u.val.setCell ⟨w.heap.size,k*3,none⟩ (.bool (s.get z).p)).setCell ⟨w.heap.size,k*3+1,none⟩ (.int .i64 (s.get z).s)).setCell ⟨w.heap.size,k*3+2,none⟩ (.int .u32 (s.get z).n))):=fun u=>by rw[<-mw rs M k aK.symm _ bm];exact(G.out u).set k _
     have a5:Hid (∀u:GrW U,FrS (·=w.heap.size) W1 (((u.val.setCell ⟨w.heap.size,k*3,none⟩ (.bool (s.get z).p)).setCell ⟨w.heap.size,k*3+1,none⟩ (.int .i64 (s.get z).s)).setCell ⟨w.heap.size,k*3+2,none⟩ (.int .u32 (s.get z).n))):=fun u =>
      (((av.out.trans (FrS.of_gr (g2.trans u.gr))).setCell (p:=⟨w.heap.size,k*3,none⟩) rfl _).setCell (p:=⟨w.heap.size,k*3+1,none⟩) rfl _).setCell (p:=⟨w.heap.size,k*3+2,none⟩) rfl _
     have HD:Hid (∀u:GrW U,(u.val.cell? ⟨w.heap.size,k*3,none⟩=some (.bool y.p)/\u.val.cell? ⟨w.heap.size,k*3+1,none⟩=some (.int .i64 y.s)/\u.val.cell? ⟨w.heap.size,k*3+2,none⟩=some (.int .u32 y.n))/\u.val.frozen? ⟨w.heap.size,k*3,none⟩=false/\u.val.frozen? ⟨w.heap.size,k*3+1,none⟩=false/\u.val.frozen? ⟨w.heap.size,k*3+2,none⟩=false) :=
      fun u=>⟨(G.out u).cells hy,(G.out u).free _,(G.out u).free _,(G.out u).free _⟩
     have bf:k<l.length:=by omega
     obtain⟨sv,bp⟩:=xJ (s.get (z:Int));rw[bp]at V0 V1 V2 a8 a5;obtain⟨N,hN⟩:=xJ s.vals.length;rw[hN]at U5 aL bP;clear C bq bO hz bm bs a3 a4 t3 t4 X V aI hq hy aN aO bp hN hG bK bL g2 ac;unfold dY at Z;go_wp2;refine dD 20 (by kernel_rfl) (by kernel_rfl) ?_;simp only[wt,List.take_zero,wz,List.drop_zero];repeat (go_big_quiet_step ((rename_i u;go_at_call 61;exact di u (CI.out u))))
     refine wpQuiet_nil ?_;intro w9 bQ;obtain⟨u9,rfl⟩:=bQ;obtain⟨⟨d0,d1,d2⟩,f0,f1,f2⟩:=HD.out u9;have bE:=dJ (a8.out u9);have bw:=dJ (a5.out u9);clear U5 bF U3 U6 U7 V0 V1 V2;go_wp2;go_roundw;case rel=>exact⟨k+1,by omega,by go_num,bE,bw⟩
     case measure=>simp[intOf];omega
    ·obtain rfl:M=k:=by omega
     obtain⟨Wb,bJ⟩:∃Wb,Wb=wr:=⟨_,rfl⟩;subst bJ;rw[oh rs M aK.symm]at W;have bb:ch.At Wb s.widths O:=ch.keep HA.out (FrS.of_gr (S:=fun _=>False) hG) (fun k m=>m.elim);have aH:=HH.out.gr hG;have bz:Hid (Left ch Wb O s (b:Int) frm vt Wb):=Left.of_gr bb aH (wL _);have ao:∀k,O k->c.n₀<=k/\k<w.heap.size:=fun k m=>⟨(ch.apart HA.out k m).1,(ch.apart HA.out k m).2.1⟩
     have aS:Hid (∀s' wr,Left ch Wb O s' (b:Int) frm vt wr->RowV w.heap.size rs wr):=fun s' wr F =>
      (F.block (cY W.out) (fun hm=>by have:=HH.out.mut_lt hm;omega) (fun ho=>by have:=(ao _ ho).2;omega)).trans W.out
     have aZ:Hid (∀s' wr,Left ch Wb O s' (b:Int) frm vt wr->Below c.n₀ w wr):=fun s' wr ⟨O',p,a,f,o⟩ =>
      Below.trans (Below.mono hG aC.out) (f.below (fun k m=>m.elim (fun q=>aH.mut q) (fun q=>(ao k q).1)) aH.n₀)
     have aE:Hid (∀s' wr,Left ch Wb O s' (b:Int) frm vt wr->Left ch w O s' (b:Int) frm vt wr):=fun s' wr F=>dX (FrS.of_gr hG) (fun k m=>.inl m) F;clear W av bb aH ao hG L m;go_wp2
     go_loopw [64] (fun aY wr=>∃(k:Nat)(s':Rn.St),k<=l.length/\aY=.int .i64 (k:Int)/\s'.steps<=400/\Hid (Left ch Wb O s' (b:Int) frm vt wr)/\Hid (Rn.Mid c.f b k l s')/\Hid (Rn.runIns c.f pick rs (l.drop k) k (Ref.number c.f b+k) s'=R)) (fun aY _=>l.length-(intOf aY).toNat)
     case atStart=>exact⟨0,s,vU _,rfl,hst,bz,HE.out.toMid,by (show _=_);rw[List.drop_zero,Nat.add_zero];exact bC.out⟩
     case round =>
      obtain⟨k,s',m,rfl,bV,F,hm,E⟩:=hrel;by_cases L:k<l.length
      ·obtain⟨x,C⟩:∃x,l[k]?=some x:=⟨_,vu L⟩;have ag:l.drop k=x::l.drop (k+1):=by rw[vM L];congr 1;rw[vu L]at C;injection C
       obtain⟨O',hP,hA,hF,hO⟩:=F.out;obtain⟨va,aB,i0,i1,i2,i3,i4,i5,ia,it⟩:=aM.out wr (aZ.out _ _ F.out) k x C;obtain⟨U,Z⟩:=xJ (dY wr x va aB);have g2:Gr wr U:=by rw[<-Z];exact(wL wr).alloc _
       have ak:=hP.gr g2;have bG:U.cell? ⟨c.Bs,11,none⟩=some (.int .i64 (s'.steps:Int)):=ak.cell 11;by_cases ai:s'.steps=400
       ·have ae:Hid (R=(.over Rn.long,s')):=by (show _=_);rw[<-E.out,ag,fT ai]
        rw[show (s'.steps:Int)=400 by omega]at bG;have aR:=dJ fun(w9:World)(g:Gr U w9)=>aE.out _ _ (F.out.gr (g2.trans g));obtain⟨Aa,ca,rfl,-,-,-⟩:=ia;obtain⟨At,ct,rfl,-,-,-⟩:=it;clear C ag hP hA hF hO ak hm E g2 F;unfold dY at Z;go_wp2;go_ret2;unfold ni;rw[ae.out];exact⟨aR.out _ ((wL _).alloc _),_,_,rfl,heap_alloc_new _ _⟩
       ·have b1:(s'.steps:Int)≠400:=by omega
        obtain⟨W3,aT⟩:=xJ (U.setCell ⟨c.Bs,11,none⟩ (.int .i64 ((s'.steps:Int)+1)));have H:PS c W3 s'.tick (b:Int) frm vt:=by rw[<-aT];exact ak.tick
        have bY:U.frozen? ⟨c.Bs,11,none⟩=false:=vY _ _ 11 _ _ ak.st;have af:FrS (Mut c) wr W3:=by rw[<-aT];exact((FrS.of_gr g2).setCell (p:=⟨c.Bs,11,none⟩) (.inl rfl) _)
        have aF:ch.At W3 s'.tick.widths O':=ch.keep hA af (fun k m=>⟨hP.mut m,fun q=>(ch.apart hA k q).2.2 (.inl m)⟩);have aG:Left ch Wb O s'.tick (b:Int) frm vt W3:=dX hF hO (wG (s:=s') hA H rfl af (fun k m=>hP.mut m));have c7:W3.cell? ⟨c.Bs,7,none⟩=some (.slice (some ⟨c.Bf,0,none⟩) c.f.blocks.length c.cf):=H.cell 7;have c9:W3.cell? ⟨c.Bs,9,none⟩=some (.int .i64 (b:Int)):=H.cell 9;have aJ:=(yC.1 HL.out).1;have cf:=H.firstAt b aJ;obtain⟨bZ,b0,-⟩:=H.first;have bi:=Ref.number_count c.f HL.out
        have bM:s'.vals.length<=1000/\Ref.count c.f=s'.vals.length:=by have h1:=hm.out.toInv.len;have h2:=HE.out.toMid.toInv.len;omega
        obtain⟨aP,aq⟩:=bM;have XC:=dk (w:=wr) (x:=x) (va:=va) (vt:=aB) (w':=U) (by rw[Z];exact wL _);have bd:c.Bs≠wr.heap.size:=by have:=cY hP.st;omega
        have ab:∀i,W3.cell? ⟨wr.heap.size,i,none⟩=U.cell? ⟨wr.heap.size,i,none⟩:=fun i=>by rw[<-aT];exact World.cell?_setCell_far _ ⟨c.Bs,11,none⟩ ⟨wr.heap.size,i,none⟩ _ bd
        have X0:=(ab 0).trans XC.1;have X1:=(ab 1).trans XC.2.1;have X2:=(ab 2).trans XC.2.2.1;have X3:=(ab 3).trans XC.2.2.2.1;have X4:=(ab 4).trans XC.2.2.2.2.1;have X5:=(ab 5).trans XC.2.2.2.2.2;have bh:(Ref.number c.f b:Int)+(k:Int)<1000:=by omega
        have aV:Ref.number c.f b+k<s'.tick.vals.length:=by show _<s'.vals.length;omega
        have ah:Rn.Mid c.f b k l s'.tick:=hm.out.like (Rn.like_tick s');have bX:=dJ ah;have bW:=dJ aG
        have am:Hid (∀(B w6:World)(s2:Rn.St)(y:Rn.V),Gr W3 B->Left ch B O' s2 (b:Int) frm vt w6->s2.vals.length=s'.vals.length ->
            Calls prog 130 #[.pointer (some ⟨c.Bs,0,none⟩),.int .i64 ((Ref.number c.f b:Int)+(k:Int)),vv y] w6 fun e w'=>e=.returned (.tuple #[])/\Left ch Wb O (s2.set (Ref.number c.f b+k) y) (b:Int) frm vt w'):=by
         intro B w6 s2 y g4 aa hlen;have bU:=aa;obtain⟨O6,p6,a6,f6,o6⟩:=aa;refine(tG p6 (Ref.number c.f b+k) (by rw[hlen];exact aV) (by rw[hlen];exact aP) y _ (by simp)).mono fun e w' h=>⟨h.1,?_⟩;have s1:Left ch w6 O6 (s2.set (Ref.number c.f b+k) y) (b:Int) frm vt w':=wG (s:=s2) a6 h.2.1 rfl h.2.2 (fun k m=>p6.mut m);have bR:Left ch B O' (s2.set (Ref.number c.f b+k) y) (b:Int) frm vt w':=dX f6 o6 s1;have s3:Left ch wr O' (s2.set (Ref.number c.f b+k) y) (b:Int) frm vt w':=dX ((af.mono fun k m=>.inl m).trans (FrS.of_gr g4)) (fun k m=>.inl m) bR;exact dX hF hO s3
        by_cases aW:k<M
        ·obtain⟨ac,-⟩:=aD.out k x C aW;obtain⟨y,hy⟩:∃y,rs[k]?=some y:=⟨_,vu (by omega)⟩;have ay:=aS.out _ _ aG;obtain⟨d0,d1,d2⟩:=RowV.cells ay hy
         have T:Hid (Rn.runIns c.f pick rs (l.drop (k+1)) (k+1) (Ref.number c.f b+(k+1)) (s'.tick.set (Ref.number c.f b+k) y)=R):=by show _=_;rw[<-E.out,ag,jB ai (by omega),vA,hy];rfl
         have Q:Hid (Rn.Mid c.f b (k+1) l (s'.tick.set (Ref.number c.f b+k) y)):=by have:=Rn.phi_set HF.out.val HE.out ah HL.out C (by rw[ax];exact aW);rw[bD.out,vA,hy]at this;exact this
         have CS:=dJ fun(B:World)(g:Gr W3 B)=>am.out B B s'.tick y g (Left.of_gr (s:=s'.tick) (ch.keep aF (FrS.of_gr (S:=fun _=>False) g) (fun k m=>m.elim)) (H.gr g) (wL _)) rfl;unfold vv at CS;obtain⟨nb,I⟩:=xJ (Ref.number c.f b);have al:=dJ I;rw[I]at cf bh CS T Q;obtain⟨Aa,ca,rfl,-,-,-⟩:=ia;obtain⟨At,ct,rfl,-,-,-⟩:=it;have bn:(s'.tick.set (nb+k) y).steps<=400:=by show s'.steps+1<=400;omega
         clear C ag hP hA hF hO ak hm E H af aF aG ah ab XC ay hy I aV bi aq g2 F ac;unfold dY at Z;go_wp2;go_quiet ((fail));go_wp2_with (go_at_call 130;refine(CS.out _ ((wL _).drewN _)).mono ?_;rintro e w5 ⟨rfl,D⟩;have Y:=dJ D;clear D);go_roundw;case rel=>exact⟨k+1,_,by omega,by go_num,bn,Y,Q,by (show _=_);rw[al.out];exact T.out⟩
         case measure=>simp[intOf];omega
        ·have bu:=vz C;have K:=vz HL.out;have ho:x.op≠28:=fun q=>aW (by rw[<-ax];exact(Rn.phi_iff HF.out.val K C).1 q);have aj:=Rn.shp HF.out.val HF.out.im K bu;have ar:=Rn.exec_ok HF.out.val HF.out.im hpk ah HL.out C ho
         have d:pS c.f pick rs (l.drop (k+1)) k (Ref.number c.f b+k) (Rn.exec c.f pick x s'.tick)=R:=by rw[<-E.out,ag,iQ ai (by omega)]
         have au:(Rn.exec c.f pick x s'.tick).2.widths <+: fin:=by have h1:=Rn.step_prefix c.f pick rs x (l.drop (k+1)) k (Ref.number c.f b+k) s' ai (by omega);rw[<-ag,E.out]at h1;exact h1.trans a0.out
         have aA:=Rn.exec_steps c.f pick x s'.tick;have aU:Below c.n₀ wr W3:=af.below (fun k m=>hP.mut m) hP.n₀
         have J:Hid (∀B,Gr W3 B->Calls prog 131 #[.pointer (some ⟨c.Bs,0,none⟩),df x va aB] B (en ch O' B (b:Int) frm vt (Rn.exec c.f pick x s'.tick))):=fun B g =>
          qv (H.gr g) HF.out x va aB (ia.below (aU.trans (Below.mono g H.n₀))) (it.below (aU.trans (Below.mono g H.n₀))) (mX aj ho)
           (fun v hv=>by have:=Rn.kind_pos (qM aj ho v hv);rw[aq]at this;exact this) aP ah.toInv ch (ch.keep aF (FrS.of_gr (S:=fun _=>False) g) (fun k m=>m.elim)) au aj ho (fun v hv m=>Rn.arg_there HF.out.val ah HL.out C ho hv m)
         have an:Hid (∀(B w6:World)(s2:Rn.St),Gr W3 B->Left ch B O' s2 (b:Int) frm vt w6->Left ch Wb O s2 (b:Int) frm vt w6):=fun B w6 s2 g4 aa =>
          dX hF hO (dX ((af.mono fun k m=>.inl m).trans (FrS.of_gr g4)) (fun k m=>.inl m) aa)
         unfold df at J;obtain⟨nb,I⟩:=xJ (Ref.number c.f b);have al:=dJ I;rw[I]at cf bh am d;obtain⟨Aa,ca,rfl,-,-,-⟩:=ia;obtain⟨At,ct,rfl,-,-,-⟩:=it
         have hvl:(Rn.exec c.f pick x s'.tick).2.vals.length=s'.vals.length\/∃o,(Rn.exec c.f pick x s'.tick).1=.fin o:=by exact Rn.exec_ways c.f pick x s'.tick (fun r=>r.2.vals.length=s'.vals.length\/∃o,r.1=.fin o) (fun _=>.inl rfl) (.inr ⟨_,rfl⟩) (fun _=>.inr ⟨_,rfl⟩) (fun _=>.inl rfl) (fun _=>.inl rfl) (fun _=>.inl rfl)
         have bv:Hid (l[k]?=some x):=C;clear C ag hP hA hF hO ak hm E H af aF aG ah ab XC I aV bi aq g2 F ho aj au aU bu K bd;unfold dY at Z
         cases hq:Rn.exec c.f pick x s'.tick with
         | mk r s2 =>
          rw[hq]at J d ar hvl aA;have aQ:s2.steps<=400:=by have e:s2.steps=s'.steps+1:=aA;omega
          clear hq aA
          cases r with
          | val y =>
           obtain⟨e1,e2,e3⟩:=ar;have hlen:s2.vals.length=s'.vals.length:=hvl.elim (fun q=>q) (fun⟨o,q⟩=>by cases q);have T:Hid (Rn.runIns c.f pick rs (l.drop (k+1)) (k+1) (nb+(k+1)) (s2.set (nb+k) y)=R):=d
           have Q:Hid (Rn.Mid c.f b (k+1) l (s2.set (nb+k) y)):=by have:=e3.set HL.out bv.out e1 e2;rw[al.out]at this;exact this
           have CS:=dJ fun(B w6:World)(g:Gr W3 B)(aa:Left ch B O' s2 (b:Int) frm vt w6)=>am.out B w6 s2 y g aa hlen;unfold vv at CS;have bo:(s2.set (nb+k) y).steps<=400:=aQ;have ad:Hid (∀B,Gr W3 B->Calls prog 131 #[.pointer (some ⟨c.Bs,0,none⟩),.agg #[.int .i64 x.op,.int .i64 x.width,.int .i64 x.flags,.slice Aa x.args.length ca,.int .u32 x.imm,.slice At x.to.length ct]] B fun e w'=>e=.returned (.iface 37 (.agg #[.bool y.p,.int .i64 y.s,.int .u32 y.n]))/\Left ch B O' s2 (b:Int) frm vt w'):=J.out;clear e1 e2 e3 hlen d hvl J;go_wp2;go_quiet ((fail))
           go_wp2_with (first|(go_at_call 131;refine(ad.out _ ((wL _).drewN _)).mono ?_;rintro e w5 ⟨rfl,D⟩;have Y:=dJ D;clear D)|(go_at_call 130;(with_reducible refine(CS.out _ _ ((wL _).drewN _) (Y.out.gr ((wL _).alloc _))).mono ?_);rintro e w6 ⟨rfl,aa⟩;have bA:=dJ aa;clear aa))
           refine⟨⟨k+1,_,by omega,by go_num,bo,bA,Q,by (show _=_);rw[al.out];exact T.out⟩,by simp[intOf];omega⟩
          | on =>
           obtain⟨e1,e3⟩:=ar;have T:Hid (Rn.runIns c.f pick rs (l.drop (k+1)) (k+1) (nb+(k+1)) s2=R):=d;have Q:Hid (Rn.Mid c.f b (k+1) l s2):=e3.skip bv.out e1;have ad:Hid (∀B,Gr W3 B->Calls prog 131 #[.pointer (some ⟨c.Bs,0,none⟩),.agg #[.int .i64 x.op,.int .i64 x.width,.int .i64 x.flags,.slice Aa x.args.length ca,.int .u32 x.imm,.slice At x.to.length ct]] B fun e w'=>e=.returned (.iface 218 (.agg #[]))/\Left ch B O' s2 (b:Int) frm vt w'):=J.out;clear e1 e3 d hvl J;go_wp2;go_quiet ((fail));go_wp2_with (go_at_call 131;refine(ad.out _ ((wL _).drewN _)).mono ?_;rintro e w5 ⟨rfl,D⟩;have Y:=dJ (an.out _ _ _ ((wL _).drewN _) D);clear D);refine⟨⟨k+1,_,by omega,by go_num,aQ,Y,Q,by (show _=_);rw[al.out];exact T.out⟩,by simp[intOf];omega⟩
          | go t =>
           have ae:Hid (R=(.run t,s2)):=d.symm;have ad:Hid (∀B,Gr W3 B->Calls prog 131 #[.pointer (some ⟨c.Bs,0,none⟩),.agg #[.int .i64 x.op,.int .i64 x.width,.int .i64 x.flags,.slice Aa x.args.length ca,.int .u32 x.imm,.slice At x.to.length ct]] B fun e w'=>e=.returned (.iface 174 (.agg #[.int .i64 t]))/\Left ch B O' s2 (b:Int) frm vt w'):=J.out;clear d hvl J ar;go_wp2;go_quiet ((fail));go_wp2_with (go_at_call 131;refine(ad.out _ ((wL _).drewN _)).mono ?_;rintro e w5 ⟨rfl,D⟩;have Y:=dJ (an.out _ _ _ ((wL _).drewN _) D);clear D);go_ret2;unfold ni;rw[ae.out];exact⟨aE.out _ _ (Y.out.gr ((wL _).alloc _)),rfl⟩
          | fin o =>
           have ae:Hid (R=(.over o,s2)):=d.symm
           obtain⟨A,n,cp,hM⟩:∃A n cp,(if o.kind=0 then c.mv else Value.slice none 0 0)=.slice A n cp:=by
            split
            ·exact⟨_,_,_,rfl⟩
            ·exact⟨_,_,_,rfl⟩
           have HM:=dJ hM
           have ad:Hid (∀B,Gr W3 B->Calls prog 131 #[.pointer (some ⟨c.Bs,0,none⟩),.agg #[.int .i64 x.op,.int .i64 x.width,.int .i64 x.flags,.slice Aa x.args.length ca,.int .u32 x.imm,.slice At x.to.length ct]] B fun e w'=>e=.returned (.iface 176 (.agg #[.int .i64 o.kind,.bool o.ret.p,.int .i64 o.ret.s,.int .u32 o.ret.n,.slice A n cp]))/\Left ch B O' s2 (b:Int) frm vt w'):=by have:=J.out;unfold en uu at this;simp only[hM]at this;exact this
           clear d hvl J ar hM;go_wp2;go_quiet ((fail));go_wp2_with (go_at_call 131;refine(ad.out _ ((wL _).drewN _)).mono ?_;rintro e w5 ⟨rfl,D⟩;have Y:=dJ (an.out _ _ _ ((wL _).drewN _) D);clear D);go_ret2;unfold ni;rw[ae.out];refine⟨aE.out _ _ (Y.out.gr ((wL _).alloc _)),_,176,rfl,?_⟩;unfold jv;rw[HM.out];exact heap_alloc_new _ _
      ·obtain rfl:k=l.length:=by omega
       have ae:Hid (R=(.over Rn.undefd,s')):=by (show _=_);rw[<-E.out,vQ (vV l.length)];rfl
       have aR:=dJ fun(w9:World)(g:Gr wr w9)=>aE.out _ _ (F.out.gr g);clear hm E F;go_wp2;go_ret2;unfold ni;rw[ae.out];exact⟨aR.out _ ((wL _).alloc _),_,_,rfl,heap_alloc_new _ _⟩
end

import Derived.Test.YtjkajidbdmbbaaaGreatN34
set_option linter.unusedSimpArgs false
set_option linter.unusedVariables false
set_option maxRecDepth 100000
set_option maxHeartbeats 16000000
open Go.Proofs.Tryz
namespace Go.Proofs.YtjkajidbdmbbaaaGreat
open Ref Rn Wd Ir Rf
variable {c:Cfg}{f:Fn}{x:Ins}{frm:Int}{l r:List Ins}{fin zs:List Int}{b i k v:Nat}{O:Nat->Prop}{vl:Value}{w:World}
section
open Go.RowKit
section
variable {c:Cfg}{w w':World}{s s':AN}{b frm b' frm':Int}{vt vt':Value}
theorem PS.stSet (h:PS c w s b frm vt)(hv:s'.v=s.v)(hh:s'.had=s.had)(hm:s'.mem=s.mem)(hF:FrS (·=c.Bs) w w')(hst:w'.heap[c.Bs]?=some (.cells (pP c s.v.length b' frm' s'.t vt') 145 (0,0))):PS c w' s' b' frm' vt':=by
 have keep:∀{k:Nat} {d:Array Value} {t:TypeId} {fr:Nat × Nat},w.heap[k]?=some (.cells d t fr)->t≠145->w'.heap[k]?=some (.cells d t fr):=fun g r =>
  (hF.block _ (cY g) (by rintro rfl;exact de g h.st r rfl)).trans g
 obtain⟨A,B,C,D,E,F⟩:=h.old
 exact {
   st:=by rw[hv];exact hst
   v:=by rw[hv];exact keep h.v (by decide)
   had:=by rw[hh];exact keep h.had (by decide)
   hlen:=by rw[hv,hh];exact h.hlen
   mem:=by
     rw[hm]
     exact⟨h.mem.1,fun j b' y m r z=>by
       obtain⟨l,p,d,q,u⟩:=h.mem.2 j b' y m r z
       exact⟨l,p,d,keep q (by decide),u⟩⟩
   s:=⟨h.s.1,h.s.2.1,fun hm=>by
     obtain⟨l,d,p,q⟩:=h.s.2.2 hm
     exact⟨l,d,keep p (by decide),q⟩⟩
   fn:=h.fn.below (hF.below (fun k g=>by rw[g];exact A) h.n₀)
   first:=by
     obtain⟨l,p,d,q,u⟩:=h.first
     exact⟨l,p,d,keep q (by decide),u⟩
   old:=h.old
   apart:=h.apart}
theorem PS.tick (h:PS c w s b frm vt):PS c (w.setCell ⟨c.Bs,11,none⟩ (.int .i64 ((s.t:Int)+1))) s.tick b frm vt:=by refine h.stSet (s':=s.tick) rfl rfl rfl ((FrS.refl (·=c.Bs) w).setCell (p:=⟨c.Bs,11,none⟩) rfl _) ?_;have:=cX (i:=11) (.int .i64 ((s.t:Int)+1)) h.st;rw[this];rfl
end
theorem jP (x:Int):∀(zs:List Int)(i:Nat),x∈zs->Lib.idxFrom zs x i=((i+zs.idxOf x:Nat):Int)
 | z::r,i,h=>by
  by_cases e:z=x
  ·subst e;simp[Lib.idxFrom]
  ·have g:x∈r:=by
    rcases List.mem_cons.1 h with q|q
    ·exact absurd q.symm e
    ·exact q
   have d:(z == x)=false:=by simpa using e
   rw[Lib.idxFrom,yt e,jP x r (i+1) g,List.idxOf_cons,d];show ((i+1+r.idxOf x:Nat):Int)=((i+(r.idxOf x+1):Nat):Int);congr 1;omega
theorem tD {x:Int}(h:x∈zs):Lib.idxOf zs x=(zs.idxOf x:Nat):=by unfold Lib.idxOf;rw[jP x zs 0 h,Nat.zero_add]
def jX (c:Cfg)(o:zO):Array Value:=#[.int .i64 o.kind,.bool o.ret.p,.int .i64 o.ret.s,.int .u32 o.ret.n,if o.kind=0 then c.mv else .slice none 0 0]
def nxE (c:Cfg)(w':World)(e:Ending):NW->Prop
 | .run t=>e=.returned (.tuple #[.int .i64 t,.pointer none])
 | .over o=>∃(k:Nat)(T:TypeId),e=.returned (.tuple #[.int .i64 0,.pointer (some ⟨k,0,none⟩)])/\w'.heap[k]?=some (.cells (jX c o) T (0,0))
def oD {c:Cfg}{pick:Dk}{fin:List Int}(ch:eP c pick fin)(O:Nat->Prop)(w:World)(b frm:Int)(vt:Value)(r:NW × AN)(e:Ending)(w':World):Prop :=
 Left ch w O r.2 b frm vt w'/\nxE c w' e r.1
theorem vU {s:AN}{b:Int}{vt:Value}(h:PS c w s b frm vt)(v:Nat)(hv:v<s.v.length)(hn:s.v.length<=1000)(x:Rn.V)(z:Int)(hz:z=v) :
  Calls prog 148 #[.pointer (some ⟨c.Bs,0,none⟩),.int .i64 z,vv x] w fun e w'=>e=.returned (.tuple #[])/\PS c w' (s.set v x) b frm vt/\FrS (Mut c) w w':=by
 subst hz;exact ui h v hv hn x
def eQ (rs:List Rn.V)(n k:Nat):List Rn.V:=rs.take k++List.replicate (n-k) Rn.zero
theorem ke (rs:List Rn.V)(n k:Nat)(h:k<=n)(hn:n=rs.length):(eQ rs n k).length=n:=by unfold eQ;simp;omega
theorem nt (rs:List Rn.V)(n k:Nat)(hn:n=rs.length)(v:Rn.V)(h:rs[k]?=some v):(eQ rs n k).set k v=eQ rs n (k+1):=by
 have m:=(xS.1 h).1;apply List.ext_getElem?;intro i;have d:(rs.take k).length=k:=by simp;omega
 have g:(rs.take (k+1)).length=k+1:=by simp;omega
 by_cases e:k=i
 ·subst e;rw[yC (by rw[ke _ _ _ (by omega) hn];omega)];unfold eQ;rw[yd (by omega),yf,yr (by omega),h]
 ·rw[List.getElem?_set_ne e];unfold eQ;by_cases j:i<k
  ·rw[yd (by omega),yd (by omega),yf,yf,yr j,yr (by omega)]
  ·rw[ye (by omega),ye (by omega),d,g,yk,yk];by_cases l:i<n
   ·rw[yr (by omega),yr (by omega)]
   ·rw[yt (by omega),yt (by omega)]
theorem pA (rs:List Rn.V)(n:Nat)(hn:n=rs.length):eQ rs n n=rs:=by unfold eQ;subst hn;simp
theorem gm {pick:Dk}{reads:List Rn.V}{s:AN}(h:s.t=400):AO f pick reads (x::r) i v s=(.over ID,s):=by rw[AO,yr h]
theorem ki {pick:Dk}{reads:List Rn.V}{s:AN}(h:s.t≠400)(hi:i<reads.length):AO f pick reads (x::r) i v s=AO f pick reads r (i+1) (v+1) (s.tick.set v (reads.getD i Rn.zero)):=by rw[AO,yt h,yr hi]
def rB (f:Fn)(pick:Dk)(reads:List Rn.V)(r:List Ins)(i v:Nat):FH × AN->NW × AN
 | (.val y,s')=>AO f pick reads r (i+1) (v+1) (s'.set v y)
 | (.on,s')=>AO f pick reads r (i+1) (v+1) s'
 | (.go t,s')=>(.run t,s')
 | (.fin o,s')=>(.over o,s')
theorem jl {pick:Dk}{reads:List Rn.V}{s:AN}(h:s.t≠400)(hi:¬i<reads.length):AO f pick reads (x::r) i v s=rB f pick reads r i v (ze f pick x s.tick):=by
 rw[AO,yt h,yt hi]
 cases ze f pick x s.tick with
 | mk q s'=>cases q<;>rfl
@[go_sem] theorem xQ (v:Value)(w:World):(Instr.typeAssert (.iface 24 v) 20 24 true).run prog w=.ok (.tuple #[v,.bool true]) w:=by kernel_rfl
@[go_sem] theorem xN (v:Value)(w:World):(Instr.typeAssert (.iface 208 v) 20 24 true).run prog w=.ok (.tuple #[.agg #[.bool false,.int .i64 0,.int .u32 0],.bool false]) w:=by kernel_rfl
@[go_sem] theorem xM (v:Value)(w:World):(Instr.typeAssert (.iface 208 v) 20 176 true).run prog w=.ok (.tuple #[.agg #[.int .i64 0],.bool false]) w:=by kernel_rfl
@[go_sem] theorem xL (v:Value)(w:World):(Instr.typeAssert (.iface 208 v) 20 178 true).run prog w=.ok (.tuple #[.agg #[.int .i64 0,.bool false,.int .i64 0,.int .u32 0,.slice none 0 0],.bool false]) w:=by kernel_rfl
@[go_sem] theorem xK (v:Value)(w:World):(Instr.typeAssert (.iface 176 v) 20 24 true).run prog w=.ok (.tuple #[.agg #[.bool false,.int .i64 0,.int .u32 0],.bool false]) w:=by kernel_rfl
@[go_sem] theorem xI (v:Value)(w:World):(Instr.typeAssert (.iface 176 v) 20 176 true).run prog w=.ok (.tuple #[v,.bool true]) w:=by kernel_rfl
@[go_sem] theorem xG (v:Value)(w:World):(Instr.typeAssert (.iface 178 v) 20 24 true).run prog w=.ok (.tuple #[.agg #[.bool false,.int .i64 0,.int .u32 0],.bool false]) w:=by kernel_rfl
@[go_sem] theorem xF (v:Value)(w:World):(Instr.typeAssert (.iface 178 v) 20 176 true).run prog w=.ok (.tuple #[.agg #[.int .i64 0],.bool false]) w:=by kernel_rfl
@[go_sem] theorem xE (v:Value)(w:World):(Instr.typeAssert (.iface 178 v) 20 178 true).run prog w=.ok (.tuple #[v,.bool true]) w:=by kernel_rfl
theorem oo (h:Kp f x)(ho:x.op≠28):x.args.length<=40:=by
 cases h with
 | phi q=>exact absurd q ho
 | _=>simp[*]
theorem sC (h:Kp f x)(ho:x.op≠28):∀v∈x.args,0<Ref.kind f v:=by
 intro v hv
 cases h with
 | phi q=>exact absurd q ho
 | const o ha=>simp[ha]at hv
 | arith o a b ha ka kb hw=>rw[ha]at hv;have:=hw.1;simp at hv;rcases hv with rfl|rfl<;>omega
 | cmp o a b ha kb hk=>rw[ha]at hv;have:=hk.1;simp at hv;rcases hv with rfl|rfl<;>omega
 | select o a b c ha ka kb kc hw=>rw[ha]at hv;have:0<x.w:=hw.elim (fun q=>by have:=q.1;omega) (fun q=>by omega);simp at hv;rcases hv with rfl|rfl|rfl<;>omega
 | ext o a ha hk=>rw[ha]at hv;have:=hk.1;simp at hv;subst hv;omega
 | lanes o a b ha ka kb hw=>rw[ha]at hv;have:=hw.1;simp at hv;rcases hv with rfl|rfl<;>omega
 | freeze o a ha ka hw=>rw[ha]at hv;have:=hw.1;simp at hv;subst hv;omega
 | poison o ha=>simp[ha]at hv
 | any o ha=>simp[ha]at hv
 | addr o ha=>simp[ha]at hv
 | gep o a b ha ka kb=>rw[ha]at hv;have:=kb.1;simp at hv;rcases hv with rfl|rfl<;>omega
 | load o a ha ka=>rw[ha]at hv;simp at hv;subst hv;omega
 | store o a b ha ka kb=>rw[ha]at hv;simp at hv;rcases hv with rfl|rfl<;>(try rcases kb with q|q|q)<;>omega
 | jump o ha=>simp[ha]at hv
 | branch o a ha ka=>rw[ha]at hv;simp at hv;subst hv;omega
 | ret0 o ha=>simp[ha]at hv
 | ret o a ha ka hr=>rw[ha]at hv;have:=hr.1;simp at hv;subst hv;omega
 | trap o ha=>simp[ha]at hv
theorem PS.mut_lt {s:AN}{b:Int}{vt:Value}(h:PS c w s b frm vt)(hk:Mut c k):k<w.heap.size:=by
 rcases hk with rfl|rfl|rfl|⟨j,g,d⟩
 ·exact cY h.st
 ·exact cY h.v
 ·exact cY h.had
 ·have p:=(xS.1 d).1;obtain⟨m,r⟩:∃m,s.mem[j]?=some m:=⟨_,xR (by have:=h.mem.1;omega)⟩;obtain⟨-,-,l,q,-⟩:=h.mem.2 j k g m d r;exact cY q
theorem ma {s:AN}{vt:Value}(h:PS c w s (b:Int) frm vt)(hf:VFn c.f)(hl:c.f.b[b]?=some l)(hvl:BlkAt c.n₀ w vl l)
  (he:JO c.f b frm l s) {pick:Dk}  (hpk:Jp pick) (ch:eP c pick fin)  (hA:ch.At w s.z O) (hfin:(Rn.block c.f pick b frm s).2.z <+: fin) (hst:s.t<=400) :
  Calls prog 118 #[.pointer (some ⟨c.Bs,0,none⟩),vl] w (oD ch O w (b:Int) frm vt (Rn.block c.f pick b frm s)):=by
 have L:=xT hl;have bP:(Do l).length<=l.length:=Kv l;have bm:0<l.length:=List.length_pos_iff.2 (GR hf.val L).1
 have bk:(Do l).length<l.length:=by
  rcases yw (Do l).length l.length with q|q
  ·exact q
  ·obtain⟨x,C⟩:∃x,l[l.length-1]?=some x:=⟨_,xR (by omega)⟩;have h1:=(Iy hf.val L C).2 (by omega);have h2:=(Fv hf.val L C).2 (by omega);rw[h2]at h1;exact absurd h1 (by decide)
 have bV:l.length<=1000:=by
  have hc:=EK c.f hl;have:=hf.val.size;have e:An c.f=c.f.p.length+AX c.f.b:=by unfold An yZ;rw[yv]
  omega
 have bR:s.v.length<=1000:=by
  have:=he.toMid.toInv.len;have:=hf.val.size;have e:An c.f=c.f.p.length+AX c.f.b:=by unfold An yZ;rw[yv]
  omega
 obtain⟨rs,aA⟩:=xJ ((Do l).map (Eh s frm));have aL:rs.length=(Do l).length:=by rw[<-aA,yl]
 obtain⟨R,hR⟩:=xJ (Rn.block c.f pick b frm s)
 have bd:AO c.f pick rs l 0 (yZ c.f b) s=R:=by rw[<-hR];unfold Rn.block;rw[xU,hl];show _=AO c.f pick ((Do l).map (Eh s frm)) l 0 _ s;rw[aA]
 have aE:Hid (∀k x,l[k]?=some x->k<(Do l).length->x.op=28/\frm∈x.to/\x.to.length=x.args.length/\x.to.idxOf frm<x.args.length/\∃z:Nat,x.args[x.to.idxOf frm]?=some (z:Int)/\z<s.v.length/\rs[k]?=some (s.get (z:Int))/\s.v[z]?=some (s.get (z:Int))):=by
  intro k x C m;have ad:=(Fv hf.val L C).2 m
  have hp:(Do l)[k]?=some x:=by have:Do l <+: l:=List.takeWhile_prefix _;obtain⟨t,ht⟩:=this;rw[<-ht,yd m]at C;exact C
  obtain⟨p1,p2,⟨p3,p4⟩,-,-⟩:=he.phi x (xT hp);have ax:x.to.idxOf frm<x.args.length:=by rw[p2];exact List.idxOf_lt_length_iff.2 p1
  obtain⟨z,hz⟩:=xZ p3;rw[hz]at p4;have aM:z<s.v.length:=by rw[he.toMid.toInv.len];exact Int.ofNat_lt.1 p4
  refine⟨ad,p1,p2.symm,ax,z,?_,aM,?_,?_⟩
  ·rw[xU,xR ax]at hz;rw[xR ax];exact congrArg some hz
  ·rw[<-aA,yc,hp];show some (Eh s frm x)=_;unfold Eh;rw[hz]
  ·unfold AN.get;rw[ya,xU,xR aM];rfl
 have a8:Hid (∀k x,l[k]?=some x->k=(Do l).length->(x.op == 28)=false):=by intro k x C m;have:=Fv hf.val L C;simp;intro q;have:=this.1 q;omega
 obtain⟨Q,ay⟩:=xJ ((Do l).length);rw[ay]at bP bk aL aE a8;obtain⟨Al,cl,rfl,l1,l2,l3⟩:=hvl;obtain⟨bl,ol,rfl,aK,l4⟩:=l3 bm;have aN:Hid (∀wr,Below c.n₀ w wr->∀k x,l[k]?=some x->InsAt c.n₀ wr bl (ol+k*6) x):=fun wr hb k x C=>(l4 k x C).below aK hb
 have bD:Hid (∀k x,l[k]?=some x->w.cell? ⟨bl,ol+k*6,none⟩=some (.int .i64 x.op)):=fun k x C=>by obtain⟨va,vt,q,-⟩:=l4 k x C;exact q
 have bK:=fp w Q (by omega);obtain⟨W1,aq⟩:=xJ (w.alloc (.cells (dB (List.replicate Q Rn.zero)).toArray 24));rw[aq]at bK;have bJ:Gr w W1:=by rw[<-aq];exact(yO w).alloc _
 have bU:W1.heap.size=w.heap.size+1:=by rw[<-aq];simp
 have bb:Hid (RowV w.heap.size (eQ rs Q 0) W1):=by
  show RowV _ _ _;have e:eQ rs Q 0=List.replicate Q Rn.zero:=by unfold eQ;simp
  rw[e];unfold RowV;rw[<-aq];exact heap_alloc_new w _
 have bA:Hid (∀wr,FrS (·=w.heap.size) W1 wr->Gr w wr):=fun wr aw=>by have hB:Below w.heap.size W1 wr:=aw.below (fun k m=>by omega) (by omega);exact Gr.below bJ hB (yJ _)
 have HH:=dJ h;have HA:=dJ hA;have HF:=dJ hf;have HE:=dJ he;have HL:=dJ hl;have a5:Hid (R.2.z <+: fin):=by show _ <+: _;rw[<-hR];exact hfin
 have bE:=dJ bd;have bF:=dJ aA;have aD:=dJ h.n₀;have bs:(Rn.block c.f pick b frm s)=R:=hR;rw[bs];clear h hA he hl hfin bd aA l3 l4 L hR bs aq aK hf
 go_enter func118, ntmps118
 go_wp2
 go_loop [6] (fun s6=>∃k:Nat,k<=Q/\s6=.int .i64 (k:Int)) (fun s6=>Q-(intOf s6).toNat)
 case atStart=>exact⟨0,yI _,rfl⟩
 case round =>
  obtain⟨k,m,rfl⟩:=hrel;obtain⟨x,C⟩:∃x,l[k]?=some x:=⟨_,xR (by omega)⟩;have bf:=bD.out k x C;have bg:k<l.length:=by omega
  by_cases M:k<Q
  ·obtain⟨ad,-⟩:=aE.out k x C M;rw[ad]at bf;clear C ad;go_wp2;go_round;case rel=>exact⟨k+1,by omega,by go_num⟩
   case measure=>simp[intOf];omega
  ·obtain rfl:Q=k:=by omega
   have bh:=a8.out Q x C rfl;clear C;go_wp2;clear bf bh bg M
   go_loopw [36] (fun aY wr=>∃k:Nat,k<=Q/\aY=.int .i64 (k:Int)/\Hid (RowV w.heap.size (eQ rs Q k) wr)/\Hid (FrS (·=w.heap.size) W1 wr)) (fun aY _=>Q-(intOf aY).toNat)
   case atStart=>exact⟨0,yI _,rfl,bb,FrS.refl _ _⟩
   case round =>
    obtain⟨k,m,rfl,Y,aw⟩:=hrel;have hG:=bA.out wr aw.out;by_cases M:k<Q
    ·obtain⟨x,C⟩:∃x,l[k]?=some x:=⟨_,xR (by omega)⟩;obtain⟨ad,br,bQ,ax,z,hz,aM,bn,bu⟩:=aE.out k x C M;obtain⟨va,aC,i0,i1,i2,i3,i4,i5,ia,it⟩:=aN.out wr (Below.mono hG aD.out) k x C;obtain⟨Aa,ca,rfl,a1,a2,a3⟩:=ia;obtain⟨ba,oa,rfl,bM,a4⟩:=a3 (by omega);obtain⟨At,ct,rfl,t1,t2,t3⟩:=it;obtain⟨bt,ot,rfl,bN,t4⟩:=t3 (by omega);obtain⟨W,aa⟩:=xJ (dW wr x (.slice (some ⟨ba,oa,none⟩) x.args.length ca) (.slice (some ⟨bt,ot,none⟩) x.to.length ct));have g2:Gr wr W:=by rw[<-aa];exact(yO wr).alloc _
     have aJ:=fun(u:GrW W)=>HH.out.gr ((hG.trans g2).trans u.gr);have U5:∀u:GrW W,u.val.cell? ⟨c.Bs,5,none⟩=some (.slice (some ⟨c.Bv,0,none⟩) s.v.length s.v.length):=fun u=>(aJ u).cell 5;have bH:∀u:GrW W,u.val.cell? ⟨c.Bs,10,none⟩=some (.int .i64 frm):=fun u=>(aJ u).cell 10;have X:=fun(u:GrW W)=>dl (w:=wr) (x:=x) (va:=.slice (some ⟨ba,oa,none⟩) x.args.length ca) (vt:=.slice (some ⟨bt,ot,none⟩) x.to.length ct) (w':=u.val) (by rw[aa];exact u.gr);have U3:=fun u=>(X u).2.2.2.1;have U6:=fun u=>(X u).2.2.2.2.2;have aO:ba<wr.heap.size:=by have:=aD.out;have:=hG.size;omega
     have aP:bt<wr.heap.size:=by have:=aD.out;have:=hG.size;omega
     have U7:∀u:GrW W,u.val.cell? ⟨ba,oa+x.to.idxOf frm,none⟩=some (.int .i64 z):=fun u=>((g2.trans u.gr).cell _ _ aO).trans (a4 _ _ hz);have V:=fun(u:GrW W)=>RowV.cells (aJ u).v bu;have V0:=fun u=>(V u).1;have V1:=fun u=>(V u).2.1;have V2:=fun u=>(V u).2.2
     have CI:Hid (∀u:GrW W,Calls prog 127 #[.slice (some ⟨bt,ot,none⟩) x.to.length ct,.int .i64 frm] u.val (RG (.int .i64 (x.to.idxOf frm:Nat)) u.val)):=fun u=>by
      refine dZ ?_
      have:=Tryz.slices_Index_int bt ot x.to.length ct x.to frm u.val (yJ _) (by omega) (fun j hj=>by
        rw[xU,xR hj]
        exact((g2.trans u.gr).cell _ _ aP).trans (t4 j _ (xR hj)))
      rwa [yv,tD br]at this
     obtain⟨q,hq⟩:=xJ (x.to.idxOf frm);rw[hq]at U7 CI ax;obtain⟨y,hy⟩:∃y,(eQ rs Q k)[k]?=some y:=⟨_,xR (by rw[ke _ _ _ m aL.symm];exact M)⟩;have H:Hid (∀u:GrW W,RowV w.heap.size (eQ rs Q k) u.val):=fun u=>((g2.trans u.gr).heap _ (cY Y.out)).trans Y.out
     have a9:Hid (∀u:GrW W,RowV w.heap.size (eQ rs Q (k+1)) (((u.val.setCell ⟨w.heap.size,k*3,none⟩ (.bool (s.get z).p)).setCell ⟨w.heap.size,k*3+1,none⟩ (.int .i64 (s.get z).s)).setCell ⟨w.heap.size,k*3+2,none⟩ (.int .u32 (s.get z).n))):=fun u=>by rw[<-nt rs Q k aL.symm _ bn];exact(H.out u).set k _
     have a7:Hid (∀u:GrW W,FrS (·=w.heap.size) W1 (((u.val.setCell ⟨w.heap.size,k*3,none⟩ (.bool (s.get z).p)).setCell ⟨w.heap.size,k*3+1,none⟩ (.int .i64 (s.get z).s)).setCell ⟨w.heap.size,k*3+2,none⟩ (.int .u32 (s.get z).n))):=fun u =>
      (((aw.out.trans (FrS.of_gr (g2.trans u.gr))).setCell (p:=⟨w.heap.size,k*3,none⟩) rfl _).setCell (p:=⟨w.heap.size,k*3+1,none⟩) rfl _).setCell (p:=⟨w.heap.size,k*3+2,none⟩) rfl _
     have HD:Hid (∀u:GrW W,(u.val.cell? ⟨w.heap.size,k*3,none⟩=some (.bool y.p)/\u.val.cell? ⟨w.heap.size,k*3+1,none⟩=some (.int .i64 y.s)/\u.val.cell? ⟨w.heap.size,k*3+2,none⟩=some (.int .u32 y.n))/\u.val.frozen? ⟨w.heap.size,k*3,none⟩=false/\u.val.frozen? ⟨w.heap.size,k*3+1,none⟩=false/\u.val.frozen? ⟨w.heap.size,k*3+2,none⟩=false) :=
      fun u=>⟨(H.out u).cells hy,(H.out u).free _,(H.out u).free _,(H.out u).free _⟩
     have bg:k<l.length:=by omega
     obtain⟨sv,bq⟩:=xJ (s.get (z:Int));rw[bq]at V0 V1 V2 a9 a7;obtain⟨N,hN⟩:=xJ s.v.length;rw[hN]at U5 aM bR;clear C br bQ hz bn bu a3 a4 t3 t4 X V aJ hq hy aO aP bq hN hG bM bN g2 ad;unfold dW at aa;go_wp2;refine dC 20 (by kernel_rfl) (by kernel_rfl) ?_;simp only[yA,List.take_zero,yD,List.drop_zero];repeat (go_big_quiet_step ((rename_i u;go_at_call 127;exact dk u (CI.out u))))
     refine wpQuiet_nil ?_;intro w9 bS;obtain⟨u9,rfl⟩:=bS;obtain⟨⟨d0,d1,d2⟩,f0,f1,f2⟩:=HD.out u9;have bG:=dJ (a9.out u9);have bz:=dJ (a7.out u9);clear U5 bH U3 U6 U7 V0 V1 V2;go_wp2;go_roundw;case rel=>exact⟨k+1,by omega,by go_num,bG,bz⟩
     case measure=>simp[intOf];omega
    ·obtain rfl:Q=k:=by omega
     obtain⟨Wb,bL⟩:∃Wb,Wb=wr:=⟨_,rfl⟩;subst bL;rw[pA rs Q aL.symm]at Y;have bc:ch.At Wb s.z O:=ch.keep HA.out (FrS.of_gr (S:=fun _=>False) hG) (fun k m=>m.elim);have aI:=HH.out.gr hG;have bB:Hid (Left ch Wb O s (b:Int) frm vt Wb):=Left.of_gr bc aI (yO _);have ap:∀k,O k->c.n₀<=k/\k<w.heap.size:=fun k m=>⟨(ch.apart HA.out k m).1,(ch.apart HA.out k m).2.1⟩
     have aT:Hid (∀s' wr,Left ch Wb O s' (b:Int) frm vt wr->RowV w.heap.size rs wr):=fun s' wr G =>
      (G.block (cY Y.out) (fun hm=>by have:=HH.out.mut_lt hm;omega) (fun ho=>by have:=(ap _ ho).2;omega)).trans Y.out
     have a0:Hid (∀s' wr,Left ch Wb O s' (b:Int) frm vt wr->Below c.n₀ w wr):=fun s' wr ⟨O',p,a,f,o⟩ =>
      Below.trans (Below.mono hG aD.out) (f.below (fun k m=>m.elim (fun q=>aI.mut q) (fun q=>(ap k q).1)) aI.n₀)
     have aF:Hid (∀s' wr,Left ch Wb O s' (b:Int) frm vt wr->Left ch w O s' (b:Int) frm vt wr):=fun s' wr G=>dV (FrS.of_gr hG) (fun k m=>.inl m) G;clear Y aw bc aI ap hG M m;go_wp2
     go_loopw [64] (fun aZ wr=>∃(k:Nat)(s':AN),k<=l.length/\aZ=.int .i64 (k:Int)/\s'.t<=400/\Hid (Left ch Wb O s' (b:Int) frm vt wr)/\Hid (Rn.Mid c.f b k l s')/\Hid (AO c.f pick rs (l.drop k) k (yZ c.f b+k) s'=R)) (fun aZ _=>l.length-(intOf aZ).toNat)
     case atStart=>exact⟨0,s,yI _,rfl,hst,bB,HE.out.toMid,by (show _=_);rw[List.drop_zero,Nat.add_zero];exact bE.out⟩
     case round =>
      obtain⟨k,s',m,rfl,bX,G,hm,E⟩:=hrel;by_cases M:k<l.length
      ·obtain⟨x,C⟩:∃x,l[k]?=some x:=⟨_,xR M⟩;have ah:l.drop k=x::l.drop (k+1):=by rw[yg M];congr 1;rw[xR M]at C;injection C
       obtain⟨O',hP,hA,hF,hO⟩:=G.out;obtain⟨va,aC,i0,i1,i2,i3,i4,i5,ia,it⟩:=aN.out wr (a0.out _ _ G.out) k x C;obtain⟨W,aa⟩:=xJ (dW wr x va aC);have g2:Gr wr W:=by rw[<-aa];exact(yO wr).alloc _
       have al:=hP.gr g2;have bI:W.cell? ⟨c.Bs,11,none⟩=some (.int .i64 (s'.t:Int)):=al.cell 11;by_cases aj:s'.t=400
       ·have af:Hid (R=(.over ID,s')):=by (show _=_);rw[<-E.out,ah,gm aj]
        rw[show (s'.t:Int)=400 by omega]at bI;have aS:=dJ fun(w9:World)(g:Gr W w9)=>aF.out _ _ (G.out.gr (g2.trans g));obtain⟨Aa,ca,rfl,-,-,-⟩:=ia;obtain⟨At,ct,rfl,-,-,-⟩:=it;clear C ah hP hA hF hO al hm E g2 G;unfold dW at aa;go_wp2;go_ret2;unfold oD;rw[af.out];exact⟨aS.out _ ((yO _).alloc _),_,_,rfl,heap_alloc_new _ _⟩
       ·have b3:(s'.t:Int)≠400:=by omega
        obtain⟨W3,aU⟩:=xJ (W.setCell ⟨c.Bs,11,none⟩ (.int .i64 ((s'.t:Int)+1)));have I:PS c W3 s'.tick (b:Int) frm vt:=by rw[<-aU];exact al.tick
        have b0:W.frozen? ⟨c.Bs,11,none⟩=false:=yp _ _ 11 _ _ al.st;have ag:FrS (Mut c) wr W3:=by rw[<-aU];exact((FrS.of_gr g2).setCell (p:=⟨c.Bs,11,none⟩) (.inl rfl) _)
        have aG:ch.At W3 s'.tick.z O':=ch.keep hA ag (fun k m=>⟨hP.mut m,fun q=>(ch.apart hA k q).2.2 (.inl m)⟩);have aH:Left ch Wb O s'.tick (b:Int) frm vt W3:=dV hF hO (yN (s:=s') hA I rfl ag (fun k m=>hP.mut m));have c7:W3.cell? ⟨c.Bs,7,none⟩=some (.slice (some ⟨c.Bf,0,none⟩) c.f.b.length c.cf):=I.cell 7;have c9:W3.cell? ⟨c.Bs,9,none⟩=some (.int .i64 (b:Int)):=I.cell 9;have aK:=(xS.1 HL.out).1;have cf:=I.firstAt b aK;obtain⟨b1,b2,-⟩:=I.first;have bj:=EK c.f HL.out
        have bO:s'.v.length<=1000/\An c.f=s'.v.length:=by have h1:=hm.out.toInv.len;have h2:=HE.out.toMid.toInv.len;omega
        obtain⟨aQ,ar⟩:=bO;have XC:=dl (w:=wr) (x:=x) (va:=va) (vt:=aC) (w':=W) (by rw[aa];exact yO _);have be:c.Bs≠wr.heap.size:=by have:=cY hP.st;omega
        have ac:∀i,W3.cell? ⟨wr.heap.size,i,none⟩=W.cell? ⟨wr.heap.size,i,none⟩:=fun i=>by rw[<-aU];exact World.cell?_setCell_far _ ⟨c.Bs,11,none⟩ ⟨wr.heap.size,i,none⟩ _ be
        have X0:=(ac 0).trans XC.1;have X1:=(ac 1).trans XC.2.1;have X2:=(ac 2).trans XC.2.2.1;have X3:=(ac 3).trans XC.2.2.2.1;have X4:=(ac 4).trans XC.2.2.2.2.1;have X5:=(ac 5).trans XC.2.2.2.2.2;have bi:(yZ c.f b:Int)+(k:Int)<1000:=by omega
        have aW:yZ c.f b+k<s'.tick.v.length:=by show _<s'.v.length;omega
        have ai:Rn.Mid c.f b k l s'.tick:=hm.out.like (I0 s');have bZ:=dJ ai;have bY:=dJ aH
        have an:Hid (∀(B w6:World)(F:AN)(y:Rn.V),Gr W3 B->Left ch B O' F (b:Int) frm vt w6->F.v.length=s'.v.length ->
            Calls prog 148 #[.pointer (some ⟨c.Bs,0,none⟩),.int .i64 ((yZ c.f b:Int)+(k:Int)),vv y] w6 fun e w'=>e=.returned (.tuple #[])/\Left ch Wb O (F.set (yZ c.f b+k) y) (b:Int) frm vt w'):=by
         intro B w6 F y g4 ab hlen;have bW:=ab;obtain⟨O6,p6,a6,f6,o6⟩:=ab;refine(vU p6 (yZ c.f b+k) (by rw[hlen];exact aW) (by rw[hlen];exact aQ) y _ (by simp)).mono fun e w' h=>⟨h.1,?_⟩;have s1:Left ch w6 O6 (F.set (yZ c.f b+k) y) (b:Int) frm vt w':=yN (s:=F) a6 h.2.1 rfl h.2.2 (fun k m=>p6.mut m);have bT:Left ch B O' (F.set (yZ c.f b+k) y) (b:Int) frm vt w':=dV f6 o6 s1;have s3:Left ch wr O' (F.set (yZ c.f b+k) y) (b:Int) frm vt w':=dV ((ag.mono fun k m=>.inl m).trans (FrS.of_gr g4)) (fun k m=>.inl m) bT;exact dV hF hO s3
        by_cases aX:k<Q
        ·obtain⟨ad,-⟩:=aE.out k x C aX;obtain⟨y,hy⟩:∃y,rs[k]?=some y:=⟨_,xR (by omega)⟩;have az:=aT.out _ _ aH;obtain⟨d0,d1,d2⟩:=RowV.cells az hy
         have U:Hid (AO c.f pick rs (l.drop (k+1)) (k+1) (yZ c.f b+(k+1)) (s'.tick.set (yZ c.f b+k) y)=R):=by show _=_;rw[<-E.out,ah,ki aj (by omega),xU,hy];rfl
         have T:Hid (Rn.Mid c.f b (k+1) l (s'.tick.set (yZ c.f b+k) y)):=by have:=KU HF.out.val HE.out ai HL.out C (by rw[ay];exact aX);rw[bF.out,xU,hy]at this;exact this
         have CS:=dJ fun(B:World)(g:Gr W3 B)=>an.out B B s'.tick y g (Left.of_gr (s:=s'.tick) (ch.keep aG (FrS.of_gr (S:=fun _=>False) g) (fun k m=>m.elim)) (I.gr g) (yO _)) rfl;unfold vv at CS;obtain⟨nb,J⟩:=xJ (yZ c.f b);have am:=dJ J;rw[J]at cf bi CS U T;obtain⟨Aa,ca,rfl,-,-,-⟩:=ia;obtain⟨At,ct,rfl,-,-,-⟩:=it;have bo:(s'.tick.set (nb+k) y).t<=400:=by show s'.t+1<=400;omega
         clear C ah hP hA hF hO al hm E I ag aG aH ai ac XC az hy J aW bj ar g2 G ad;unfold dW at aa;go_wp2;go_quiet ((fail));go_wp2_with (go_at_call 148;refine(CS.out _ ((yO _).drewN _)).mono ?_;rintro e w5 ⟨rfl,D⟩;have Z:=dJ D;clear D);go_roundw;case rel=>exact⟨k+1,_,by omega,by go_num,bo,Z,T,by (show _=_);rw[am.out];exact U.out⟩
         case measure=>simp[intOf];omega
        ·have bv:=xT C;have L:=xT HL.out;have ho:x.op≠28:=fun q=>aX (by rw[<-ay];exact(Fv HF.out.val L C).1 q);have ak:=NR HF.out.val HF.out.im L bv;have au:=KT HF.out.val HF.out.im hpk ai HL.out C ho
         have d:rB c.f pick rs (l.drop (k+1)) k (yZ c.f b+k) (ze c.f pick x s'.tick)=R:=by rw[<-E.out,ah,jl aj (by omega)]
         have av:(ze c.f pick x s'.tick).2.z <+: fin:=by have h1:=Jk c.f pick rs x (l.drop (k+1)) k (yZ c.f b+k) s' aj (by omega);rw[<-ah,E.out]at h1;exact h1.trans a5.out
         have aB:=GT c.f pick x s'.tick;have aV:Below c.n₀ wr W3:=ag.below (fun k m=>hP.mut m) hP.n₀
         have K:Hid (∀B,Gr W3 B->Calls prog 149 #[.pointer (some ⟨c.Bs,0,none⟩),dj x va aC] B (ej ch O' B (b:Int) frm vt (ze c.f pick x s'.tick))):=fun B g =>
          rW (I.gr g) HF.out x va aC (ia.below (aV.trans (Below.mono g I.n₀))) (it.below (aV.trans (Below.mono g I.n₀))) (oo ak ho)
           (fun v hv=>by have:=EX (sC ak ho v hv);rw[ar]at this;exact this) aQ ai.toInv ch (ch.keep aG (FrS.of_gr (S:=fun _=>False) g) (fun k m=>m.elim)) av ak ho (fun v hv m=>Jc HF.out.val ai HL.out C ho hv m)
         have ao:Hid (∀(B w6:World)(F:AN),Gr W3 B->Left ch B O' F (b:Int) frm vt w6->Left ch Wb O F (b:Int) frm vt w6):=fun B w6 F g4 ab =>
          dV hF hO (dV ((ag.mono fun k m=>.inl m).trans (FrS.of_gr g4)) (fun k m=>.inl m) ab)
         unfold dj at K;obtain⟨nb,J⟩:=xJ (yZ c.f b);have am:=dJ J;rw[J]at cf bi an d;obtain⟨Aa,ca,rfl,-,-,-⟩:=ia;obtain⟨At,ct,rfl,-,-,-⟩:=it
         have hvl:(ze c.f pick x s'.tick).2.v.length=s'.v.length\/∃o,(ze c.f pick x s'.tick).1=.fin o:=by exact JX c.f pick x s'.tick (fun r=>r.2.v.length=s'.v.length\/∃o,r.1=.fin o) (fun _=>.inl rfl) (.inr ⟨_,rfl⟩) (fun _=>.inr ⟨_,rfl⟩) (fun _=>.inl rfl) (fun _=>.inl rfl) (fun _=>.inl rfl)
         have bx:Hid (l[k]?=some x):=C;clear C ah hP hA hF hO al hm E I ag aG aH ai ac XC J aW bj ar g2 G ho ak av aV bv L be;unfold dW at aa
         cases hq:ze c.f pick x s'.tick with
         | mk r F =>
          rw[hq]at K d au hvl aB;have aR:F.t<=400:=by have e:F.t=s'.t+1:=aB;omega
          clear hq aB
          cases r with
          | val y =>
           obtain⟨e1,e2,e3⟩:=au;have hlen:F.v.length=s'.v.length:=hvl.elim (fun q=>q) (fun⟨o,q⟩=>by cases q);have U:Hid (AO c.f pick rs (l.drop (k+1)) (k+1) (nb+(k+1)) (F.set (nb+k) y)=R):=d
           have T:Hid (Rn.Mid c.f b (k+1) l (F.set (nb+k) y)):=by have:=e3.set HL.out bx.out e1 e2;rw[am.out]at this;exact this
           have CS:=dJ fun(B w6:World)(g:Gr W3 B)(ab:Left ch B O' F (b:Int) frm vt w6)=>an.out B w6 F y g ab hlen;unfold vv at CS;have bp:(F.set (nb+k) y).t<=400:=aR;have ae:Hid (∀B,Gr W3 B->Calls prog 149 #[.pointer (some ⟨c.Bs,0,none⟩),.agg #[.int .i64 x.op,.int .i64 x.w,.int .i64 x.g,.slice Aa x.args.length ca,.int .u32 x.i,.slice At x.to.length ct]] B fun e w'=>e=.returned (.iface 24 (.agg #[.bool y.p,.int .i64 y.s,.int .u32 y.n]))/\Left ch B O' F (b:Int) frm vt w'):=K.out;clear e1 e2 e3 hlen d hvl K;go_wp2;go_quiet ((fail))
           go_wp2_with (first|(go_at_call 149;refine(ae.out _ ((yO _).drewN _)).mono ?_;rintro e w5 ⟨rfl,D⟩;have Z:=dJ D;clear D)|(go_at_call 148;(with_reducible refine(CS.out _ _ ((yO _).drewN _) (Z.out.gr ((yO _).alloc _))).mono ?_);rintro e w6 ⟨rfl,ab⟩;have bC:=dJ ab;clear ab))
           refine⟨⟨k+1,_,by omega,by go_num,bp,bC,T,by (show _=_);rw[am.out];exact U.out⟩,by simp[intOf];omega⟩
          | on =>
           obtain⟨e1,e3⟩:=au;have U:Hid (AO c.f pick rs (l.drop (k+1)) (k+1) (nb+(k+1)) F=R):=d;have T:Hid (Rn.Mid c.f b (k+1) l F):=e3.skip bx.out e1;have ae:Hid (∀B,Gr W3 B->Calls prog 149 #[.pointer (some ⟨c.Bs,0,none⟩),.agg #[.int .i64 x.op,.int .i64 x.w,.int .i64 x.g,.slice Aa x.args.length ca,.int .u32 x.i,.slice At x.to.length ct]] B fun e w'=>e=.returned (.iface 208 (.agg #[]))/\Left ch B O' F (b:Int) frm vt w'):=K.out;clear e1 e3 d hvl K;go_wp2;go_quiet ((fail));go_wp2_with (go_at_call 149;refine(ae.out _ ((yO _).drewN _)).mono ?_;rintro e w5 ⟨rfl,D⟩;have Z:=dJ (ao.out _ _ _ ((yO _).drewN _) D);clear D);refine⟨⟨k+1,_,by omega,by go_num,aR,Z,T,by (show _=_);rw[am.out];exact U.out⟩,by simp[intOf];omega⟩
          | go t =>
           have af:Hid (R=(.run t,F)):=d.symm;have ae:Hid (∀B,Gr W3 B->Calls prog 149 #[.pointer (some ⟨c.Bs,0,none⟩),.agg #[.int .i64 x.op,.int .i64 x.w,.int .i64 x.g,.slice Aa x.args.length ca,.int .u32 x.i,.slice At x.to.length ct]] B fun e w'=>e=.returned (.iface 176 (.agg #[.int .i64 t]))/\Left ch B O' F (b:Int) frm vt w'):=K.out;clear d hvl K au;go_wp2;go_quiet ((fail));go_wp2_with (go_at_call 149;refine(ae.out _ ((yO _).drewN _)).mono ?_;rintro e w5 ⟨rfl,D⟩;have Z:=dJ (ao.out _ _ _ ((yO _).drewN _) D);clear D);go_ret2;unfold oD;rw[af.out];exact⟨aF.out _ _ (Z.out.gr ((yO _).alloc _)),rfl⟩
          | fin o =>
           have af:Hid (R=(.over o,F)):=d.symm
           obtain⟨A,n,cp,hM⟩:∃A n cp,(if o.kind=0 then c.mv else Value.slice none 0 0)=.slice A n cp:=by
            split
            ·exact⟨_,_,_,rfl⟩
            ·exact⟨_,_,_,rfl⟩
           have HM:=dJ hM
           have ae:Hid (∀B,Gr W3 B->Calls prog 149 #[.pointer (some ⟨c.Bs,0,none⟩),.agg #[.int .i64 x.op,.int .i64 x.w,.int .i64 x.g,.slice Aa x.args.length ca,.int .u32 x.i,.slice At x.to.length ct]] B fun e w'=>e=.returned (.iface 178 (.agg #[.int .i64 o.kind,.bool o.ret.p,.int .i64 o.ret.s,.int .u32 o.ret.n,.slice A n cp]))/\Left ch B O' F (b:Int) frm vt w'):=by have:=K.out;unfold ej xj at this;simp only[hM]at this;exact this
           clear d hvl K au hM;go_wp2;go_quiet ((fail));go_wp2_with (go_at_call 149;refine(ae.out _ ((yO _).drewN _)).mono ?_;rintro e w5 ⟨rfl,D⟩;have Z:=dJ (ao.out _ _ _ ((yO _).drewN _) D);clear D);go_ret2;unfold oD;rw[af.out];refine⟨aF.out _ _ (Z.out.gr ((yO _).alloc _)),_,178,rfl,?_⟩;unfold jX;rw[HM.out];exact heap_alloc_new _ _
      ·obtain rfl:k=l.length:=by omega
       have af:Hid (R=(.over Dw,s')):=by (show _=_);rw[<-E.out,yj (yJ l.length)];rfl
       have aS:=dJ fun(w9:World)(g:Gr wr w9)=>aF.out _ _ (G.out.gr g);clear hm E G;go_wp2;go_ret2;unfold oD;rw[af.out];exact⟨aS.out _ ((yO _).alloc _),_,_,rfl,heap_alloc_new _ _⟩
end

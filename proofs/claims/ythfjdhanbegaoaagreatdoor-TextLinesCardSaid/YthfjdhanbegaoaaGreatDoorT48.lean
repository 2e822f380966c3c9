/- Parts. -/
import Derived.Test.YthfjdhanbegaoaaGreatDoorT46
set_option linter.unusedSimpArgs false
set_option linter.unusedVariables false
set_option maxRecDepth 100000
set_option maxHeartbeats 16000000
open Go.Proofs.Tryz
namespace Go.Proofs.YthfjdhanbegaoaaGreatDoor
section
open Go.RowKit Go.Shelf
theorem eV {fn:Func}{t u v x:Tmp}(h:fn.results=#[.tmp t,.tmp u,.tmp v,.tmp x])(tmps:Array Value)(P:Program)(w:World) :
  (results fn tmps).run P w=.ok (.tuple #[tmps.getD t undef,tmps.getD u undef,tmps.getD v undef,tmps.getD x undef]) w:=by simp[results,h,go_sem]
def Ref.whereR (f:Fn)(z:Int):Int × Int × Bool:=if Ref.valuedR f z=0 then (if (Ref.whereIs f z).1<0 then (0,0,false) else ((Ref.whereIs f z).1,(Ref.whereIs f z).2,true)) else (0,0,false)
theorem kX {f:Fn}{z:Int}(h:Ref.valuedR f z=0):Ref.validate f=0/\0<=z/\z<Ref.count f:=by
 unfold Ref.valuedR at h;split at h
 ·next h1 =>
  split at h
  ·cases h
  ·exact⟨h1,by omega,by omega⟩
 ·next h1=>exact absurd h h1
theorem jg {f:Fn}{z:Int}(h:z<f.params.length):Ref.whereR f z=(0,0,false):=by
 unfold Ref.whereR;split
 ·rw[pB];rw[Ref.whereIs,Ref.whereFrom_none z _ _ _ h];decide
 ·rfl
theorem jQ {f:Fn}{z:Int}{i:Nat}{it:It}(hv:Ref.valuedR f z=0)(hz:z=((f.params.length+i:Nat):Int))(h:(Ir.items f)[i]?=some it):Ref.whereR f z=((it.blk:Int),(it.pos:Int),true):=by unfold Ref.whereR;rw[pB hv,hz,(fy f i it h).1,pC (by simp)]
theorem jl (f:Fn):Ref.count f=f.params.length+Ref.total f.blocks:=by unfold Ref.count Ref.number;rw[pE]
theorem valid_rules' {f:Fn}(h:Ref.validate f=0):Ref.rules f=true:=by
 cases hr:Ref.rules f with
 | true=>rfl
 | false =>
  unfold Ref.validate at h;rw[hr]at h;repeat (split at h<;>first|(cases h;done)|skip)
  all_goals simp_all
theorem li (v:Value)(f:Fn)(z:Int)(w:World)(hf:FnAt w.heap.size w v f)(hn:ia f) :
  Calls prog 45 #[v,.int .i64 z] w fun e w'=>e=.returned (.tuple #[.int .i64 (Ref.whereR f z).1,.int .i64 (Ref.whereR f z).2.1,.bool (Ref.whereR f z).2.2,.int .i64 (Ref.valuedR f z)])/\Gr w w':=by
 have Z:Hid (∀d,Gr w d->Calls prog 71 #[v,.int .i64 z] d fun e w'=>e=.returned (.int .i64 (Ref.valuedR f z))/\Gr d w'):=fun d q=>kY v f z d (hf.gr q) hn
 have HH:Hid (Ref.validate f=0->∀d,Gr w d->Calls prog 72 #[v] d fun e w'=>∃E F U ca Ag ng cg,e=.returned (.agg #[.int .i64 f.params.length,.slice E (Ir.items f).length F,.slice U (Ir.items f).length ca,.slice Ag ng cg])/\Hid (IntsAt w'.heap.size w' (.slice E (Ir.items f).length F) (ji f))/\Hid (IntsAt w'.heap.size w' (.slice U (Ir.items f).length ca) (ei f))/\Gr d w'):=by
  intro h d q;have H:=fm h;refine(iO v f d (hf.gr q) hn.blocks (by rw[eO];omega) (iz (valid_rules' h))).mono ?_;rintro e w' ⟨vb,va,vg,q1,q2,q3,q4,q5⟩;have al:=q2;have am:=q3;obtain⟨E,F,L,-,-,-⟩:=q2;obtain⟨U,ca,M,-,-,-⟩:=q3;obtain⟨Ag,cg,e4,-,-,-⟩:=q4;have l2:(ji f).length=(Ir.items f).length:=by simp[ji]
  have l3:(ei f).length=(Ir.items f).length:=by simp[ei]
  rw[l2]at L;rw[l3]at M;subst L;subst M;subst e4;exact⟨E,F,U,ca,Ag,_,cg,q1,al,am,q5⟩
 have HN:=dJ (kX (f:=f) (z:=z));have HP:=dJ (jg (f:=f) (z:=z));have HI:=dJ (fun i it=>jQ (f:=f) (z:=z) (i:=i) (it:=it));have N:Hid (Ref.valuedR f z≠0->Ref.whereR f z=(0,0,false)):=by intro h;unfold Ref.whereR;rw[pC h]
 have ab:=dJ (jl f);have ad:=dJ (eO f);obtain⟨vp,vs,vb,rfl,hp,ak,hb⟩:=hf;obtain⟨X,cp,rfl,aD,aE,-⟩:=hp;obtain⟨Y,cs,rfl,aG,aH,-⟩:=ak;obtain⟨E,F,rfl,ax,ay,-⟩:=hb;obtain⟨W,hW⟩:=xJ (w.alloc (.cells #[.slice X f.params.length cp,.int .i64 f.ret,.slice Y f.slots.length cs,.slice E f.blocks.length F] 25));have g:Gr w W:=by rw[<-hW];exact(qj w).alloc _
 have g0:Gr (w.alloc (.cells #[.slice X f.params.length cp,.int .i64 f.ret,.slice Y f.slots.length cs,.slice E f.blocks.length F] 25)) W:=by rw[hW];exact qj _
 have aw:W.heap.size=w.heap.size+1:=by rw[<-hW];simp
 have B0:Hid (∀w',Gr W w'->(w'.cell? ⟨w.heap.size,0,none⟩=some (.slice X f.params.length cp)/\w'.cell? ⟨w.heap.size,1,none⟩=some (.int .i64 f.ret)/\w'.cell? ⟨w.heap.size,2,none⟩=some (.slice Y f.slots.length cs)/\w'.cell? ⟨w.heap.size,3,none⟩=some (.slice E f.blocks.length F))) :=
  fun w' q=>⟨(q.cell _ _ (by omega)).trans (dg _ _ 0 g0 rfl),(q.cell _ _ (by omega)).trans (dg _ _ 1 g0 rfl),(q.cell _ _ (by omega)).trans (dg _ _ 2 g0 rfl),(q.cell _ _ (by omega)).trans (dg _ _ 3 g0 rfl)⟩
 obtain⟨k0,k1,k2,k3⟩:=B0.out W (qj _);obtain⟨e,he⟩:=xJ (Ref.valuedR f z);rw[he]at Z HN HI N ⊢;clear he hn g0;by_cases h0:e=0
 ·have aj:(e != 0)=false:=by simp[h0]
  have I:=dJ h0;obtain⟨n1,n2,n3⟩:=HN.out h0;clear h0;by_cases ai:z<f.params.length
  ·have u:=dJ (HP.out ai)
   go_enter func45, ntmps45
   go_wp2_with (go_at_call 71;refine(Z.out _ g).mono ?_;rintro e d ⟨rfl,g1⟩;obtain⟨l0,l1,l2,l3⟩:=B0.out _ g1);(try simp only[Exit.inBlock,Exit.then]);refine pA (eV rfl _ _ _) rfl ?_;exact⟨by rw[u.out,I.out];rfl,g.trans g1⟩
  ·have H:=fm n1;obtain⟨i,hi⟩:∃i:Nat,z=((f.params.length+i:Nat):Int):=⟨(z-f.params.length).toNat,by omega⟩;have ah:i<(Ir.items f).length:=by rw[ad.out];have:=ab.out;omega
   obtain⟨it,G⟩:∃it,(Ir.items f)[i]?=some it:=⟨(Ir.items f)[i],oY ah⟩;have u:=dJ (HI.out i it I.out hi G);have J:(ji f)[i]?=some (it.blk:Int):=by simp[ji,G]
   have K:(ei f)[i]?=some (it.pos:Int):=by simp[ei,G]
   have ac:Hid (∀d,Gr w d->Calls prog 72 #[.agg #[.slice X f.params.length cp,.int .i64 f.ret,.slice Y f.slots.length cs,.slice E f.blocks.length F]] d fun e w'=>∃b2 o2 m j l p t D y,e=.returned (.agg #[.int .i64 f.params.length,.slice (some ⟨b2,o2,none⟩) (Ir.items f).length m,.slice (some ⟨j,l,none⟩) (Ir.items f).length p,.slice t D y])/\Hid (w'.cell? ⟨b2,o2+i,none⟩=some (.int .i64 it.blk)/\w'.cell? ⟨j,l+i,none⟩=some (.int .i64 it.pos)/\b2<w'.heap.size/\j<w'.heap.size)/\Gr d w'):=by intro d q;refine(HH.out n1 d q).mono ?_;rintro e w' ⟨A2,m,A3,p,t,D,y,rfl,I2,I3,g2⟩;obtain⟨ao,au,L,q1,q2,q3⟩:=I2.out;obtain⟨ap,av,M,q4,q5,q6⟩:=I3.out;obtain⟨b2,o2,e4,A,ae⟩:=q3 (by simp[ji];omega);obtain⟨j,l,e5,C,af⟩:=q6 (by simp[ei];omega);injection L with L e6 e7;injection M with M e8 e9;subst L;subst M;subst e4;subst e5;exact⟨b2,o2,m,j,l,p,t,D,y,rfl,⟨ae i _ J,af i _ K,A,C⟩,g2⟩
   have aq:=dJ J;have ar:=dJ K;have aA:(i:Int)<((Ir.items f).length:Int):=by omega
   have aB:(f.params.length:Int)+(i:Int)-f.params.length=i:=by omega
   have az:(0:Int)<=(i:Int):=by omega
   have aC:(f.params.length:Int)<=f.params.length+(i:Int):=by omega
   have aF:=H.1;have an:(Ir.items f).length<=40:=by rw[eO];exact H.2.2.2.2
   obtain rfl:z=(f.params.length:Int)+(i:Int):=by omega
   clear J K G H hi
   go_enter func45, ntmps45
   go_wp2_with (first|(go_at_call 71;refine(Z.out _ g).mono ?_;rintro e d ⟨rfl,g1⟩;obtain⟨l0,l1,l2,l3⟩:=B0.out _ g1)|(go_at_call 72;refine(ac.out _ (g.trans g1)).mono ?_;rintro e r ⟨b2,o2,m,j,l,p,t,D,y,rfl,aa,g2⟩;obtain⟨R,Q,A,C⟩:=aa.out))
   have ag:=g.trans (g1.trans g2);have x0:=dg (V:=r) (B:=r.heap.size) #[.int .i64 f.params.length,.slice (some ⟨b2,o2,none⟩) (Ir.items f).length m,.slice (some ⟨j,l,none⟩) (Ir.items f).length p,.slice t D y] 100 0 (qj _) rfl;have x1:=dg (V:=r) (B:=r.heap.size) #[.int .i64 f.params.length,.slice (some ⟨b2,o2,none⟩) (Ir.items f).length m,.slice (some ⟨j,l,none⟩) (Ir.items f).length p,.slice t D y] 100 1 (qj _) rfl;have x2:=dg (V:=r) (B:=r.heap.size) #[.int .i64 f.params.length,.slice (some ⟨b2,o2,none⟩) (Ir.items f).length m,.slice (some ⟨j,l,none⟩) (Ir.items f).length p,.slice t D y] 100 2 (qj _) rfl;have x4:=(((qj r).alloc (.cells #[.int .i64 f.params.length,.slice (some ⟨b2,o2,none⟩) (Ir.items f).length m,.slice (some ⟨j,l,none⟩) (Ir.items f).length p,.slice t D y] 100)).cell _ _ A).trans R;have x5:=(((qj r).alloc (.cells #[.int .i64 f.params.length,.slice (some ⟨b2,o2,none⟩) (Ir.items f).length m,.slice (some ⟨j,l,none⟩) (Ir.items f).length p,.slice t D y] 100)).cell _ _ C).trans Q;have T:=ag.alloc (.cells #[.int .i64 f.params.length,.slice (some ⟨b2,o2,none⟩) (Ir.items f).length m,.slice (some ⟨j,l,none⟩) (Ir.items f).length p,.slice t D y] 100);obtain⟨W3,O⟩:=xJ (r.alloc (.cells #[.int .i64 f.params.length,.slice (some ⟨b2,o2,none⟩) (Ir.items f).length m,.slice (some ⟨j,l,none⟩) (Ir.items f).length p,.slice t D y] 100));rw[O]at x0 x1 x2 x4 x5 T ⊢;replace x0:W3.cell? ⟨r.heap.size,0,none⟩=some (.int .i64 f.params.length):=x0;replace x1:W3.cell? ⟨r.heap.size,1,none⟩=some (.slice (some ⟨b2,o2,none⟩) (Ir.items f).length m):=x1;replace x2:W3.cell? ⟨r.heap.size,2,none⟩=some (.slice (some ⟨j,l,none⟩) (Ir.items f).length p):=x2;clear O R Q l0 l1 l2 l3 k0 k1 k2 k3 hW;go_quiet (fail);go_wp2;(try simp only[Exit.inBlock,Exit.then]);refine pA (eV rfl _ _ _) rfl ?_;exact⟨by rw[u.out,I.out];rfl,T.drewN _⟩
 ·have aj:(e != 0)=true:=by simp[h0]
  have u:=dJ (N.out h0);clear h0
  go_enter func45, ntmps45
  go_wp2_with (go_at_call 71;refine(Z.out _ g).mono ?_;rintro e d ⟨rfl,g1⟩);(try simp only[Exit.inBlock,Exit.then]);refine pA (eV rfl _ _ _) rfl ?_;exact⟨by rw[u.out];rfl,g.trans g1⟩
end
section
open Go.RowKit
theorem Tx.line_at {f:Fn}(h:Ref.validate f=0){v:Int}(h1:¬v<f.params.length)(h2:¬(Ref.count f:Int)<=v):∃(j i:Nat)(l:List Ins)(x:Ins),Ref.whereR f v=((j:Int),(i:Int),true)/\f.blocks[j]?=some l/\l[i]?=some x/\Tx.lineOf f v=(Tx.lineS x v,0):=by
 obtain⟨j,i,l,x,d,g,m,q⟩:=Ref.whereIs_some f v (by omega) (by omega);refine⟨j,i,l,x,?_,g,m,?_⟩
 ·have p:Ref.valuedR f v=0:=by unfold Ref.valuedR;rw[pB h,pC (by omega)]
  unfold Ref.whereR;rw[pB p,d,pC (by show ¬(j:Int)<0;omega)]
 ·unfold Tx.lineOf;rw[pB h,pC (by omega),d];simp[Ref.insAt?,g,m]
theorem mb (vf:Value)(f:Fn)(v:Int)(w:World)(hf:FnAt w.heap.size w vf f)(hn:ia f)(hi:Tx.Im f)(ht:TabW w) :
  Calls prog 25 #[vf,.int .i64 v] w (RG (.tuple #[.string (bs (Tx.lineOf f v).1),.int .i64 (Tx.lineOf f v).2]) w):=by
 have t:Hid (∀d,Gr w d->Calls prog 44 #[vf] d (RG (.tuple #[.int .i64 (Ref.countR f),.int .i64 (Ref.validate f)]) d)):=fun d q=>iD vf f d (hf.gr q) hn;have u:Hid (∀d,Gr w d->Calls prog 45 #[vf,.int .i64 v] d fun e w'=>e=.returned (.tuple #[.int .i64 (Ref.whereR f v).1,.int .i64 (Ref.whereR f v).2.1,.bool (Ref.whereR f v).2.2,.int .i64 (Ref.valuedR f v)])/\Gr d w'):=fun d q=>li vf f v d (hf.gr q) hn;have HT:=dJ ht;have HF:=dJ hf;obtain⟨vp,vs,vb,rfl,O,Q,A⟩:=id hf;obtain⟨Ap,cp,rfl,ae,-,-⟩:=O;obtain⟨As,cs,rfl,af,-,-⟩:=Q;have K:=dJ A;obtain⟨Ab,cb,rfl,ab,-,-⟩:=A;obtain⟨W,hW,m,z⟩:=dz w (.slice Ap f.params.length cp) (.int .i64 f.ret) (.slice As f.slots.length cs) (.slice Ab f.blocks.length cb);obtain⟨k0,k1,k2,k3⟩:=z.out W (qj _);by_cases h0:Ref.validate f=0
 ·have G:Ref.countR f=Ref.count f:=by unfold Ref.countR;rw[pB h0]
  rw[h0,G]at t;have N:=Tx.count_le ((Ref.val_iff f).1 h0);by_cases R:v<f.params.length
  ·have r:Hid (Tx.lineOf f v=([],4)):=dJ (by unfold Tx.lineOf;rw[pB h0,pB (.inl R)]);rw[r.out];clear u G h0 hn hi ht hf
   go_enter func25, ntmps25
   go_wp2_with (go_at_call 44;refine(t.out _ m.out).mono ?_;rintro e d ⟨rfl,g1⟩;have p:=dJ (m.out.trans g1);obtain⟨X,Y,Z,q3⟩:=z.out d g1;clear g1);go_ret2;exact⟨rfl,p.out⟩
  ·by_cases T:(Ref.count f:Int)<=v
   ·have r:Hid (Tx.lineOf f v=([],4)):=dJ (by unfold Tx.lineOf;rw[pB h0,pB (.inr T)]);rw[r.out];clear u G h0 hn hi ht hf
    go_enter func25, ntmps25
    go_wp2_with (go_at_call 44;refine(t.out _ m.out).mono ?_;rintro e d ⟨rfl,g1⟩;have p:=dJ (m.out.trans g1);obtain⟨X,Y,Z,q3⟩:=z.out d g1;clear g1);go_ret2;exact⟨rfl,p.out⟩
   ·obtain⟨j,i,l,x,E,B,F,C⟩:=Tx.line_at h0 R T;have r:=dJ C;rw[r.out];rw[E]at u;simp only at u;have D:=Tx.pr_of h0 hi;have HL:Hid (∀(H:Value)(d:World),Gr w d->jS d.heap.size d H x->Calls prog 46 #[H,.int .i64 v] d (RG (.string (bs (Tx.lineS x v))) d)):=dJ fun H d g q=>iX x v (D.ins l (pa B) x (pa F)) (Tx.args_len h0 (pa B) (pa F)) ⟨by omega,by omega⟩ H d q (HT.out.gr g);have ad:=(oZ.1 B).1;have ac:=(oZ.1 F).1;have HJ:=dJ B;have HX:=dJ F;have aa:=m;clear E C D G h0 hn hi ht hf B F
    go_enter func25, ntmps25
    go_wp2_with (first|(go_at_call 44;refine(t.out _ m.out).mono ?_;rintro e d ⟨rfl,g1⟩;have p:=dJ (m.out.trans g1);have I:=dJ g1;obtain⟨X,Y,Z,q3⟩:=z.out d g1;clear g1)|(go_at_call 45;refine(u.out _ p.out).mono ?_;rintro e w2 ⟨rfl,g2⟩;have y:=dJ (p.out.trans g2);obtain⟨p0,p1,p2,p3⟩:=z.out w2 (I.out.trans g2);obtain⟨b,ag,Al,cl,L,hu,J,N⟩:=ic K.out y.out HJ.out;subst L;obtain⟨b2,V,Aa,ca,At,ct,M,⟨y0,y1,y2,y3,y4,y5⟩,HV⟩:=ju J.out y.out HX.out;subst M;clear g2)|(go_at_call 46;refine(HL.out _ _ y.out (jt HV.out y.out)).mono ?_;rintro e w3 ⟨rfl,g3⟩))
    go_ret2;exact⟨rfl,y.out.trans g3⟩
 ·have r:Hid (Tx.lineOf f v=([],Ref.validate f)):=dJ (by unfold Tx.lineOf;rw[pC h0]);obtain⟨e,U⟩:=xJ (Ref.validate f);rw[r.out];rw[U]at t h0 ⊢;have c1:(e != 0)=true:=by simpa using h0
  clear u U h0 hn hi ht hf r
  go_enter func25, ntmps25
  go_wp2_with (go_at_call 44;refine(t.out _ m.out).mono ?_;rintro e d ⟨rfl,g1⟩;have p:=dJ (m.out.trans g1);clear g1);go_ret2;exact⟨rfl,p.out⟩
theorem lawTextLines_any (vf:Value)(f:Fn)(v:Int)(w:World)(hf:FnAt w.heap.size w vf f)(hn:dA f=false->ia f)(hi:Tx.Im f)(ht:TabW w) :
  Calls prog 9 #[vf,.int .i64 v] w (RG (.bool true) w):=by
 have V:=gn hf;have HK:=eG ht;have E:Hid (dA f=false->∀d,Gr w d->Calls prog 12 #[vf] d (RG (.tuple #[.string (bs (di f)),.int .i64 (Ref.validate f)]) d)):=dJ fun h d g=>dW vf f d (hf.gr g) (hn h) hi (ht.gr g);have A:Hid (dA f=false->∀d,Gr w d->Calls prog 25 #[vf,.int .i64 v] d (RG (.tuple #[.string (bs (Tx.lineOf f v).1),.int .i64 (Tx.lineOf f v).2]) d)):=dJ fun h d g=>mb vf f v d (hf.gr g) (hn h) hi (ht.gr g);have B:Hid (dA f=false->∀d,Gr w d->Calls prog 26 #[vf,.int .i64 v] d (RG (.tuple #[.string (bs (Tx.lineOf f v).1),.int .i64 (Tx.lineOf f v).2]) d)):=dJ fun h d g=>mf vf f v d (hf.gr g) (hn h) hi (ht.gr g)
 have C:Hid (Ref.validate f=0->∀d,Gr w d->Calls prog 23 #[.string (bs (di f))] d (RG (.tuple #[.int .i64 ((1+f.blocks.length+Ref.total f.blocks:Nat):Int),.int .i64 0]) d)):=dJ fun h d g=>by
  have e:di f=Tx.textS f:=by unfold di;rw[pB h]
  have:=gT (Tx.textS f) (by have:=Tx.textS_len h hi;omega) d (ht.gr g);rw[gd (Tx.readP_text h hi)]at this;rw[e,<-Tx.linesS_len];exact this
 have z:Hid (Ref.validate f=0->f.blocks.length<=10/\Ref.total f.blocks<=40):=dJ fun h=>((Ref.val_iff f).1 h).size.2.2.2;obtain⟨vp,vs,vb,rfl,hp,hs,hb⟩:=hf;obtain⟨Ap,cp,rfl,-⟩:=hp;obtain⟨As,cs,rfl,-⟩:=hs;have ab:=dJ hb;obtain⟨Ab,cb,rfl,ad,ai,-⟩:=hb;obtain⟨W,hW,D,u⟩:=dz w (.slice Ap f.params.length cp) (.int .i64 f.ret) (.slice As f.slots.length cs) (.slice Ab f.blocks.length cb);obtain⟨k0,k1,k2,k3⟩:=u.out W (qj _);obtain⟨lg,R⟩:=xJ (dA f);obtain⟨e,he⟩:=xJ (Ref.validate f);obtain⟨S,hS⟩:=xJ (di f);obtain⟨⟨Q,q⟩,hQ⟩:∃Q,Tx.lineOf f v=Q:=⟨_,rfl⟩;rw[R]at V E A B;rw[he]at E C z;rw[hS]at E C;rw[hQ]at A B;simp only at A B;have e1:=dZ (rfl:Q=Q);have e2:(q == q)=true:=by simp
 clear R he hS hn hi ht hQ
 cases lg with
 | true =>
  clear E A B C
  go_enter func9, ntmps9
  go_wp2_with (first|(go_at_call 10;refine(V.out _ D.out).mono ?_;rintro e d ⟨rfl,g1⟩;have t:=dJ (D.out.trans g1);clear g1)|(go_at_call 11;refine(HK.out _ t.out).mono ?_;rintro e X ⟨rfl,g2⟩))
  go_ret;exact⟨rfl,t.out.trans g2⟩
 | false =>
  have L:=dJ (E.out rfl);have I:=dJ (A.out rfl);have J:=dJ (B.out rfl);clear E A B;by_cases h0:e=0
  ·have K:=dJ (C.out h0);have m:=dJ (z.out h0);subst h0;clear C z;obtain⟨tt,r⟩:=xJ (Ref.total f.blocks);have M:=dJ r;rw[r]at K;clear r ad
   go_enter func9, ntmps9
   go_wp2_with (first|(go_at_call 10;refine(V.out _ D.out).mono ?_;rintro e d ⟨rfl,g1⟩;have t:=dJ (D.out.trans g1);have y:=dJ g1;obtain⟨l0,l1,l2,l3⟩:=u.out d g1;clear g1)|(go_at_call 25;refine(I.out _ t.out).mono ?_;rintro e X ⟨rfl,g2⟩;have F:=dJ (t.out.trans g2);have j:=dJ (y.out.trans g2);obtain⟨m0,m1,m2,m3⟩:=u.out X j.out;clear g2)|(go_at_call 26;refine(J.out _ F.out).mono ?_;rintro e w3 ⟨rfl,g3⟩;have G:=dJ (F.out.trans g3);have p:=dJ (j.out.trans g3);obtain⟨n0,n1,n2,n3⟩:=u.out w3 p.out;clear g3)|(go_at_call 12;refine(L.out _ G.out).mono ?_;rintro e w4 ⟨rfl,g4⟩;have H:=dJ (G.out.trans g4);have Z:=dJ (p.out.trans g4);clear g4)|(go_at_call 23;refine(K.out _ H.out).mono ?_;rintro e w5 ⟨rfl,g5⟩;have Y:=dJ (H.out.trans g5);have aa:=dJ (Z.out.trans g5);obtain⟨p0,p1,p2,p3⟩:=u.out w5 aa.out;clear g5))
   clear k0 k1 k2 k3 l0 l1 l2 l3 m0 m1 m2 m3 n0 n1 n2 n3 p0 p1 p2
   go_loop [13,14] (fun af ag=>∃k:Nat,k<=f.blocks.length/\ag=.int .i64 k/\af=.int .i64 (Ref.total (f.blocks.take k))) (fun _ i=>f.blocks.length-(intOf i).toNat)
   case atStart=>exact⟨0,pR _,rfl,by simp[Ref.total]⟩
   case round =>
    obtain⟨k,hk,rfl,rfl⟩:=hrel;by_cases U:k<f.blocks.length
    ·obtain⟨l,hl⟩:∃l,f.blocks[k]?=some l:=⟨_,oY U⟩;have HS:=dJ (Ref.total_take_succ f.blocks k l hl);obtain⟨b,ak,Al,cl,ac,hu,-,aj⟩:=ic ab.out Y.out hl;subst ac
     have ae:Ref.total (f.blocks.take k)+l.length<=40:=by rw[<-HS.out];have h1:=Ref.total_take_le f.blocks (k+1) f.blocks.length (by omega);rw[pE]at h1;have:=m.out.2;omega
     obtain⟨T,N⟩:=xJ (Ref.total (f.blocks.take k));rw[N]at ae HS ⊢;clear hl N;go_wp2;go_round;case rel=>exact⟨k+1,by omega,rfl,by rw[HS.out];push_cast;rfl⟩
     case measure=>simp[intOf]<;>omega
    ·have O:k=f.blocks.length:=by omega
     have N:Ref.total (f.blocks.take k)=tt:=by rw[O,pE,M.out]
     have hd:decide (k<f.blocks.length)=false:=by simpa using U
     have ah:f.blocks.length<=10:=m.out.1;have r:tt<=40:=by rw[<-M.out];exact m.out.2
     rw[N];clear O N;go_wp2_with (go_at_call 11;refine(HK.out _ Y.out).mono ?_;rintro e w6 ⟨rfl,g6⟩);go_ret;exact⟨rfl,Y.out.trans g6⟩
  ·have c1:(e != 0)=true:=by simpa using h0
   clear C h0
   go_enter func9, ntmps9
   go_wp2_with (first|(go_at_call 10;refine(V.out _ D.out).mono ?_;rintro e d ⟨rfl,g1⟩;have t:=dJ (D.out.trans g1);have y:=dJ g1;obtain⟨l0,l1,l2,l3⟩:=u.out d g1;clear g1)|(go_at_call 25;refine(I.out _ t.out).mono ?_;rintro e X ⟨rfl,g2⟩;have F:=dJ (t.out.trans g2);have j:=dJ (y.out.trans g2);obtain⟨m0,m1,m2,m3⟩:=u.out X j.out;clear g2)|(go_at_call 26;refine(J.out _ F.out).mono ?_;rintro e w3 ⟨rfl,g3⟩;have G:=dJ (F.out.trans g3);have p:=dJ (j.out.trans g3);obtain⟨n0,n1,n2,n3⟩:=u.out w3 p.out;clear g3)|(go_at_call 12;refine(L.out _ G.out).mono ?_;rintro e w4 ⟨rfl,g4⟩;have H:=dJ (G.out.trans g4);clear g4)|(go_at_call 11;refine(HK.out _ H.out).mono ?_;rintro e w6 ⟨rfl,g6⟩))
   go_ret;exact⟨rfl,H.out.trans g6⟩
end

/- Parts. -/
import Derived.Test.YthfjdhanbegaoaaGreatDoorT15
set_option linter.unusedSimpArgs false
set_option linter.unusedVariables false
set_option maxRecDepth 100000
set_option maxHeartbeats 16000000
open Go.Proofs.Tryz
namespace Go.Proofs.YthfjdhanbegaoaaGreatDoor
open Go.RowKit
def WfI (x:Ins):Prop:=(0<=x.imm/\x.imm<4294967296)/\(∀z∈x.args,-9223372036854775808<=z/\z<=9223372036854775807)/\x.args.length<=100000/\x.to.length<=100000
theorem fj (f:Fn)(x:Ins)(h:Ref.argument f x=true):(∀t∈x.to,0<=t/\t<(f.blocks.length:Int))/\(x.op=28->x.to.length=x.args.length):=by
 unfold Ref.argument at h;simp only[pD]at h;refine⟨fun t g=>?_,fun ho=>?_⟩
 ·have:=pw.1 h.1.2 t g;simpa using this
 ·have d:=h.1.1.2;simp[Ref.counts,Ref.shape,ho]at d;omega
theorem jY (f:Fn)(hA:∀l∈f.blocks,∀x∈l,Ref.argument f x=true):∀l∈Ref.graph f,∀t∈l,0<=t/\t<((Ref.graph f).length:Int):=by
 intro l g t d;unfold Ref.graph at g ⊢;obtain⟨b,j,rfl⟩:=List.mem_map.1 g;rw[pv]
 cases hx:b.getLast? with
 | none=>rw[hx]at d;simp at d
 | some x =>
  rw[hx]at d;exact(fj f x (hA b j x (List.mem_of_getLast? hx))).1 t (by simpa using d)
theorem jK (g:List (List Int))(a:Int):(Ref.reached g a).length=g.length:=by
 have d:∀(l:List Int)(bs:List Bool),(l.foldl (Ref.spreadEdge a) bs).length=bs.length:=by
  intro l;induction l with
  | nil=>intro bs;rfl
  | cons t r ih=>intro bs;rw[List.foldl_cons,ih,fh]
 have j:∀(l:List Nat)(bs:List Bool),(l.foldl (Ref.spreadBlock a g) bs).length=bs.length:=by
  intro l;induction l with
  | nil=>intro bs;rfl
  | cons t r ih=>intro bs;rw[List.foldl_cons,ih];unfold Ref.spreadBlock;split<;>simp[d]
 have m:∀(n:Nat)(bs:List Bool),(Ref.spread a g n bs).length=bs.length:=by
  intro n;induction n with
  | zero=>intro bs;rfl
  | succ n ih=>intro bs;rw[Ref.spread,ih,Ref.spreadRound,j]
 unfold Ref.reached;split<;>simp[m]
theorem kS (v:Value)(f:Fn)(w:World)(hf:FnAt w.heap.size w v f)(hs1:1<=f.blocks.length)(hs:f.blocks.length<=100000)(hA:Hid (∀l∈f.blocks,∀x∈l,Ref.argument f x=true))(hne:Hid (∀l∈f.blocks,l≠[]))
  (hwf:Hid (∀l∈f.blocks,∀x∈l,WfI x)) :
  Calls prog 62 #[v] w (RG (.bool (Ref.stated f)) w):=by
 have aH:=hf;obtain⟨vp,vs,vb,rfl,hp,a2,hb⟩:=hf;obtain⟨R,cp,rfl,-,-,-⟩:=hp;obtain⟨T,cs,rfl,-,-,-⟩:=a2;obtain⟨Ab,cb,rfl,-,aW,aA⟩:=hb;obtain⟨Z,ob,rfl,aC,M⟩:=aA (by omega);obtain⟨W,hW⟩:=xJ (w.alloc (.cells #[.slice R f.params.length cp,.int .i64 f.ret,.slice T f.slots.length cs,.slice (some ⟨Z,ob,none⟩) f.blocks.length cb] 25));have E:Gr w W:=by rw[<-hW];exact(qj w).alloc _
 have bf:W.heap.size=w.heap.size+1:=by rw[<-hW];simp
 have b0:∀o,W.cell? ⟨w.heap.size,o,none⟩=(#[.slice R f.params.length cp,.int .i64 f.ret,.slice T f.slots.length cs,.slice (some ⟨Z,ob,none⟩) f.blocks.length cb]:Array Value)[o]?:=by intro o;rw[<-hW];exact px _ _ _ _ _ _ (heap_alloc_new w _)
 have U:Hid (∀w',Gr W w'->w'.cell? ⟨w.heap.size,0,none⟩=some (.slice R f.params.length cp)/\w'.cell? ⟨w.heap.size,1,none⟩=some (.int .i64 f.ret)/\w'.cell? ⟨w.heap.size,2,none⟩=some (.slice T f.slots.length cs)/\w'.cell? ⟨w.heap.size,3,none⟩=some (.slice (some ⟨Z,ob,none⟩) f.blocks.length cb)) :=
  fun w' g=>⟨(g.cell w.heap.size 0 (by omega)).trans (b0 0),(g.cell w.heap.size 1 (by omega)).trans (b0 1),(g.cell w.heap.size 2 (by omega)).trans (b0 2),(g.cell w.heap.size 3 (by omega)).trans (b0 3)⟩
 obtain⟨g,ab⟩:∃g,g=Ref.graph f:=⟨_,rfl⟩;obtain⟨d,N⟩:∃d,d=Ref.reached g (-1):=⟨_,rfl⟩;have aI:g.length=f.blocks.length:=by rw[ab];simp[Ref.graph]
 have aK:d.length=g.length:=by rw[N,jK]
 have aL:Hid (∀l∈g,∀t∈l,0<=t/\t<(g.length:Int)):=by rw[ab];exact jY f hA.out
 have HS:Hid (Ref.stated f=Ref.blksFrom f g d f.blocks 0):=by show _=_;rw[N,ab];rfl
 have aR:Hid (Calls prog 102 #[.agg #[.slice R f.params.length cp,.int .i64 f.ret,.slice T f.slots.length cs,.slice (some ⟨Z,ob,none⟩) f.blocks.length cb]] W fun e w'=>∃u,e=.returned u/\TabAt w'.heap.size w' u g/\Gr W w'):=by rw[ab];exact hC _ f W (aH.gr E) hs hne
 have aS:Hid (∀G u,TabAt G.heap.size G u g->Calls prog 105 #[u,.int .i64 (-1)] G fun e w'=>∃v,e=.returned v/\BoolsAt w'.heap.size w' v d/\Gr G w'):=by rw[N];exact fun G u h=>fT u g (-1) G h (by omega) (by omega) aL
 have H:=dJ aI;have O:=dJ aK;have k0:=U.out W (qj _);obtain⟨k0,k1,k2,k3⟩:=k0;clear ab N aI aK b0
 go_enter func62, ntmps62
 go_wp2_with (first|(go_at_call 102;refine aR.out.mono ?_;rintro e G ⟨vg,rfl,af,g1⟩)|(go_at_call 105;refine(aS.out _ _ af).mono ?_;rintro e w2 ⟨vi,rfl,aX,g2⟩))
 obtain⟨Ai,ci,rfl,-,-,aJ⟩:=aX;obtain⟨bi,oi,rfl,aD,aE⟩:=aJ (by have:=O.out;have:=H.out;omega);have HI:=dJ aE;have ax:=dJ af;have HC:=dJ M;have A:Gr W w2:=g1.trans g2;have be:(d.length:Int)=(f.blocks.length:Int):=by have:=O.out;have:=H.out;omega
 clear aE af aJ aA M
 go_loopw [5,6,7,8] (fun b _ _ _ wr=>∃k:Nat,k<=f.blocks.length/\b=.int .i64 k/\Gr w2 wr/\Hid (Ref.stated f=Ref.blksFrom f g d (f.blocks.drop k) k)) (fun b _ _ _ _=>f.blocks.length-(intOf b).toNat)
 case atStart=>exact⟨0,pR _,rfl,qj _,by show _=_;rw[HS.out];rfl⟩
 case round =>
  obtain⟨k,hk,rfl,ac,I⟩:=hrel;obtain⟨wo,rfl⟩:∃wo:World,wo=wr:=⟨_,rfl⟩;have ak:=A.trans ac;obtain⟨-,-,-,c3⟩:=U.out _ ak;clear k0 k1 k2 k3;rcases hr:f.blocks.drop k with _|⟨l,r⟩
  ·have a0:=dm hr hk;have HE:Hid (Ref.stated f=true):=by show _=_;rw[I.out,hr];rfl
   subst a0;clear hr I;go_wp2;go_ret;exact⟨dc (by rw[HE.out]),E.trans ak⟩
  ·obtain⟨bh,hl,aM⟩:=dj hr;obtain⟨u,hu,a6⟩:=HC.out k l hl;have a4:=((E.trans ak).cell _ _ aC).trans hu;obtain⟨Al,cl,rfl,p1,p2,p3⟩:=a6;have P3:=dJ p3;have HL:Hid (l∈f.blocks):=pa hl;obtain⟨y,hy⟩:∃y,d[k]?=some y:=⟨d[k]'(by have:=O.out;have:=H.out;omega),by have:=O.out;have:=H.out;simp[show k<d.length by omega]⟩;have qi:=(ac.cell bi (oi+k) aD).trans (HI.out k y hy)
   have HR:Hid (Ref.stated f=((!y || Ref.insFrom f g d k l 0) && Ref.blksFrom f g d r (k+1))):=by show _=_;rw[I.out,hr];simp[Ref.blksFrom,List.getD,hy]
   have au:Hid (f.blocks.drop (k+1)=r):=aM;have HU:=dJ hu;have zk:(k:Int)<(d.length:Int):=by omega
   clear hr hl aM I hu hy p3
   cases y with
   | false =>
    go_wp2;go_roundw;case rel=>exact⟨k+1,by omega,by go_num,ac,by (show _=_;rw[HR.out,au.out];simp)⟩
    case measure=>simp[intOf];omega
   | true =>
    have ap:Hid (Ref.stated f=(Ref.insFrom f g d k l 0 && Ref.blksFrom f g d r (k+1))):=by show _=_;rw[HR.out];simp
    clear HR;go_wp2
    go_loopw [6,7,8] (fun i _ _ wr=>∃j:Nat,j<=l.length/\i=.int .i64 j/\Gr w2 wr/\Hid (Ref.insFrom f g d k l 0=Ref.insFrom f g d k (l.drop j) j)) (fun i _ _ _=>l.length-(intOf i).toNat)
    case atStart=>exact⟨0,pR _,rfl,ac,rfl⟩
    case round =>
     obtain⟨j,hj,rfl,ad,D⟩:=hrel;obtain⟨C,rfl⟩:∃C:World,C=wr:=⟨_,rfl⟩;have aa:=A.trans ad;obtain⟨-,-,-,aU⟩:=U.out _ aa;have a5:=((E.trans aa).cell _ _ aC).trans HU.out;clear c3 qi a4 ak ac;rcases hr1:l.drop j with _|⟨x,r1⟩
     ·have aZ:=dm hr1 hj;have HE:Hid (Ref.insFrom f g d k l 0=true):=by show _=_;rw[D.out,hr1];rfl
      subst aZ;clear hr1 D;go_wp2;go_roundw;case rel=>exact⟨k+1,by omega,by go_num,ad,by (show _=_;rw[ap.out,au.out,HE.out];simp)⟩
      case measure=>simp[intOf];omega
     ·obtain⟨bc,hx,an⟩:=dj hr1;obtain⟨bl,ol,rfl,Q,aF⟩:=P3.out (by omega);obtain⟨va,vt,i0,i1,i2,i3,i4,i5,a7,a8⟩:=aF j x hx;have HX:Hid (x∈l):=pa hx;have aP:=hwf.out l HL.out x HX.out;have aq:Hid (WfI x):=aP;have az:=hA.out l HL.out x HX.out;have aw:=dJ (fj f x az);have ao:Hid (Ref.insFrom f g d k l 0=(Ref.argsFrom f g d k j x x.args 0 && Ref.insFrom f g d k r1 (j+1))):=by show _=_;rw[D.out,hr1];rfl
      have av:Hid (l.drop (j+1)=r1):=an;have gw:=E.trans aa;have j0:=(gw.cell _ _ Q).trans i0;have j1:=(gw.cell _ _ Q).trans i1;have j2:=(gw.cell _ _ Q).trans i2;have j3:=(gw.cell _ _ Q).trans i3;have j4:=(gw.cell _ _ Q).trans i4;have j5:=(gw.cell _ _ Q).trans i5;obtain⟨Aa,ca,rfl,-,-,ay⟩:=a7;obtain⟨At,ct,rfl,-,-,aN⟩:=a8;have aQ:=dJ ay;have aT:=dJ aN;have bg:x.args.length<=100000:=aq.out.2.2.1;have bj:x.to.length<=100000:=aq.out.2.2.2;clear hr1 hx an D aF i0 i1 i2 i3 i4 i5 ay aN aP az;obtain⟨wy,ah⟩:=xJ (C.alloc (.cells #[.int .i64 x.op,.int .i64 x.width,.int .i64 x.flags,.slice Aa x.args.length ca,.int .u32 x.imm,.slice At x.to.length ct] 50))
      have b1:∀o,wy.cell? ⟨C.heap.size,o,none⟩=(#[.int .i64 x.op,.int .i64 x.width,.int .i64 x.flags,.slice Aa x.args.length ca,.int .u32 x.imm,.slice At x.to.length ct]:Array Value)[o]?:=by intro o;rw[<-ah];exact px _ _ _ _ _ _ (heap_alloc_new C _)
      have p:Gr w2 wy:=by rw[<-ah];exact ad.alloc _
      have bm:wy.heap.size=C.heap.size+1:=by rw[<-ah];simp
      have B1:=dJ b1;clear b1;go_wp2;have HY:=dJ ah;clear ah j0 j1 j2 j3 j4 j5 a5 aU
      go_loopw [8] (fun a wr=>∃m:Nat,m<=x.args.length/\a=.int .i64 m/\Gr wy wr/\Hid (Ref.argsFrom f g d k j x x.args 0=Ref.argsFrom f g d k j x (x.args.drop m) m)) (fun a _=>x.args.length-(intOf a).toNat)
      case atStart=>exact⟨0,pR _,rfl,qj _,rfl⟩
      case round =>
       obtain⟨m,hm,rfl,F,B⟩:=hrel;have d0:=(F.cell C.heap.size 0 (by omega)).trans (B1.out 0);have d3:=(F.cell C.heap.size 3 (by omega)).trans (B1.out 3);simp at d0 d3;rcases hr2:x.args.drop m with _|⟨z,r2⟩
       ·have a1:=dm hr2 hm;have HE:Hid (Ref.argsFrom f g d k j x x.args 0=true):=by show _=_;rw[B.out,hr2];rfl
        subst a1;clear hr2 B;go_wp2;go_roundw;case rel=>exact⟨j+1,by omega,by go_num,p.trans F,by (show _=_;rw[ao.out,av.out,HE.out];simp)⟩
        case measure=>simp[intOf];omega
       ·obtain⟨bd,hz,ae⟩:=dj hr2;obtain⟨ba,oa,rfl,aB,aj⟩:=aQ.out (by omega);have am:=aq.out.2.1 z (pa hz);have X:Hid (Ref.argsFrom f g d k j x x.args 0=(Ref.argOk f g d k j x z (x.to.getD m 0) && Ref.argsFrom f g d k j x r2 (m+1))):=by show _=_;rw[B.out,hr2];rfl
        have Y:Hid (x.args.drop (m+1)=r2):=ae;have bn:(0:Int)<=m:=by omega
        have bo:(m:Int)<(x.args.length:Int):=by omega
        have ai:Hid (∀(block J:Int),0<=block->block<(f.blocks.length:Int)->∀G,Gr wy G->Calls prog 106 #[.agg #[.slice R f.params.length cp,.int .i64 f.ret,.slice T f.slots.length cs,.slice (some ⟨Z,ob,none⟩) f.blocks.length cb],vg,.int .i64 z,.int .i64 block,.int .i64 J] G (RG (.bool (Ref.there f g z block J)) G)) :=
         fun block J aV aW G q=>mF _ vg f g z block J G (aH.gr (E.trans (A.trans (p.trans q)))) hs am.1 am.2 (ax.out.gr (g2.trans (p.trans q))) (by have:=H.out;omega) (by have:=H.out;omega) aL aV (by have:=H.out;omega)
        rcases Decidable.em (x.op=28) with ho|ho
        ·have a3:=aw.out.2 ho;obtain⟨t,al⟩:∃t,x.to[m]?=some t:=⟨x.to[m]'(by omega),by simp[show m<x.to.length by omega]⟩;have aO:=aw.out.1 t (pa al);obtain⟨K,rfl⟩:=pg aO.1;have bk:K<f.blocks.length:=by omega
         obtain⟨bt,ot,rfl,aY,aG⟩:=aT.out (by omega);obtain⟨y,hy⟩:∃y,d[K]?=some y:=⟨d[K]'(by have:=O.out;have:=H.out;omega),by have:=O.out;have:=H.out;simp[show K<d.length by omega]⟩
         have L:Hid (Ref.argOk f g d k j x z (x.to.getD m 0)=(!y || Ref.there f g z K (-1))):=by show _=_;unfold Ref.argOk;rw[pB ho];simp[List.getD,al,hy]
         have a9:(x.op == 28)=true:=by simp[ho]
         have kp:Hid (∀w',Gr wy w'->(w'.cell? ⟨w.heap.size,0,none⟩=some (.slice R f.params.length cp)/\w'.cell? ⟨w.heap.size,1,none⟩=some (.int .i64 f.ret)/\w'.cell? ⟨w.heap.size,2,none⟩=some (.slice T f.slots.length cs)/\w'.cell? ⟨w.heap.size,3,none⟩=some (.slice (some ⟨Z,ob,none⟩) f.blocks.length cb)/\w'.cell? ⟨C.heap.size,0,none⟩=some (.int .i64 x.op)/\w'.cell? ⟨C.heap.size,3,none⟩=some (.slice (some ⟨ba,oa,none⟩) x.args.length ca)/\w'.cell? ⟨C.heap.size,5,none⟩=some (.slice (some ⟨bt,ot,none⟩) x.to.length ct)/\w'.cell? ⟨ba,oa+m,none⟩=some (.int .i64 z)/\w'.cell? ⟨bt,ot+m,none⟩=some (.int .i64 K)/\w'.cell? ⟨bi,oi+K,none⟩=some (.bool y))):=fun w' q=>⟨(U.out w' (A.trans (p.trans q))).1,(U.out w' (A.trans (p.trans q))).2.1,(U.out w' (A.trans (p.trans q))).2.2.1,(U.out w' (A.trans (p.trans q))).2.2.2,(q.cell C.heap.size 0 (by omega)).trans (B1.out 0),(q.cell C.heap.size 3 (by omega)).trans (B1.out 3),(q.cell C.heap.size 5 (by omega)).trans (B1.out 5),((E.trans (A.trans (p.trans q))).cell ba (oa+m) aB).trans (aj m z hz),((E.trans (A.trans (p.trans q))).cell bt (ot+m) aY).trans (aG m K al),((p.trans q).cell bi (oi+K) aD).trans (HI.out K y hy)⟩;have V:Hid (∀G,Gr wy G->Calls prog 106 #[.agg #[.slice R f.params.length cp,.int .i64 f.ret,.slice T f.slots.length cs,.slice (some ⟨Z,ob,none⟩) f.blocks.length cb],vg,.int .i64 z,.int .i64 (K:Int),.int .i64 (-1)] G (RG (.bool (Ref.there f g z K (-1))) G)):=ai.out K (-1) (by omega) (by omega);have bq:(0:Int)<=K:=by omega
         have br:(K:Int)<(d.length:Int):=by omega
         have bp:(m:Int)<(x.to.length:Int):=by omega
         clear hr2 hz ae B aj am al aO aG hy ai a3 ho
         cases y with
         | false =>
          obtain⟨-,-,-,-,-,-,q5,-,qt,qy⟩:=kp.out _ F;go_wp2;go_quiet (fail);go_wp2;go_roundw;case rel=>exact⟨m+1,by omega,by go_num,F.drewN _,by (show _=_;rw[X.out,L.out,Y.out];simp)⟩
          case measure=>simp[intOf];omega
         | true =>
          obtain⟨th,ag⟩:=xJ (Ref.there f g z K (-1));rw[ag]at V L;clear ag;go_wp2
          go_region_held3 (fun w'=>w'.cell? ⟨w.heap.size,0,none⟩=some (.slice R f.params.length cp)/\w'.cell? ⟨w.heap.size,1,none⟩=some (.int .i64 f.ret)/\w'.cell? ⟨w.heap.size,2,none⟩=some (.slice T f.slots.length cs)/\w'.cell? ⟨w.heap.size,3,none⟩=some (.slice (some ⟨Z,ob,none⟩) f.blocks.length cb)/\w'.cell? ⟨C.heap.size,0,none⟩=some (.int .i64 x.op)/\w'.cell? ⟨C.heap.size,3,none⟩=some (.slice (some ⟨ba,oa,none⟩) x.args.length ca)/\w'.cell? ⟨C.heap.size,5,none⟩=some (.slice (some ⟨bt,ot,none⟩) x.to.length ct)/\w'.cell? ⟨ba,oa+m,none⟩=some (.int .i64 z)/\w'.cell? ⟨bt,ot+m,none⟩=some (.int .i64 K)/\w'.cell? ⟨bi,oi+K,none⟩=some (.bool true)) (first|exact kp.out _ F.drew|exact kp.out _ g3) (first|(go_at_call 106;refine(V.out _ F.drew).mono ?_;rintro e w3 ⟨rfl,ar⟩;have g3:Gr wy w3:=(F.drew).trans ar))
          cases th with
          | true =>
           go_wp2;go_roundw;case rel=>exact⟨m+1,by omega,by go_num,g3,by (show _=_;rw[X.out,L.out,Y.out];simp)⟩
           case measure=>simp[intOf];omega
          | false =>
           go_wp2;go_ret;exact⟨dc (by rw[ap.out,ao.out,X.out,L.out];simp),E.trans (A.trans (p.trans g3))⟩
        ·have L:Hid (Ref.argOk f g d k j x z (x.to.getD m 0)=Ref.there f g z k j):=by
          show _=_;unfold Ref.argOk;rw[pC ho]
         have a9:(x.op == 28)=false:=by simp[ho]
         have kp:Hid (∀w',Gr wy w'->(w'.cell? ⟨w.heap.size,0,none⟩=some (.slice R f.params.length cp)/\w'.cell? ⟨w.heap.size,1,none⟩=some (.int .i64 f.ret)/\w'.cell? ⟨w.heap.size,2,none⟩=some (.slice T f.slots.length cs)/\w'.cell? ⟨w.heap.size,3,none⟩=some (.slice (some ⟨Z,ob,none⟩) f.blocks.length cb)/\w'.cell? ⟨C.heap.size,0,none⟩=some (.int .i64 x.op)/\w'.cell? ⟨C.heap.size,3,none⟩=some (.slice (some ⟨ba,oa,none⟩) x.args.length ca)/\w'.cell? ⟨C.heap.size,5,none⟩=some (.slice At x.to.length ct)/\w'.cell? ⟨ba,oa+m,none⟩=some (.int .i64 z))):=fun w' q=>⟨(U.out w' (A.trans (p.trans q))).1,(U.out w' (A.trans (p.trans q))).2.1,(U.out w' (A.trans (p.trans q))).2.2.1,(U.out w' (A.trans (p.trans q))).2.2.2,(q.cell C.heap.size 0 (by omega)).trans (B1.out 0),(q.cell C.heap.size 3 (by omega)).trans (B1.out 3),(q.cell C.heap.size 5 (by omega)).trans (B1.out 5),((E.trans (A.trans (p.trans q))).cell ba (oa+m) aB).trans (aj m z hz)⟩;have V:Hid (∀G,Gr wy G->Calls prog 106 #[.agg #[.slice R f.params.length cp,.int .i64 f.ret,.slice T f.slots.length cs,.slice (some ⟨Z,ob,none⟩) f.blocks.length cb],vg,.int .i64 z,.int .i64 (k:Int),.int .i64 (j:Int)] G (RG (.bool (Ref.there f g z k j)) G)):=ai.out k j (by omega) (by omega);clear hr2 hz ae B aj am ai ho;obtain⟨th,ag⟩:=xJ (Ref.there f g z k j);rw[ag]at V L;clear ag;go_wp2
         go_region_held3 (fun w'=>w'.cell? ⟨w.heap.size,0,none⟩=some (.slice R f.params.length cp)/\w'.cell? ⟨w.heap.size,1,none⟩=some (.int .i64 f.ret)/\w'.cell? ⟨w.heap.size,2,none⟩=some (.slice T f.slots.length cs)/\w'.cell? ⟨w.heap.size,3,none⟩=some (.slice (some ⟨Z,ob,none⟩) f.blocks.length cb)/\w'.cell? ⟨C.heap.size,0,none⟩=some (.int .i64 x.op)/\w'.cell? ⟨C.heap.size,3,none⟩=some (.slice (some ⟨ba,oa,none⟩) x.args.length ca)/\w'.cell? ⟨C.heap.size,5,none⟩=some (.slice At x.to.length ct)/\w'.cell? ⟨ba,oa+m,none⟩=some (.int .i64 z)) (first|exact kp.out _ F.drew|exact kp.out _ g3) (first|(go_at_call 106;refine(V.out _ F.drew).mono ?_;rintro e w3 ⟨rfl,ar⟩;have g3:Gr wy w3:=(F.drew).trans ar))
         cases th with
         | true =>
          go_wp2;go_roundw;case rel=>exact⟨m+1,by omega,by go_num,g3,by (show _=_;rw[X.out,L.out,Y.out];simp)⟩
          case measure=>simp[intOf];omega
         | false =>
          go_wp2;go_ret;exact⟨dc (by rw[ap.out,ao.out,X.out,L.out];simp),E.trans (A.trans (p.trans g3))⟩
def fU (l:List Ins)(j:Nat):Bool:=decide (j=0) || decide ((l[j-1]?.map (·.op)).getD 0=28)
theorem fc (l:List Ins)(j:Nat)(x:Ins)(h:l[j]?=some x):fU l (j+1)=decide (x.op=28):=by simp[fU,h]
theorem mo (v:Value)(f:Fn)(w:World)(hf:FnAt w.heap.size w v f)(hs1:1<=f.blocks.length)(hs:f.blocks.length<=100000)
  (hwf:Hid (∀l∈f.blocks,l.length<=100000)) :
  Calls prog 60 #[v] w (RG (.bool (Ref.rules f)) w):=by
 have aD:=hf;obtain⟨vp,vs,vb,rfl,hp,aY,hb⟩:=hf;obtain⟨Ap,cp,rfl,-,-,-⟩:=hp;obtain⟨As,cs,rfl,-,-,-⟩:=aY;obtain⟨Ab,cb,rfl,-,a5,aC⟩:=hb;obtain⟨bb,ob,rfl,ak,M⟩:=aC (by omega);obtain⟨W,hW⟩:=xJ (w.alloc (.cells #[.slice Ap f.params.length cp,.int .i64 f.ret,.slice As f.slots.length cs,.slice (some ⟨bb,ob,none⟩) f.blocks.length cb] 25));have t:Gr w W:=by rw[<-hW];exact(qj w).alloc _
 have a4:W.heap.size=w.heap.size+1:=by rw[<-hW];simp
 have b0:∀o,W.cell? ⟨w.heap.size,o,none⟩=(#[.slice Ap f.params.length cp,.int .i64 f.ret,.slice As f.slots.length cs,.slice (some ⟨bb,ob,none⟩) f.blocks.length cb]:Array Value)[o]?:=by intro o;rw[<-hW];exact px _ _ _ _ _ _ (heap_alloc_new w _)
 have B0:Hid (∀w',Gr W w'->w'.cell? ⟨w.heap.size,0,none⟩=some (.slice Ap f.params.length cp)/\w'.cell? ⟨w.heap.size,1,none⟩=some (.int .i64 f.ret)/\w'.cell? ⟨w.heap.size,2,none⟩=some (.slice As f.slots.length cs)/\w'.cell? ⟨w.heap.size,3,none⟩=some (.slice (some ⟨bb,ob,none⟩) f.blocks.length cb)) :=
  fun w' g=>⟨(g.cell w.heap.size 0 (by omega)).trans (b0 0),(g.cell w.heap.size 1 (by omega)).trans (b0 1),(g.cell w.heap.size 2 (by omega)).trans (b0 2),(g.cell w.heap.size 3 (by omega)).trans (b0 3)⟩
 obtain⟨g,ae⟩:∃g,g=Ref.graph f:=⟨_,rfl⟩;have aE:g.length=f.blocks.length:=by rw[ae];simp[Ref.graph]
 have HS:Hid (Ref.rules f=(f.blocks.all Ref.laid && (Ref.before g 0).isEmpty && Ref.phisFrom g f.blocks 0)):=by show _=_;rw[ae];rfl
 have aK:Hid ((∀l∈f.blocks,l≠[])->∀A,Gr w A->Calls prog 102 #[.agg #[.slice Ap f.params.length cp,.int .i64 f.ret,.slice As f.slots.length cs,.slice (some ⟨bb,ob,none⟩) f.blocks.length cb]] A fun e w'=>∃u,e=.returned u/\TabAt w'.heap.size w' u g/\Gr A w'):=by rw[ae];exact fun K A g1=>hC _ f A (aD.gr g1) hs K
 have ai:Hid (∀A u (z:Int),TabAt A.heap.size A u g->Calls prog 103 #[u,.int .i64 z] A fun e w'=>∃v,e=.returned v/\IntsAt w'.heap.size w' v (Ref.before g z)/\Gr A w') :=
  fun A u z h=>ki u g z A h (by omega)
 have a2:=dJ aE;have HC:=dJ M;obtain⟨-,-,-,k3⟩:=B0.out W (qj _);clear ae aE b0 M aC aD
 go_enter func60, ntmps60
 go_wp2_with fail
 go_loopw [3,4,5] (fun b _ _ wr=>∃k:Nat,k<=f.blocks.length/\b=.int .i64 k/\Gr W wr/\Hid (f.blocks.all Ref.laid=(f.blocks.drop k).all Ref.laid)/\Hid (∀l∈f.blocks.take k,l≠[])) (fun b _ _ _=>f.blocks.length-(intOf b).toNat)
 case atStart=>exact⟨0,pR _,rfl,qj _,rfl,fun l V=>by simp at V⟩
 case round =>
  obtain⟨k,hk,rfl,J,m,G⟩:=hrel;obtain⟨wo,rfl⟩:∃wo:World,wo=wr:=⟨_,rfl⟩;obtain⟨c0,c1,c2,c3⟩:=B0.out _ J;clear k3;rcases hr:f.blocks.drop k with _|⟨l,r⟩
  ·have ao:=dm hr hk;have HE:Hid (f.blocks.all Ref.laid=true):=by show _=_;rw[m.out,hr];rfl
   subst ao;have K:∀l∈f.blocks,l≠[]:=by have:=G.out;rwa [pE]at this
   have af:=dJ (aK.out K);clear hr m G K;by_cases ag:0<(Ref.before g 0).length
   ·have aX:(0:Int)<((Ref.before g 0).length:Int):=by omega
    go_wp2_with (first|(go_at_call 102;refine(af.out _ (t.trans J)).mono ?_;rintro e A ⟨vg,rfl,L,g1⟩)|(go_at_call 103;refine(ai.out _ _ _ L).mono ?_;rintro e w2 ⟨vb,rfl,av,g2⟩;obtain⟨A2,aQ,rfl,-,aB,-⟩:=av))
    go_ret;exact⟨dc (by rw[HS.out];cases hbe:Ref.before g 0 with|nil=>(rw[hbe]at ag;simp at ag)|cons a b=>simp),(t.trans J).trans (g1.trans g2)⟩
   ·have aV:((Ref.before g 0).length:Int)<=0:=by omega
    have aM:=dJ aV
    go_wp2_with (first|(go_at_call 102;refine(af.out _ (t.trans J)).mono ?_;rintro e A ⟨vg,rfl,L,g1⟩)|(go_at_call 103;refine(ai.out _ _ _ L).mono ?_;rintro e w2 ⟨vb,rfl,av,g2⟩;obtain⟨A2,aQ,rfl,-,aB,-⟩:=av))
    have HP:Hid (Ref.rules f=Ref.phisFrom g f.blocks 0):=by show _=_;have:Ref.before g 0=[]:=pK (by have:=aM.out;omega);rw[HS.out,HE.out,this];simp
    have aA:Hid (TabAt w2.heap.size w2 vg g):=L.gr g2;have E:Gr W w2:=J.trans (g1.trans g2);obtain⟨-,-,-,d3⟩:=B0.out _ E;clear L c0 c1 c2 c3
    go_loopw [7,8,9] (fun b _ _ wr=>∃k:Nat,k<=f.blocks.length/\b=.int .i64 k/\Gr w2 wr/\Hid (Ref.rules f=Ref.phisFrom g (f.blocks.drop k) k)) (fun b _ _ _=>f.blocks.length-(intOf b).toNat)
    case atStart=>exact⟨0,pR _,rfl,qj _,HP⟩
    case round =>
     obtain⟨k,hk,rfl,N,m⟩:=hrel;obtain⟨wp,rfl⟩:∃wp:World,wp=wr:=⟨_,rfl⟩;obtain⟨-,-,-,aR⟩:=B0.out _ (E.trans N);clear d3;rcases hr:f.blocks.drop k with _|⟨l,r⟩
     ·have ao:=dm hr hk;have aL:Hid (Ref.rules f=true):=by show _=_;rw[m.out,hr];rfl
      subst ao;clear hr m;go_wp2;go_ret;exact⟨dc (by rw[aL.out]),t.trans (E.trans N)⟩
     ·obtain⟨aW,V,U⟩:=dj hr;obtain⟨u,hu,au⟩:=HC.out k l V;have ar:=((t.trans (E.trans N)).cell _ _ ak).trans hu;obtain⟨Al,cl,rfl,p1,p2,p3⟩:=au;have P3:=dJ p3;have HU:=dJ hu;have HL:Hid (l∈f.blocks):=pa V;have HR:Hid (Ref.rules f=(l.all (fun x=>decide (x.op≠28) || Ref.sameInts x.to (Ref.before g k)) && Ref.phisFrom g r (k+1))):=by show _=_;rw[m.out,hr];rfl
      have ad:Hid (f.blocks.drop (k+1)=r):=U;clear hr V U m hu p3;go_wp2
      go_loopw [8,9] (fun i _ wr=>∃j:Nat,j<=l.length/\i=.int .i64 j/\Gr w2 wr/\Hid (l.all (fun x=>decide (x.op≠28) || Ref.sameInts x.to (Ref.before g k))=(l.drop j).all (fun x=>decide (x.op≠28) || Ref.sameInts x.to (Ref.before g k)))) (fun i _ _=>l.length-(intOf i).toNat)
      case atStart=>exact⟨0,pR _,rfl,N,rfl⟩
      case round =>
       obtain⟨j,hj,rfl,C,d⟩:=hrel;obtain⟨O,rfl⟩:∃O:World,O=wr:=⟨_,rfl⟩;obtain⟨-,-,-,a3⟩:=B0.out _ (E.trans C);have a7:=((t.trans (E.trans C)).cell _ _ ak).trans HU.out;clear aR ar;rcases hr1:l.drop j with _|⟨x,X⟩
       ·have an:=dm hr1 hj;have Z:Hid (l.all (fun x=>decide (x.op≠28) || Ref.sameInts x.to (Ref.before g k))=true):=by show _=_;rw[d.out,hr1];rfl
        subst an;clear hr1 d;go_wp2;go_roundw;case rel=>first|exact⟨k+1,by omega,by go_num,C,by (show _=_;rw[HR.out,ad.out,Z.out];simp)⟩|((repeat apply Exists.intro);refine⟨?_,rfl⟩;exact⟨k+1,by omega,by go_num,C,by (show _=_;rw[HR.out,ad.out,Z.out];simp)⟩)
        case measure=>simp[intOf];omega
       ·obtain⟨aF,hx,D⟩:=dj hr1;obtain⟨bl,ol,rfl,F,Q⟩:=P3.out (by omega);obtain⟨va,vt,i0,i1,i2,i3,i4,i5,aZ,aI⟩:=Q j x hx;have H:Hid (l.all (fun x=>decide (x.op≠28) || Ref.sameInts x.to (Ref.before g k))=((decide (x.op≠28) || Ref.sameInts x.to (Ref.before g k)) && X.all (fun x=>decide (x.op≠28) || Ref.sameInts x.to (Ref.before g k)))):=by show _=_;rw[d.out,hr1];rfl
        have I:Hid (l.drop (j+1)=X):=D;have gw:=t.trans (E.trans C);have j0:=(gw.cell _ _ F).trans i0;have j1:=(gw.cell _ _ F).trans i1;have j2:=(gw.cell _ _ F).trans i2;have j3:=(gw.cell _ _ F).trans i3;have j4:=(gw.cell _ _ F).trans i4;have j5:=(gw.cell _ _ F).trans i5;have HT:Hid (∀w',Gr w w'->IntsAt w'.heap.size w' vt x.to):=fun w' q=>aI.gr q;obtain⟨Aa,ca,rfl,-,-,-⟩:=aZ;obtain⟨At,ct,rfl,-,-,-⟩:=aI;clear hr1 hx D d Q i0 i1 i2 i3 i4 i5;obtain⟨wy,aw⟩:=xJ (O.alloc (.cells #[.int .i64 x.op,.int .i64 x.width,.int .i64 x.flags,.slice Aa x.args.length ca,.int .u32 x.imm,.slice At x.to.length ct] 50))
        have b1:∀o,wy.cell? ⟨O.heap.size,o,none⟩=(#[.int .i64 x.op,.int .i64 x.width,.int .i64 x.flags,.slice Aa x.args.length ca,.int .u32 x.imm,.slice At x.to.length ct]:Array Value)[o]?:=by intro o;rw[<-aw];exact px _ _ _ _ _ _ (heap_alloc_new O _)
        have R:Gr w2 wy:=by rw[<-aw];exact C.alloc _
        have a8:wy.heap.size=O.heap.size+1:=by rw[<-aw];simp
        have kp:Hid (∀w',Gr wy w'->w'.cell? ⟨O.heap.size,0,none⟩=some (.int .i64 x.op)/\w'.cell? ⟨O.heap.size,5,none⟩=some (.slice At x.to.length ct)):=fun w' q=>⟨(q.cell O.heap.size 0 (by omega)).trans (b1 0),(q.cell O.heap.size 5 (by omega)).trans (b1 5)⟩;obtain⟨e0,e5⟩:=kp.out wy (qj _);clear b1;rcases Decidable.em (x.op=28) with ho|ho
        ·have a0:(x.op == 28)=true:=by simp[ho]
         have HO:=dJ ho;obtain⟨sm,aq⟩:∃sm,decide (x.to=Ref.before g k)=sm:=⟨_,rfl⟩;have az:Hid (Ref.sameInts x.to (Ref.before g k)=sm):=by show _=_;rw[Ref.sameInts_eq,aq]
         have aJ:Hid (∀A v1,Gr w A->IntsAt A.heap.size A v1 (Ref.before g k)->Calls prog 35 #[.slice At x.to.length ct,v1] A (RG (.bool sm) A)):=by rw[<-aq];exact fun A v1 q h=>ec _ _ _ _ A (HT.out A q) h
         clear ho aq;go_wp2
         go_region_held3 (fun w'=>w'.cell? ⟨O.heap.size,0,none⟩=some (.int .i64 x.op)/\w'.cell? ⟨O.heap.size,5,none⟩=some (.slice At x.to.length ct)) (first|exact kp.out _ (qj wy).drew|exact kp.out _ g3|exact kp.out _ g4) (first|(go_at_call 103;refine(ai.out _ _ _ (aA.out.gr R.drew)).mono ?_;rintro e w3 ⟨a9,rfl,aH,aS⟩;have g3:Gr wy w3:=((qj wy).drew).trans aS)|(go_at_call 35;refine(aJ.out _ _ (t.trans (E.trans (R.trans g3))) aH).mono ?_;rintro e w4 ⟨rfl,aT⟩;have g4:Gr wy w4:=g3.trans aT))
         cases sm with
         | true =>
          go_wp2;go_roundw;case rel=>exact⟨j+1,by omega,by go_num,R.trans g4,by (show _=_;rw[H.out,az.out,I.out];simp)⟩
          case measure=>simp[intOf];omega
         | false =>
          go_wp2;go_ret;exact⟨dc (by rw[HR.out,H.out,az.out,HO.out];simp),t.trans (E.trans (R.trans g4))⟩
        ·have a0:(x.op == 28)=false:=by simp[ho]
         have HO:=dJ ho;clear ho;go_wp2;go_quiet (fail);go_wp2;go_roundw;case rel=>exact⟨j+1,by omega,by go_num,R.drewN _,by (show _=_;rw[H.out,I.out];simp[HO.out])⟩
         case measure=>simp[intOf];omega
  ·obtain⟨aW,V,U⟩:=dj hr;obtain⟨u,hu,au⟩:=HC.out k l V;have ar:=((t.trans J).cell _ _ ak).trans hu;obtain⟨Al,cl,rfl,p1,p2,p3⟩:=au;have a1:l.length<=100000:=hwf.out l (pa V);have HR:Hid (f.blocks.all Ref.laid=(Ref.laid l && r.all Ref.laid)):=by show _=_;rw[m.out,hr];rfl
   have ad:Hid (f.blocks.drop (k+1)=r):=U
   have HN:Hid (l≠[]->∀y∈f.blocks.take (k+1),y≠[]):=by
    intro h y hy;obtain⟨h1,e1⟩:=oZ.1 V;rw[pG h1,e1]at hy;rcases pI.1 hy with h2|h2
    ·exact G.out y h2
    ·simp at h2;subst h2;exact h
   have P3:=dJ p3;clear hr V U m hu p3 G;by_cases T:l.length=0
   ·have n0:((l.length:Int) == 0)=true:=by simp[T]
    have HE:Hid (Ref.laid l=false):=by show _=_;rw[pK T];rfl
    clear T;go_wp2_with fail;go_ret;exact⟨dc (by rw[HS.out,HR.out,HE.out];simp),t.trans J⟩
   ·have n0:((l.length:Int) == 0)=false:=by rw[beq_eq_false_iff_ne];omega
    have K:l≠[]:=fun h=>T (by rw[h];rfl);have aN:=dJ (HN.out K);have aj:Hid (Ref.laid l=Ref.laidFrom l true):=by show _=_;unfold Ref.laid;cases l with|nil=>exact absurd rfl K|cons a b=>rfl
    obtain⟨bl,ol,rfl,F,Q⟩:=P3.out (by omega);have ay:=dJ Q;clear T K Q HN;go_wp2_with fail
    go_loopw [5] (fun i wr=>∃j:Nat,j<=l.length/\i=.int .i64 j/\Gr W wr/\Hid (Ref.laidFrom l true=Ref.laidFrom (l.drop j) (fU l j))) (fun i _=>l.length-(intOf i).toNat)
    case atStart=>exact⟨0,pR _,rfl,J,rfl⟩
    case round =>
     obtain⟨j,hj,rfl,B,d⟩:=hrel;clear ar c0 c1 c2 c3;rcases hr1:l.drop j with _|⟨x,X⟩
     ·have an:=dm hr1 hj;have Z:Hid (Ref.laidFrom l true=true):=by show _=_;rw[d.out,hr1];rfl
      subst an;clear hr1 d;go_wp2_with fail;go_roundw;case rel=>exact⟨k+1,by omega,by go_num,B,by (show _=_;rw[HR.out,ad.out,aj.out,Z.out];simp),aN.out⟩
      case measure=>simp[intOf];omega
     ·obtain⟨aF,hx,D⟩:=dj hr1;obtain⟨va,vt,i0,-,-,-,-,-,-,-⟩:=ay.out j x hx;have j0:=((t.trans B).cell _ _ F).trans i0;have H:Hid (Ref.laidFrom l true=((Ref.isLast x.op == X.isEmpty) && (decide (x.op≠28) || fU l j) && Ref.laidFrom X (decide (x.op=28)))):=by show _=_;rw[d.out,hr1];rfl
      have I:Hid (Ref.laidFrom X (decide (x.op=28))=Ref.laidFrom (l.drop (j+1)) (fU l (j+1))):=by show _=_;rw[fc l j x hx,D]
      have aG:X.isEmpty=decide ((j:Int)=(l.length:Int)-1):=by
       have h1:X.length=l.length-(j+1):=by rw[<-D];simp
       cases X with
       | nil=>rw[List.length_nil]at h1;simp only[List.isEmpty_nil];symm;rw[decide_eq_true_eq];omega
       | cons a b=>rw[List.length_cons]at h1;simp only[List.isEmpty_cons];symm;rw[decide_eq_false_iff_not];omega
      obtain⟨em,aU⟩:∃em,((j:Int) == (l.length:Int)-1)=em:=⟨_,rfl⟩;have aa:Hid (X.isEmpty=em):=by show _=_;rw[aG,<-aU];rfl
      obtain⟨la,ap⟩:=xJ (Ref.isLast x.op);have ah:Hid (∀A,Calls prog 101 #[.int .i64 x.op] A (RS (.bool la) A)):=by rw[<-ap];exact fun A=>kr x.op A
      have ab:=dJ ap;have aP:Hid (∀j' Y,l[j']?=some Y->w.cell? ⟨bl,ol+j' * 6,none⟩=some (.int .i64 Y.op)):=fun j' Y h=>by obtain⟨_,_,i0,-⟩:=ay.out j' Y h;exact i0
      clear hr1 hx D d i0 aG ap;by_cases al:em=la
      ·subst al;by_cases am:j=0
       ·have ac:Hid (fU l j=true):=by show _=_;rw[am];rfl
        have hz:(j:Int)<=0:=by omega
        clear am;cases em <;>
        ·go_wp2_with (go_at_call 101;refine(ah.out _).mono ?_;rintro e A ⟨rfl,rfl⟩);go_roundw;case rel=>exact⟨j+1,by omega,by go_num,B,by (show _=_;rw[H.out,ab.out,aa.out,ac.out,I.out];simp)⟩
         case measure=>simp[intOf];omega
       ·obtain⟨p,hp⟩:∃p,p+1=j:=⟨j-1,by omega⟩;obtain⟨Y,ax⟩:∃Y,l[p]?=some Y:=⟨l[p]'(by omega),by simp[show p<l.length by omega]⟩;have j1:=((t.trans B).cell _ _ F).trans (aP.out p Y ax);have ac:Hid (fU l j=decide (Y.op=28)):=by show _=_;rw[<-hp];exact fc l p Y ax
        have wj:(j:Int)-1=p:=by omega
        have hz:(0:Int)<j:=by omega
        have a6:(p:Int)<(l.length:Int):=by omega
        clear ax am hp;cases em <;>
        ·go_wp2_with (go_at_call 101;refine(ah.out _).mono ?_;rintro e A ⟨rfl,rfl⟩)
         all_goals first
          | (go_ret;exact⟨dc (by rw[HS.out,HR.out,aj.out,H.out,ab.out,aa.out,ac.out];grind),t.trans B⟩)
          | (go_roundw
             case rel=>exact⟨j+1,by omega,by go_num,B,by (show _=_;rw[H.out,ab.out,aa.out,ac.out,I.out];grind)⟩
             case measure=>simp[intOf];omega)
      ·have aO:=dJ al;clear al
       cases em<;>cases la<;>first
        | exact absurd rfl aO.out
        | (go_wp2_with (go_at_call 101;refine(ah.out _).mono ?_;rintro e A ⟨rfl,rfl⟩)
           go_ret
           exact⟨dc (by rw[HS.out,HR.out,aj.out,H.out,ab.out,aa.out];simp),t.trans B⟩)

import Derived.Test.YtjkajidbdmbbaaaGreatN15
import Derived.Test.YtjkajidbdmbbaaaGreatN16
import Derived.Test.YtjkajidbdmbbaaaGreatN13
set_option linter.unusedSimpArgs false
set_option linter.unusedVariables false
set_option maxRecDepth 100000
set_option maxHeartbeats 16000000
open Go.Proofs.Tryz
namespace Go.Proofs.YtjkajidbdmbbaaaGreat
open Ref Rn Wd Ir Rf
variable {a:Act}{tmps:Array Value}{b:Bool}{R:Ending->World->Prop}{Q:Exit->Act->World->Prop}{f:Fn}{fn:Func}{y:Ins}{l:List Ins}{Bf D:Nat}{v:Value}{w:World}
section
open Go.RowKit
theorem kG (h:Ref.laid l=true):l≠[]:=by intro e;subst e;simp[Ref.laid]at h
theorem od (h:C7 f=true):∀l∈f.b,l≠[]:=by intro l hl;unfold C7 at h;simp only[yu]at h;exact kG (ym.1 h.1.1 l hl)
theorem nH (h:f.b.all (fun l=>l.all (zm f))=true):∀l∈f.b,∀x∈l,zm f x=true :=
 fun l hl x d=>ym.1 (ym.1 h l hl) x d
theorem uj (v:Value)(f:Fn)(w:World)(hf:FnAt w.heap.size w v f)(hs:f.b.length<=100000)(hln:Hid (∀l∈f.b,l.length<=100000))(hwf:Hid (∀l∈f.b,∀x∈l,WfI x)) :
  Calls prog 44 #[v] w (RG (.int .i64 (zL f)) w):=by
 have aa:=hf;obtain⟨vp,vs,vb,rfl,hp,a1,hb⟩:=hf;obtain⟨T,Y,rfl,a8,a9,aF⟩:=hp;obtain⟨U,cs,rfl,ba,bc,aH⟩:=a1;obtain⟨Ab,X,rfl,a5,a6,aC⟩:=hb;by_cases ap:3<f.p.length\/2<f.s.length\/f.b.length<1\/10<f.b.length
 ·have hV:Hid (zL f=3):=by show _=_;unfold zL;rw[yr ap]
  have p:Gr w (w.alloc (.cells #[.slice T f.p.length Y,.int .i64 f.ret,.slice U f.s.length cs,.slice Ab f.b.length X] 36)):=(yO _).alloc _;clear aF aH aC aa
  go_enter func44, ntmps44
  go_wp2;all_goals first|omega|(go_ret;exact⟨dg (by rw[hV.out]),p⟩)
 obtain⟨J,L,rfl,R,Z⟩:=aC (by omega);obtain⟨W,hW⟩:=xJ (w.alloc (.cells #[.slice T f.p.length Y,.int .i64 f.ret,.slice U f.s.length cs,.slice (some ⟨J,L,none⟩) f.b.length X] 36));have p:Gr w W:=by rw[<-hW];exact(yO w).alloc _
 have a4:W.heap.size=w.heap.size+1:=by rw[<-hW];simp
 have b0:∀o,W.cell? ⟨w.heap.size,o,none⟩=(#[.slice T f.p.length Y,.int .i64 f.ret,.slice U f.s.length cs,.slice (some ⟨J,L,none⟩) f.b.length X]:Array Value)[o]?:=by intro o;rw[<-hW];exact yo _ _ _ _ _ _ (heap_alloc_new w _)
 have B0:Hid (∀w',Gr W w'->w'.cell? ⟨w.heap.size,0,none⟩=some (.slice T f.p.length Y)/\w'.cell? ⟨w.heap.size,1,none⟩=some (.int .i64 f.ret)/\w'.cell? ⟨w.heap.size,2,none⟩=some (.slice U f.s.length cs)/\w'.cell? ⟨w.heap.size,3,none⟩=some (.slice (some ⟨J,L,none⟩) f.b.length X)) :=
  fun w' g=>⟨(g.cell w.heap.size 0 (by omega)).trans (b0 0),(g.cell w.heap.size 1 (by omega)).trans (b0 1),(g.cell w.heap.size 2 (by omega)).trans (b0 2),(g.cell w.heap.size 3 (by omega)).trans (b0 3)⟩
 have au:Hid (zL f=if 40<AX f.b then 3 else if f.ret<0\/32<f.ret then 1 else if f.p.all yS=false then 1 else if f.s.all BH=false then 1 else if f.b.all (fun l=>l.all (zm f))=false then 1 else if C7 f=false then 7 else if f.b.all (fun l=>l.all (Aj f))=false then 6 else if BU f=false then 9 else 0):=by show _=_;unfold zL;rw[yt ap]
 have aS:Hid (∀l∈f.b,∀x∈l,∀y vx,Gr w y->wQ y.heap.size y vx x->Calls prog 69 #[.agg #[.slice T f.p.length Y,.int .i64 f.ret,.slice U f.s.length cs,.slice (some ⟨J,L,none⟩) f.b.length X],vx] y (RG (.bool (zm f x)) y)) :=
  fun l hl x hx y vx g1 h=>ld f x _ vx y (aa.gr g1) h (hwf.out l hl x hx).1.1 (hwf.out l hl x hx).1.2
 have aV:Hid ((∀l∈f.b,∀x∈l,zm f x=true)->∀l∈f.b,∀x∈l,∀y vx,Gr w y->wQ y.heap.size y vx x->Calls prog 71 #[.agg #[.slice T f.p.length Y,.int .i64 f.ret,.slice U f.s.length cs,.slice (some ⟨J,L,none⟩) f.b.length X],vx] y (RG (.bool (Aj f x)) y)) :=
  fun hA l hl x hx y vx g1 h=>sP f x _ vx y (aa.gr g1) h hs (hwf.out l hl x hx).2.2.1 (hwf.out l hl x hx).2.1 (hA l hl x hx)
 have aT:Hid (∀y,Gr w y->Calls prog 70 #[.agg #[.slice T f.p.length Y,.int .i64 f.ret,.slice U f.s.length cs,.slice (some ⟨J,L,none⟩) f.b.length X]] y (RG (.bool (C7 f)) y)) :=
  fun y g1=>rX _ f y (aa.gr g1) (by omega) hs hln
 have aU:Hid ((∀l∈f.b,∀x∈l,zm f x=true)->(∀l∈f.b,l≠[])->∀y,Gr w y->Calls prog 72 #[.agg #[.slice T f.p.length Y,.int .i64 f.ret,.slice U f.s.length cs,.slice (some ⟨J,L,none⟩) f.b.length X]] y (RG (.bool (BU f)) y)) :=
  fun hA a0 y g1=>pQ _ f y (aa.gr g1) (by omega) hs hA a0 hwf
 obtain⟨k0,k1,k2,k3⟩:=B0.out W (yO _);have HC:=dJ Z;have aM:=dJ aF;have aN:=dJ aH;have z1:(f.p.length:Int)<=3:=by omega
 have z2:(f.s.length:Int)<=2:=by omega
 have z3:(1:Int)<=f.b.length:=by omega
 have z4:(f.b.length:Int)<=10:=by omega
 clear b0 Z aC aa aF aH
 go_enter func44, ntmps44
 go_wp2
 go_loop [3,4] (fun s b=>∃k N:Nat,k<=f.b.length/\b=.int .i64 k/\s=.int .i64 N/\N<=100000*k/\Hid (N=AX (f.b.take k))) (fun _ b=>f.b.length-(intOf b).toNat)
 case atStart=>exact⟨0,0,yI _,rfl,rfl,by omega,by show _=_;simp[AX]⟩
 case round =>
  obtain⟨k,N,hk,rfl,rfl,hN,d⟩:=hrel;by_cases aE:k<f.b.length
  ·obtain⟨l,hl⟩:∃l,f.b[k]?=some l:=⟨f.b[k],by simp[aE]⟩;obtain⟨u,hu,aj⟩:=HC.out k l hl;have an:=(p.cell _ _ R).trans hu;obtain⟨Al,cl,rfl,p1,p2,p3⟩:=aj;have a7:l.length<=100000:=hln.out l (xT hl)
   have HL:Hid (AX (f.b.take (k+1))=AX (f.b.take k)+l.length):=by show _=_;rw[FF _ _ _ hl]
   clear hl hu p3;go_wp2;go_round;case rel=>exact⟨k+1,N+l.length,by omega,by go_num,by go_num,by omega,by show _=_;rw[HL.out,d.out]⟩
   case measure=>simp[intOf];omega
  ·obtain rfl:k=f.b.length:=by omega
   have HN:Hid (N=AX f.b):=by have:=d.out;rw[yv]at this;exact this
   clear d;by_cases aO:40<N
   ·have hV:Hid (zL f=3):=by show _=_;rw[au.out,yr (by rw[<-HN.out];exact aO)]
    go_wp2;go_ret;exact⟨dg (by rw[hV.out]),p⟩
   have av:Hid (zL f=if f.ret<0\/32<f.ret then 1 else if f.p.all yS=false then 1 else if f.s.all BH=false then 1 else if f.b.all (fun l=>l.all (zm f))=false then 1 else if C7 f=false then 7 else if f.b.all (fun l=>l.all (Aj f))=false then 6 else if BU f=false then 9 else 0):=by show _=_;rw[au.out,yt (by rw[<-HN.out];exact aO)]
   clear au;by_cases aq:f.ret<0\/32<f.ret
   ·have hV:Hid (zL f=1):=by show _=_;rw[av.out,yr aq]
    go_wp2;all_goals first|omega|(go_ret;exact⟨dg (by rw[hV.out]),p⟩)
   have aw:Hid (zL f=if f.p.all yS=false then 1 else if f.s.all BH=false then 1 else if f.b.all (fun l=>l.all (zm f))=false then 1 else if C7 f=false then 7 else if f.b.all (fun l=>l.all (Aj f))=false then 6 else if BU f=false then 9 else 0):=by show _=_;rw[av.out,yt aq]
   have r1:0<=f.ret:=by omega
   have r2:f.ret<=32:=by omega
   clear av;go_wp2
   go_loop [5] (fun b=>∃k:Nat,k<=f.p.length/\b=.int .i64 k/\Hid (f.p.all yS=(f.p.drop k).all yS)) (fun b=>f.p.length-(intOf b).toNat)
   case atStart=>exact⟨0,yI _,rfl,rfl⟩
   case round =>
    obtain⟨k,hk,rfl,d⟩:=hrel;rcases hr:f.p.drop k with _|⟨z,r⟩
    ·have S:=dw hr hk
     have ax:Hid (zL f=if f.s.all BH=false then 1 else if f.b.all (fun l=>l.all (zm f))=false then 1 else if C7 f=false then 7 else if f.b.all (fun l=>l.all (Aj f))=false then 6 else if BU f=false then 9 else 0):=by show _=_;rw[aw.out,yt (by rw[d.out,hr];simp)]
     subst S;clear hr d aw;go_wp2
     go_loop [6] (fun b=>∃k:Nat,k<=f.s.length/\b=.int .i64 k/\Hid (f.s.all BH=(f.s.drop k).all BH)) (fun b=>f.s.length-(intOf b).toNat)
     case atStart=>exact⟨0,yI _,rfl,rfl⟩
     case round =>
      obtain⟨k,hk,rfl,d⟩:=hrel;rcases hr:f.s.drop k with _|⟨z,r⟩
      ·have S:=dw hr hk
       have ay:Hid (zL f=if f.b.all (fun l=>l.all (zm f))=false then 1 else if C7 f=false then 7 else if f.b.all (fun l=>l.all (Aj f))=false then 6 else if BU f=false then 9 else 0):=by show _=_;rw[ax.out,yt (by rw[d.out,hr];simp)]
       subst S;clear hr d ax;go_wp2
       go_loopw [7,8] (fun b _ wr=>∃k:Nat,k<=f.b.length/\b=.int .i64 k/\Gr W wr/\Hid (f.b.all (fun l=>l.all (zm f))=(f.b.drop k).all (fun l=>l.all (zm f)))) (fun b _ _=>f.b.length-(intOf b).toNat)
       case atStart=>exact⟨0,yI _,rfl,yO _,rfl⟩
       case round =>
        obtain⟨k,hk,rfl,ag,d⟩:=hrel;obtain⟨wo,rfl⟩:∃wo:World,wo=wr:=⟨_,rfl⟩;have D:=(yO W).trans ag;obtain⟨c0,c1,c2,c3⟩:=B0.out _ D;clear k0 k1 k2 k3;rcases hr:f.b.drop k with _|⟨l,r⟩
        ·have S:=dw hr hk;have I:Hid (f.b.all (fun l=>l.all (zm f))=true):=by show _=_;rw[d.out,hr];rfl
         subst S;clear hr d;have am:Hid (zL f=if C7 f=false then 7 else if f.b.all (fun l=>l.all (Aj f))=false then 6 else if BU f=false then 9 else 0):=by show _=_;rw[ay.out,yt (by rw[I.out];simp)]
         have ao:=dJ (nH I.out);obtain⟨ru,aG⟩:=xJ (C7 f);have ab:=dJ (aT.out _ (p.trans D));have aX:=dJ aG;rw[aG]at am ab;clear aG ay I
         cases ru with
         | false =>
          go_wp2_with (go_at_call 70;refine ab.out.mono ?_;rintro e w2 ⟨rfl,ar⟩);go_ret;exact⟨dg (by rw[am.out];simp),p.trans (D.trans ar)⟩
         | true =>
          have aW:=dJ (od aX.out);have az:Hid (zL f=if f.b.all (fun l=>l.all (Aj f))=false then 6 else if BU f=false then 9 else 0):=by show _=_;rw[am.out,yt (by simp)]
          have aK:=dJ (aV.out ao.out);clear am;go_wp2_with (go_at_call 70;refine ab.out.mono ?_;rintro e w2 ⟨rfl,ar⟩);have aB:Gr W w2:=D.trans ar;obtain⟨k0,k1,k2,k3⟩:=B0.out _ aB;clear c0 c1 c2 c3
          go_loopw [9,10] (fun b _ wr=>∃k:Nat,k<=f.b.length/\b=.int .i64 k/\Gr w2 wr/\Hid (f.b.all (fun l=>l.all (Aj f))=(f.b.drop k).all (fun l=>l.all (Aj f)))) (fun b _ _=>f.b.length-(intOf b).toNat)
          case atStart=>exact⟨0,yI _,rfl,yO _,rfl⟩
          case round =>
           obtain⟨k,hk,rfl,ag,d⟩:=hrel;obtain⟨wo,rfl⟩:∃wo:World,wo=wr:=⟨_,rfl⟩;have D:=aB.trans ag;obtain⟨c0,c1,c2,c3⟩:=B0.out _ D;clear k0 k1 k2 k3;rcases hr:f.b.drop k with _|⟨l,r⟩
           ·have S:=dw hr hk;have I:Hid (f.b.all (fun l=>l.all (Aj f))=true):=by show _=_;rw[d.out,hr];rfl
            subst S;clear hr d;have aA:Hid (zL f=if BU f=false then 9 else 0):=by show _=_;rw[az.out,yt (by rw[I.out];simp)]
            obtain⟨st,aI⟩:=xJ (BU f);rw[aI]at aA;have ac:=dJ (aU.out ao.out aW.out _ (p.trans D));rw[aI]at ac;clear aI az
            cases st with
            | true =>
             go_wp2_with (go_at_call 72;refine ac.out.mono ?_;rintro e w3 ⟨rfl,Q⟩);go_ret;exact⟨dg (by rw[aA.out];simp),p.trans (D.trans Q)⟩
            | false =>
             go_wp2_with (go_at_call 72;refine ac.out.mono ?_;rintro e w3 ⟨rfl,Q⟩);go_ret;exact⟨dg (by rw[aA.out];simp),p.trans (D.trans Q)⟩
           ·obtain⟨aE,hl,F⟩:=dr hr;obtain⟨u,hu,aj⟩:=HC.out k l hl;have an:=((p.trans D).cell _ _ R).trans hu;obtain⟨Al,cl,rfl,p1,p2,p3⟩:=aj;have P3:=dJ p3;have HU:=dJ hu;have HL:Hid (l∈f.b):=xT hl;have HR:Hid (f.b.all (fun l=>l.all (Aj f))=(l.all (Aj f) && r.all (fun l=>l.all (Aj f)))):=by show _=_;rw[d.out,hr];rfl
            have M:Hid (f.b.drop (k+1)=r):=F;clear hr hl F d hu p3;go_wp2
            go_loopw [10] (fun i wr=>∃j:Nat,j<=l.length/\i=.int .i64 j/\Gr w2 wr/\Hid (l.all (Aj f)=(l.drop j).all (Aj f))) (fun i _=>l.length-(intOf i).toNat)
            case atStart=>exact⟨0,yI _,rfl,ag,rfl⟩
            case round =>
             obtain⟨j,hj,rfl,E,m⟩:=hrel;obtain⟨H,rfl⟩:∃H:World,H=wr:=⟨_,rfl⟩;have A:=aB.trans E;obtain⟨d0,d1,d2,d3⟩:=B0.out _ A;have a2:=((p.trans A).cell _ _ R).trans HU.out;clear c0 c1 c2 c3 an;rcases hr2:l.drop j with _|⟨x,r2⟩
             ·have aD:=dw hr2 hj;have HE:Hid (l.all (Aj f)=true):=by show _=_;rw[m.out,hr2];rfl
              subst aD;clear hr2 m;go_wp2;go_roundw;case rel=>exact⟨k+1,by omega,by go_num,E,by (show _=_;rw[HR.out,M.out,HE.out];simp)⟩
              case measure=>simp[intOf];omega
             ·obtain⟨ah,hx,K⟩:=dr hr2;obtain⟨t,ol,rfl,B,af⟩:=P3.out (by omega);obtain⟨va,vt,i0,i1,i2,i3,i4,i5,ak,al⟩:=af j x hx;have O:Hid (l.all (Aj f)=(Aj f x && r2.all (Aj f))):=by show _=_;rw[m.out,hr2];rfl
              have ae:Hid (l.drop (j+1)=r2):=K;have G:=p.trans A;have HX:Hid (x∈l):=xT hx;have kp:Hid (∀w',Gr H w'->(w'.cell? ⟨w.heap.size,0,none⟩=some (.slice T f.p.length Y)/\w'.cell? ⟨w.heap.size,1,none⟩=some (.int .i64 f.ret)/\w'.cell? ⟨w.heap.size,2,none⟩=some (.slice U f.s.length cs)/\w'.cell? ⟨w.heap.size,3,none⟩=some (.slice (some ⟨J,L,none⟩) f.b.length X)/\w'.cell? ⟨J,L+k,none⟩=some (.slice (some ⟨t,ol,none⟩) l.length cl)/\w'.cell? ⟨t,ol+j*6,none⟩=some (.int .i64 x.op)/\w'.cell? ⟨t,ol+j*6+1,none⟩=some (.int .i64 x.w)/\w'.cell? ⟨t,ol+j*6+2,none⟩=some (.int .i64 x.g)/\w'.cell? ⟨t,ol+j*6+3,none⟩=some va/\w'.cell? ⟨t,ol+j*6+4,none⟩=some (.int .u32 x.i)/\w'.cell? ⟨t,ol+j*6+5,none⟩=some vt)):=fun w' q=>⟨(B0.out w' (A.trans q)).1,(B0.out w' (A.trans q)).2.1,(B0.out w' (A.trans q)).2.2.1,(B0.out w' (A.trans q)).2.2.2,((G.trans q).cell _ _ R).trans HU.out,((G.trans q).cell t (ol+j*6) B).trans i0,((G.trans q).cell t (ol+j*6+1) B).trans i1,((G.trans q).cell t (ol+j*6+2) B).trans i2,((G.trans q).cell t (ol+j*6+3) B).trans i3,((G.trans q).cell t (ol+j*6+4) B).trans i4,((G.trans q).cell t (ol+j*6+5) B).trans i5⟩
              have ad:Hid (∀y,Gr H y->Calls prog 71 #[.agg #[.slice T f.p.length Y,.int .i64 f.ret,.slice U f.s.length cs,.slice (some ⟨J,L,none⟩) f.b.length X],.agg #[.int .i64 x.op,.int .i64 x.w,.int .i64 x.g,va,.int .u32 x.i,vt]] y (RG (.bool (Aj f x)) y)) :=
               fun y q=>aK.out l HL.out x HX.out y _ (G.trans q) ⟨va,vt,rfl,ak.gr (G.trans q),al.gr (G.trans q)⟩
              obtain⟨th,ai⟩:=xJ (Aj f x);rw[ai]at ad O;obtain⟨-,-,-,-,-,e0,e1,e2,e3,e4,e5⟩:=kp.out _ (yO H);clear hr2 hx K m af ai i0 i1 i2 i3 i4 i5 ak al;go_wp2
              go_region_held3 (fun w'=>w'.cell? ⟨w.heap.size,0,none⟩=some (.slice T f.p.length Y)/\w'.cell? ⟨w.heap.size,1,none⟩=some (.int .i64 f.ret)/\w'.cell? ⟨w.heap.size,2,none⟩=some (.slice U f.s.length cs)/\w'.cell? ⟨w.heap.size,3,none⟩=some (.slice (some ⟨J,L,none⟩) f.b.length X)/\w'.cell? ⟨J,L+k,none⟩=some (.slice (some ⟨t,ol,none⟩) l.length cl)/\w'.cell? ⟨t,ol+j*6,none⟩=some (.int .i64 x.op)/\w'.cell? ⟨t,ol+j*6+1,none⟩=some (.int .i64 x.w)/\w'.cell? ⟨t,ol+j*6+2,none⟩=some (.int .i64 x.g)/\w'.cell? ⟨t,ol+j*6+3,none⟩=some va/\w'.cell? ⟨t,ol+j*6+4,none⟩=some (.int .u32 x.i)/\w'.cell? ⟨t,ol+j*6+5,none⟩=some vt) (first|exact kp.out _ (yO H).drew|exact kp.out _ g3) (first|(go_at_call 71;refine(ad.out _ (yO H).drew).mono ?_;rintro e w3 ⟨rfl,Q⟩;have g3:Gr H w3:=(yO H).drew.trans Q))
              cases th with
              | true =>
               go_wp2;go_roundw;case rel=>exact⟨j+1,by omega,by go_num,E.trans g3,by (show _=_;rw[O.out,ae.out];simp)⟩
               case measure=>simp[intOf];omega
              | false =>
               have hV:Hid (zL f=6):=by show _=_;rw[az.out,yr (by rw[HR.out,O.out];simp)]
               go_wp2;go_ret;exact⟨dg (by rw[hV.out]),p.trans (A.trans g3)⟩
        ·obtain⟨aE,hl,F⟩:=dr hr;obtain⟨u,hu,aj⟩:=HC.out k l hl;have an:=((p.trans D).cell _ _ R).trans hu;obtain⟨Al,cl,rfl,p1,p2,p3⟩:=aj;have P3:=dJ p3;have HU:=dJ hu;have HL:Hid (l∈f.b):=xT hl;have HR:Hid (f.b.all (fun l=>l.all (zm f))=(l.all (zm f) && r.all (fun l=>l.all (zm f)))):=by show _=_;rw[d.out,hr];rfl
         have M:Hid (f.b.drop (k+1)=r):=F;clear hr hl F d hu p3;go_wp2
         go_loopw [8] (fun i wr=>∃j:Nat,j<=l.length/\i=.int .i64 j/\Gr W wr/\Hid (l.all (zm f)=(l.drop j).all (zm f))) (fun i _=>l.length-(intOf i).toNat)
         case atStart=>exact⟨0,yI _,rfl,ag,rfl⟩
         case round =>
          obtain⟨j,hj,rfl,E,m⟩:=hrel;obtain⟨H,rfl⟩:∃H:World,H=wr:=⟨_,rfl⟩;have A:=(yO W).trans E;obtain⟨d0,d1,d2,d3⟩:=B0.out _ A;have a2:=((p.trans A).cell _ _ R).trans HU.out;clear c0 c1 c2 c3 an;rcases hr2:l.drop j with _|⟨x,r2⟩
          ·have aD:=dw hr2 hj;have HE:Hid (l.all (zm f)=true):=by show _=_;rw[m.out,hr2];rfl
           subst aD;clear hr2 m;go_wp2;go_roundw;case rel=>exact⟨k+1,by omega,by go_num,E,by (show _=_;rw[HR.out,M.out,HE.out];simp)⟩
           case measure=>simp[intOf];omega
          ·obtain⟨ah,hx,K⟩:=dr hr2;obtain⟨t,ol,rfl,B,af⟩:=P3.out (by omega);obtain⟨va,vt,i0,i1,i2,i3,i4,i5,ak,al⟩:=af j x hx;have O:Hid (l.all (zm f)=(zm f x && r2.all (zm f))):=by show _=_;rw[m.out,hr2];rfl
           have ae:Hid (l.drop (j+1)=r2):=K;have G:=p.trans A;have HX:Hid (x∈l):=xT hx;have kp:Hid (∀w',Gr H w'->(w'.cell? ⟨w.heap.size,0,none⟩=some (.slice T f.p.length Y)/\w'.cell? ⟨w.heap.size,1,none⟩=some (.int .i64 f.ret)/\w'.cell? ⟨w.heap.size,2,none⟩=some (.slice U f.s.length cs)/\w'.cell? ⟨w.heap.size,3,none⟩=some (.slice (some ⟨J,L,none⟩) f.b.length X)/\w'.cell? ⟨J,L+k,none⟩=some (.slice (some ⟨t,ol,none⟩) l.length cl)/\w'.cell? ⟨t,ol+j*6,none⟩=some (.int .i64 x.op)/\w'.cell? ⟨t,ol+j*6+1,none⟩=some (.int .i64 x.w)/\w'.cell? ⟨t,ol+j*6+2,none⟩=some (.int .i64 x.g)/\w'.cell? ⟨t,ol+j*6+3,none⟩=some va/\w'.cell? ⟨t,ol+j*6+4,none⟩=some (.int .u32 x.i)/\w'.cell? ⟨t,ol+j*6+5,none⟩=some vt)):=fun w' q=>⟨(B0.out w' (A.trans q)).1,(B0.out w' (A.trans q)).2.1,(B0.out w' (A.trans q)).2.2.1,(B0.out w' (A.trans q)).2.2.2,((G.trans q).cell _ _ R).trans HU.out,((G.trans q).cell t (ol+j*6) B).trans i0,((G.trans q).cell t (ol+j*6+1) B).trans i1,((G.trans q).cell t (ol+j*6+2) B).trans i2,((G.trans q).cell t (ol+j*6+3) B).trans i3,((G.trans q).cell t (ol+j*6+4) B).trans i4,((G.trans q).cell t (ol+j*6+5) B).trans i5⟩
           have ad:Hid (∀y,Gr H y->Calls prog 69 #[.agg #[.slice T f.p.length Y,.int .i64 f.ret,.slice U f.s.length cs,.slice (some ⟨J,L,none⟩) f.b.length X],.agg #[.int .i64 x.op,.int .i64 x.w,.int .i64 x.g,va,.int .u32 x.i,vt]] y (RG (.bool (zm f x)) y)) :=
            fun y q=>aS.out l HL.out x HX.out y _ (G.trans q) ⟨va,vt,rfl,ak.gr (G.trans q),al.gr (G.trans q)⟩
           obtain⟨th,ai⟩:=xJ (zm f x);rw[ai]at ad O;obtain⟨-,-,-,-,-,e0,e1,e2,e3,e4,e5⟩:=kp.out _ (yO H);clear hr2 hx K m af ai i0 i1 i2 i3 i4 i5 ak al;go_wp2
           go_region_held3 (fun w'=>w'.cell? ⟨w.heap.size,0,none⟩=some (.slice T f.p.length Y)/\w'.cell? ⟨w.heap.size,1,none⟩=some (.int .i64 f.ret)/\w'.cell? ⟨w.heap.size,2,none⟩=some (.slice U f.s.length cs)/\w'.cell? ⟨w.heap.size,3,none⟩=some (.slice (some ⟨J,L,none⟩) f.b.length X)/\w'.cell? ⟨J,L+k,none⟩=some (.slice (some ⟨t,ol,none⟩) l.length cl)/\w'.cell? ⟨t,ol+j*6,none⟩=some (.int .i64 x.op)/\w'.cell? ⟨t,ol+j*6+1,none⟩=some (.int .i64 x.w)/\w'.cell? ⟨t,ol+j*6+2,none⟩=some (.int .i64 x.g)/\w'.cell? ⟨t,ol+j*6+3,none⟩=some va/\w'.cell? ⟨t,ol+j*6+4,none⟩=some (.int .u32 x.i)/\w'.cell? ⟨t,ol+j*6+5,none⟩=some vt) (first|exact kp.out _ (yO H).drew|exact kp.out _ g3) (first|(go_at_call 69;refine(ad.out _ (yO H).drew).mono ?_;rintro e w3 ⟨rfl,Q⟩;have g3:Gr H w3:=(yO H).drew.trans Q))
           cases th with
           | true =>
            go_wp2;go_roundw;case rel=>exact⟨j+1,by omega,by go_num,E.trans g3,by (show _=_;rw[O.out,ae.out];simp)⟩
            case measure=>simp[intOf];omega
           | false =>
            have hV:Hid (zL f=1):=by show _=_;rw[ay.out,yr (by rw[HR.out,O.out];simp)]
            go_wp2;go_ret;exact⟨dg (by rw[hV.out]),p.trans (A.trans g3)⟩
      ·obtain⟨ah,hz,F⟩:=dr hr;obtain⟨bs,os,rfl,aZ,aQ⟩:=aN.out (by omega);have a3:=(p.cell _ _ aZ).trans (aQ k z hz);have HR:Hid (f.s.all BH=(BH z && r.all BH)):=by show _=_;rw[d.out,hr];rfl
       have M:Hid (f.s.drop (k+1)=r):=F;clear hr hz F d aQ aN;by_cases aJ:1<=z/\z<=8
       ·have e1:1<=z:=aJ.1;have e2:z<=8:=aJ.2;have HI:Hid (BH z=true):=by show _=_;simp[BH,e1,e2]
        clear aJ;go_wp2;go_round;case rel=>exact⟨k+1,by omega,by go_num,by (show _=_;rw[HR.out,M.out,HI.out];simp)⟩
        case measure=>simp[intOf];omega
       ·have HI:Hid (BH z=false):=by show _=_;simp[BH];omega
        have hV:Hid (zL f=1):=by show _=_;rw[ax.out,yr (by rw[HR.out,HI.out];simp)]
        go_wp2;all_goals first|omega|(go_ret;exact⟨dg (by rw[hV.out]),p⟩)
    ·obtain⟨ah,hz,F⟩:=dr hr;obtain⟨bp,op,rfl,aY,aP⟩:=aM.out (by omega);have a3:=(p.cell _ _ aY).trans (aP k z hz);have HR:Hid (f.p.all yS=(yS z && r.all yS)):=by show _=_;rw[d.out,hr];rfl
     have M:Hid (f.p.drop (k+1)=r):=F;clear hr hz F d aP aM;obtain⟨iw,aR⟩:=xJ (yS z);have C:=dU z W;rw[aR]at HR C;have aL:=dJ C;clear C aR
     cases iw with
     | true =>
      go_wp2_with (go_at_call 68;refine aL.out.mono ?_;rintro e y ⟨rfl,rfl⟩);go_round;case rel=>exact⟨k+1,by omega,by go_num,by (show _=_;rw[HR.out,M.out];simp)⟩
      case measure=>simp[intOf];omega
     | false =>
      have hV:Hid (zL f=1):=by show _=_;rw[aw.out,yr (by rw[HR.out];simp)]
      go_wp2_with (go_at_call 68;refine aL.out.mono ?_;rintro e y ⟨rfl,rfl⟩);go_ret;exact⟨dg (by rw[hV.out]),p⟩
end
section
open Go.RowKit Go.Shelf
theorem ep (fn:Func)(tmps:Array Value)(t:Nat)(w:World)(Br:Nat)(b:Bool)(h:fn.results=#[.cell t 4])(ht:tmps[t]?.getD undef=.pointer (some ⟨Br,0,none⟩))(hc:w.cell? ⟨Br,0,none⟩=some (.bool b)) :
  (results fn tmps).run prog w=.ok (.bool b) w:=by simp[results,h,ht,go_sem,hc]
theorem mY (h:(results fn tmps).run prog w=.ok v w)(hR:R (.returned v) w):LeavesInM Fence.wide 5 prog fn tmps R [] .returning w:=⟨v,h,hR⟩
theorem mZ {ds:List Deferred}(hK:w.heap[D]?=some (.deferred (some [])))(h:LeavesInM Fence.wide 5 prog fn tmps R ds .returning (w.putObj D (.deferred none))) :
  LeavesInM Fence.wide 5 prog fn tmps R ({target:=.collected D,args:=#[]}::ds) .returning w:=⟨by simp,.inl ⟨_,_,rfl,run_takeDeferred hK,h⟩⟩
theorem qe (hd:a.defers=[])(h:(results fn a.tmps).run prog w=.ok v w)(hR:R (.returned v) w):bodyPostM Fence.wide 5 prog fn R .ret a w:=by show LeavesInM Fence.wide 5 prog fn a.tmps R a.defers .returning w;rw[hd];exact mY h hR
theorem xb (hd:a.defers=[{target:=.collected D,args:=#[]}])(hK:w.heap[D]?=some (.deferred (some [])))(h:(results fn a.tmps).run prog (w.putObj D (.deferred none))=.ok v (w.putObj D (.deferred none)))
  (hR:R (.returned v) (w.putObj D (.deferred none))):bodyPostM Fence.wide 5 prog fn R .ret a w:=by
 show LeavesInM Fence.wide 5 prog fn a.tmps R a.defers .returning w;rw[hd];exact mZ hK (mY h hR)
theorem Gr.keeps {a b:World}(h:Gr a b):KeepsOthers a b:=⟨h.size,fun k _ d _=>(h.heap k (xY.1 d).1).trans d⟩
theorem wR {w0:World}{Br t:Nat}(hd:a.defers=[{target:=.collected D,args:=#[]}])(hK:w.heap[D]?=some (.deferred (some [])))(hf:fn.results=#[.cell t 4])(ht:a.tmps[t]?.getD undef=.pointer (some ⟨Br,0,none⟩))
  (hb:w.heap[Br]?=some (.cells #[.bool b] 4 (0,0))) (hw:Below w0.heap.size w0 w) (hD:w0.heap.size<=D) (hR:∀w',Gr w0 w'->R (.returned (.bool b)) w'):bodyPostM Fence.wide 5 prog fn R .ret a w:=by
 have g:Br≠D:=fun e=>by rw[e,hK]at hb;cases hb
 have d:(w.putObj D (.deferred none)).heap[Br]?=some (.cells #[.bool b] 4 (0,0)):=(World.putObj_heap_other g).trans hb;refine xb hd hK (ep fn a.tmps t _ Br b hf ht (cell_of_one d)) (hR _ ?_);exact Below.trans hw (belowK_b (w:=w0) (yJ _) w D _ _ hD hK rfl rfl)
theorem vA (hl:Ref.laid l=true)(hA:∀x∈l,zm f x=true):((l.getLast?.map (·.to)).getD []).length<=2:=by
 have d:∀(l:List Ins)(p:Bool),l≠[]->Be l p=true->∃x,l.getLast?=some x/\Cb x.op=true:=by
  intro l
  induction l with
  | nil=>intro p h;exact absurd rfl h
  | cons x r ih =>
   intro p _ h;rw[Be]at h;simp only[yu]at h
   cases r with
   | nil=>exact⟨x,rfl,by simpa using h.1.1⟩
   | cons y r' =>
    obtain⟨z,g,j⟩:=ih _ (by simp) h.2;exact⟨z,by rw[List.getLast?_cons_cons];exact g,j⟩
 have m:=kG hl;unfold Ref.laid at hl;simp only[yu]at hl;obtain⟨x,g,j⟩:=d l _ m hl.2;rw[g];have t:=hA x (List.mem_of_getLast? g);unfold zm Dj at t;simp only[yu]at t;obtain⟨⟨⟨-,u⟩,-⟩,-⟩:=t;simp only[Option.map_some,Option.getD_some];have q:x.op=29\/x.op=30\/x.op=31\/x.op=32:=by unfold Cb at j;simpa[or_assoc] using j
 have A:(zY f x).2.1=1\/(zY f x).2.1=2\/(zY f x).2.1=0:=by rcases q with h|h|h|h;all_goals (unfold zY;rw[h];simp)
 simp only[Bool.not_eq_true',Bool.or_eq_false_iff,Bool.and_eq_false_imp,decide_eq_true_eq,decide_eq_false_iff_not]at u;have:=u.2;omega
theorem gY (hA:∀l∈f.b,∀x∈l,zm f x=true)(hL:f.b.all Ref.laid=true)(h1:1<=f.b.length)(h2:f.b.length<=10):DK (n5 f)=0:=by
 have m:(n5 f).length=f.b.length:=by simp[n5]
 unfold DK;rw[yt (by omega),yt,yt]
 ·intro h;obtain⟨l,hl,d⟩:=yG.1 h;obtain⟨t,p,g⟩:=yG.1 d;have:=nQ f hA l hl t p;unfold BE at g;simp at g;omega
 ·intro h;obtain⟨l,hl,d⟩:=yG.1 h;obtain⟨b,j,rfl⟩:=List.mem_map.1 hl;have:=vA (ym.1 hL b j) (hA b j);simp at d;omega
attribute [local go_sem] Oper.semAt_some
def mK (it:It)(aa ta:Option Addr)(ca ct:Nat):Value:=.agg #[.int .i64 it.ins.op,.int .i64 it.ins.w,.int .i64 it.ins.g,.slice aa it.ins.args.length ca,.int .u32 it.ins.i,.slice ta it.ins.to.length ct,.int .i64 it.num,.int .i64 it.blk,.int .i64 it.pos]
def rV (it:It)(aa ta:Option Addr)(ca ct:Nat):Array Value:=#[.int .i64 it.ins.op,.int .i64 it.ins.w,.int .i64 it.ins.g,.slice aa it.ins.args.length ca,.int .u32 it.ins.i,.slice ta it.ins.to.length ct,.int .i64 it.num,.int .i64 it.blk,.int .i64 it.pos]
theorem gO {g p q:Nat}{assign body:Code}{W0:World}{vp vs vb:Value}
  (hg:a.eval (.tmp g)=.func (.func 92) #[] #[.pointer (some ⟨Bf,0,none⟩)])
  (hf:FnAt w.heap.size w (.agg #[vp,.int .i64 f.ret,vs,vb]) f) (hgw:Gr w W0) (hs:f.b.length<=100000) (hBf:Bf<W0.heap.size) (c0:W0.cell? ⟨Bf,0,none⟩=some vp) (c3:W0.cell? ⟨Bf,3,none⟩=some vb)
  (I:List It->World->Prop) (Ix:Code->List It->World->Prop) (hI:OwnFrom W0.heap.size I) (hIx:∀c,OwnFrom W0.heap.size (Ix c)) (hIw:∀pre W,I pre W->W0.heap.size<=W.heap.size) (h0:I [] W0)
  (hassign:∀(l:Nat)(it:It)(aa ta:Option Addr)(ca ct:Nat)(W:World)(K:Act->World->Prop),K {tmps:=(a.tmps.setIfInBounds p (mK it aa ta ca ct)).setIfInBounds q (.pointer (some ⟨W.heap.size,0,none⟩)),defers:=[]} (W.alloc (.cells (rV it aa ta ca ct) 90)) ->
    assign.wpIn (Fence.wide.inRound l) 3 prog (Exit.then K (fun _ _ _=>False)) {tmps:=a.tmps.setIfInBounds p (mK it aa ta ca ct),defers:=[]} W)
  (hbody:∀(l:Nat)(pre:List It)(it:It)(aa ta:Option Addr)(ca ct:Nat)(W:World)(Bx:Nat),I pre W->IntsAt w.heap.size w (.slice aa it.ins.args.length ca) it.ins.args->IntsAt w.heap.size w (.slice ta it.ins.to.length ct) it.ins.to->it∈zW f->pre.length<(zW f).length+1 ->
    W0.heap.size<=Bx->W.heap[Bx]?=some (.cells (rV it aa ta ca ct) 90 (0,0)) ->
    body.wpIn (Fence.wide.inRound l) 3 prog (ownPostG W0.heap.size (Below w.heap.size) I Ix (pre++[it]) W) {tmps:=(a.tmps.setIfInBounds p (mK it aa ta ca ct)).setIfInBounds q (.pointer (some ⟨Bx,0,none⟩)),defers:=[]} W)
  (hdone:∀(D:Nat)(W:World),W0.heap.size<=D->I (zW f) W->W.heap[D]?=some (.deferred (some []))->Q .normal {a with defers:={target:=.collected D,args:=#[]}::a.defers} W)
  (hstop:∀(D:Nat)(c:Code)(pre:List It)(W:World),W0.heap.size<=D->pre <+: zW f->Ix c pre W->W.heap[D]?=some (.deferred (some []))->c.wp prog Q {a with defers:={target:=.collected D,args:=#[]}::a.defers} W) :
  (Code.rangeFunc (.tmp g) #[p] assign body).wp prog Q a W0:=by
 have E:=hgw.size;have N:=gq (5-1) (by omega) Bf w.heap.size f vp vs vb w W0 hf (yJ _) hgw hs hBf c0 c3;refine(wpIn_wide (n:=5)).1 ?_
 refine wpIn_rangeFunc_ownH (n:=5) rfl (by omega) (gf:=92) (lb:=#[.pointer (some ⟨Bf,0,none⟩)]) hg trivial (enters_of func92 (by kernel_rfl) rfl) N belowK_t (belowK_b E) (Below.refl _ _) (fun _=>rfl)
  (fun pre W=>I (prj pre) W) (fun c pre W=>Ix c (prj pre) W) (fun s=>hI (prj s)) (fun c s=>hIx c (prj s)) h0
  (fun x y W=>∃Bx,W0.heap.size<=Bx/\W.heap[Bx]?=some (.cells (rV x.1.it x.1.aa x.1.ta x.1.ca x.1.ct) 90 (0,0))/\y={tmps:=(a.tmps.setIfInBounds p (mK x.1.it x.1.aa x.1.ta x.1.ca x.1.ct)).setIfInBounds q (.pointer (some ⟨Bx,0,none⟩)),defers:=[]})
  ?hAx ?assign ?body ?done ?stop
 case hAx =>
  intro x y s X Y row h hg U;obtain⟨Bx,R,z,S⟩:=h;refine⟨Bx,R,(hg.block Bx (xY.1 z).1 (fun e=>?_)).trans z,S⟩;obtain⟨-,o,M,T⟩:=U Bx e.symm;rw[z]at M;cases M;cases T
 case assign =>
  rintro l pre ⟨⟨it,aa,ca,ta,ct⟩,d⟩ W K j m;have e:Array.foldl (fun(t:Array Value)(x:Nat × Value)=>t.setIfInBounds x.1 x.2) a.tmps ((#[p]:Array Nat).zip #[mK it aa ta ca ct])=a.tmps.setIfInBounds p (mK it aa ta ca ct):=by simp
  show Code.wpIn _ _ _ _ _ {tmps:=Array.foldl (fun(t:Array Value)(x:Nat × Value)=>t.setIfInBounds x.1 x.2) a.tmps ((#[p]:Array Nat).zip #[mK it aa ta ca ct]),defers:=[]} W;rw[e];refine hassign l it aa ta ca ct W K ?_;have F:=hIw _ _ j;exact m _ _ ((KeepsOthers.alloc _ _).from _) ((Below.refl _ W).alloc (by omega) _) (hI.alloc _ j) ⟨W.heap.size,F,heap_alloc_new W _,rfl⟩
 case body =>
  rintro l pre ⟨⟨it,aa,ca,ta,ct⟩,d⟩ y W hl Z j ⟨Bx,A,u,rfl⟩ C;obtain⟨H,J,L⟩:=d;refine wpIn_mono (hbody l (prj pre) it aa ta ca ct W Bx j H J L (by rw[show (prj pre).length=pre.length by simp[prj]];exact C) A u) ?_;intro e y W' h;have O:prj (pre++[⟨⟨it,aa,ca,ta,ct⟩,H,J,L⟩])=prj pre++[it]:=ft _ _;cases e<;>simp only[ownPostG,O]at h ⊢<;>exact h
 case done =>
  intro D ys W B G j m;rw[G]at j;exact hdone D W B j m
 case stop =>
  intro D c pre W B r j m;exact wpIn_wide.2 (hstop D c (prj pre) W B r j m)
theorem fP {β:Type}(W0:World):OwnFrom W0.heap.size (fun(_:β) W=>Gr W0 W):=ownFrom_below (yJ _) (yJ _)
attribute [local go_sem] Oper.semAt_some
theorem laid_last (hy:l.getLast?=some y)(h:Cb y.op=false):Ref.laid l=false:=by
 have:∀(l:List Ins)(p:Bool),l.getLast?=some y->Be l p=false:=by
  intro l
  induction l with
  | nil=>intro p h;simp at h
  | cons x r ih =>
   intro p hl;rw[Be]
   cases r with
   | nil=>simp at hl;subst hl;simp[h]
   | cons z r'=>rw[ih _ (by rw[List.getLast?_cons_cons]at hl;exact hl)];simp
 unfold Ref.laid;rw[this l true hy];simp
theorem rx (h:l≠[]):Ref.laid l=Be l true:=by
 unfold Ref.laid
 cases l with
 | nil=>exact absurd rfl h
 | cons a b=>rfl
theorem pb (v:Value)(f:Fn)(w:World)(hf:FnAt w.heap.size w v f)(hb1:1<=f.b.length)(hb10:f.b.length<=10)(hA:Hid (∀l∈f.b,∀x∈l,zm f x=true)) :
  Calls prog 64 #[v] w (RG (.bool (Hf f)) w):=by
 have aU:=hf;obtain⟨vp,vs,vb,rfl,hp,bv,hb⟩:=hf;obtain⟨Ap,cp,rfl,-,-,-⟩:=hp;obtain⟨As,cs,rfl,-,-,-⟩:=bv;obtain⟨Ab,cb,rfl,-,bJ,aR⟩:=hb;obtain⟨bb,ob,rfl,bm,Q⟩:=aR (by omega);obtain⟨W,hW⟩:=xJ ((w.alloc (.cells #[.slice Ap f.p.length cp,.int .i64 f.ret,.slice As f.s.length cs,.slice (some ⟨bb,ob,none⟩) f.b.length cb] 36)).alloc (.cells #[.bool false] 4));have E:Gr w W:=by rw[<-hW];exact((yO w).alloc _).alloc _
 have bI:W.heap.size=w.heap.size+2:=by rw[<-hW];simp
 have g0:Gr (w.alloc (.cells #[.slice Ap f.p.length cp,.int .i64 f.ret,.slice As f.s.length cs,.slice (some ⟨bb,ob,none⟩) f.b.length cb] 36)) W:=by rw[<-hW];exact(yO _).alloc _
 have B0:Hid (∀w',Gr W w'->w'.cell? ⟨w.heap.size,0,none⟩=some (.slice Ap f.p.length cp)/\w'.cell? ⟨w.heap.size,1,none⟩=some (.int .i64 f.ret)/\w'.cell? ⟨w.heap.size,2,none⟩=some (.slice As f.s.length cs)/\w'.cell? ⟨w.heap.size,3,none⟩=some (.slice (some ⟨bb,ob,none⟩) f.b.length cb)) :=
  fun w' q=>⟨(q.cell _ _ (by omega)).trans (df _ _ 0 g0 rfl),(q.cell _ _ (by omega)).trans (df _ _ 1 g0 rfl),(q.cell _ _ (by omega)).trans (df _ _ 2 g0 rfl),(q.cell _ _ (by omega)).trans (df _ _ 3 g0 rfl)⟩
 have bu:W.heap[w.heap.size+1]?=some (.cells #[.bool false] 4 (0,0)):=by rw[<-hW];exact heap_alloc2_new w _ _
 have R0:Hid (∀w',Gr W w'->w'.heap[w.heap.size+1]?=some (.cells #[.bool false] 4 (0,0))):=fun w' q=>(q.heap _ (by omega)).trans bu;have HS:Hid (Hf f=(f.b.all Ref.laid && (AC (n5 f) 0).isEmpty && (zW f).all (FO (n5 f)))):=by show _=_;rfl
 have a8:Hid ((∀l∈f.b,l≠[])->∀d,Gr w d->Calls prog 97 #[.agg #[.slice Ap f.p.length cp,.int .i64 f.ret,.slice As f.s.length cs,.slice (some ⟨bb,ob,none⟩) f.b.length cb]] d fun e w'=>∃A n c,e=.returned (.slice A n c)/\Hid (TabAt w'.heap.size w' (.slice A n c) (n5 f))/\Gr d w') :=
  fun af d g1=>(oW _ f d (aU.gr g1) (by omega) af).mono fun _ _ ⟨u,h1,h2,h3⟩=>by have bk:=h2;obtain⟨A,c,rfl,-,-,-⟩:=h2;exact⟨A,_,c,h1,bk,h3⟩
 have a7:Hid (f.b.all Ref.laid=true->∀d u (z:Int),TabAt d.heap.size d u (n5 f)->0<=z->z<f.b.length->Calls prog 98 #[u,.int .i64 z] d fun e w'=>∃A c,e=.returned (.tuple #[.slice A (AC (n5 f) z).length c,.int .i64 0])/\Hid (IntsAt w'.heap.size w' (.slice A (AC (n5 f) z).length c) (AC (n5 f) z))/\Gr d w'):=by intro hL d u z h h0 h1;refine(oz u (n5 f) z d h (gY hA.out hL hb1 hb10) h0 (by simpa[n5] using h1)).mono ?_;rintro e w' ⟨v,q1,q2,q3⟩;have bA:=q2;obtain⟨A,c,rfl,-,-,-⟩:=q2;exact⟨A,c,q1,bA,q3⟩
 have a6:Hid (∀d,Calls prog 62 #[.agg #[.slice Ap f.p.length cp,.int .i64 f.ret,.slice As f.s.length cs,.slice (some ⟨bb,ob,none⟩) f.b.length cb]] d fun e w'=>e=.returned (.func (.func 92) #[] #[.pointer (some ⟨d.heap.size,0,none⟩)])/\w'=d.alloc (.cells #[.slice Ap f.p.length cp,.int .i64 f.ret,.slice As f.s.length cs,.slice (some ⟨bb,ob,none⟩) f.b.length cb] 36)):=fun d=>kY f Ap As _ _ _ _ cp cs cb d;have HC:=dJ Q;have bd:Hid (f.b.all Ref.laid=true->∀l∈f.b,l≠[]):=fun h l hl=>kG (ym.1 h l hl);refine(callsIn_wide (n:=5)).1 ?_;refine callsIn_of_wp_marks func64 rfl trivial ?_ rfl;simp only[ntmps64,List.size_toArray,List.length_cons,List.length_nil,Nat.reduceAdd,Nat.reduceSub,Array.replicate_succ,Array.replicate_zero,List.push_toArray,List.append_toArray,List.nil_append,List.cons_append];refine wpIn_wide.2 ?_;obtain⟨-,-,-,k3⟩:=B0.out W (yO _);clear g0 Q aR;go_wp2
 go_loopw [4,5,6,16] (fun _ _ _ b wr=>∃k:Nat,k<=f.b.length/\b=.int .i64 k/\Gr W wr/\Hid (f.b.all Ref.laid=(f.b.drop k).all Ref.laid)) (fun _ _ _ b _=>f.b.length-(intOf b).toNat)
 case atStart=>exact⟨0,yI _,rfl,yO _,rfl⟩
 case round =>
  obtain⟨k,hk,rfl,H,J⟩:=hrel;obtain⟨wo,rfl⟩:∃wo:World,wo=wr:=⟨_,rfl⟩;have a1:=R0.out _ H;have rc:=cell_of_one a1;have rf:=free_of_one a1;clear k3;rcases hr:f.b.drop k with _|⟨l,r⟩
  ·have bp:=dw hr hk;have HE:Hid (f.b.all Ref.laid=true):=by show _=_;rw[J.out,hr];rfl
   obtain⟨k0,k1,k2,k3⟩:=B0.out _ H;clear hr J;have bL:(f.b.length:Int)<=k:=by omega
   clear bp;have aq:=dJ (a8.out (bd.out HE.out));have Y:=dJ (a7.out HE.out);by_cases S:0<(AC (n5 f) 0).length
   ·have bs:(0:Int)<((AC (n5 f) 0).length:Int):=by omega
    have aw:Hid ((AC (n5 f) 0).isEmpty=false):=by show _=_;cases hbe:AC (n5 f) 0 with|nil=>(rw[hbe]at S;simp at S)|cons a b=>rfl
    clear S;go_wp2_with (first|(go_at_call 97;refine(aq.out _ (E.trans H)).mono ?_;rintro e d ⟨A1,n1,c1,rfl,O,g1⟩)|(go_at_call 98;refine(Y.out _ _ _ (O.out.gr ((yO _).alloc _)) (by omega) (by omega)).mono ?_;rintro e w2 ⟨A2,bj,rfl,bf,g2⟩;have C:Gr W w2:=H.trans (g1.trans (((yO _).alloc _).trans g2));obtain⟨d0,d1,d2,d3⟩:=B0.out _ C;have ai:=R0.out _ C;have a3:=cell_of_one ai;have bD:=free_of_one ai));refine qe rfl (ep _ _ 2 _ _ false rfl rfl (World.cell?_setCell_same' _ _ _ (by rw[a3];rfl))) ⟨cZ (by rw[HS.out,aw.out];simp),(E.trans C).setCell (by show w.heap.size<=w.heap.size+1;omega) _⟩
   ·have bN:((AC (n5 f) 0).length:Int)<=0:=by omega
    have aw:Hid ((AC (n5 f) 0).isEmpty=true):=by show _=_;rw[yB (show (AC (n5 f) 0).length=0 by omega)];rfl
    clear S;go_wp2_with (first|(go_at_call 97;refine(aq.out _ (E.trans H)).mono ?_;rintro e d ⟨A1,n1,c1,rfl,O,g1⟩)|(go_at_call 98;refine(Y.out _ _ _ (O.out.gr ((yO _).alloc _)) (by omega) (by omega)).mono ?_;rintro e w2 ⟨A2,bj,rfl,bf,g2⟩;have C:Gr W w2:=H.trans (g1.trans (((yO _).alloc _).trans g2));obtain⟨d0,d1,d2,d3⟩:=B0.out _ C;have ai:=R0.out _ C;have a3:=cell_of_one ai;have bD:=free_of_one ai)|(go_at_call 62;refine(a6.out _).mono ?_;rintro e w3 ⟨rfl,rfl⟩));have aP:Hid (Hf f=(zW f).all (FO (n5 f))):=by show _=_;rw[HS.out,HE.out,aw.out];simp
    obtain⟨Z,ab⟩:=xJ (w2.alloc (.cells #[.slice Ap f.p.length cp,.int .i64 f.ret,.slice As f.s.length cs,.slice (some ⟨bb,ob,none⟩) f.b.length cb] 36));have aV:Gr w w2:=E.trans C;have I:Gr w Z:=by rw[<-ab];exact aV.alloc _
    have bT:Z.heap.size<=w2.heap.size+1/\w2.heap.size+1<=Z.heap.size:=by rw[<-ab];simp
    have au:∀o,Z.cell? ⟨w2.heap.size,o,none⟩=(#[.slice Ap f.p.length cp,.int .i64 f.ret,.slice As f.s.length cs,.slice (some ⟨bb,ob,none⟩) f.b.length cb]:Array Value)[o]?:=by intro o;rw[<-ab];exact yo _ _ _ _ _ _ (heap_alloc_new w2 _)
    have R:Gr w2 Z:=by rw[<-ab];exact(yO _).alloc _
    have av:Gr W Z:=C.trans R
    have a5:Hid (∀w',Gr Z w'->w'.heap[d.heap.size]?=some (.cells #[.slice A1 n1 c1] 25 (0,0))):=by
     intro w' q;have h1:d.heap.size<(d.alloc (.cells #[.slice A1 n1 c1] 25)).heap.size:=by simp
     exact((g2.trans (R.trans q)).heap _ h1).trans (heap_alloc_new d _)
    have az:Hid (∀w',Gr Z w'->TabAt w'.heap.size w' (.slice A1 n1 c1) (n5 f)):=fun w' q=>O.out.gr (((yO _).alloc _).trans (g2.trans (R.trans q)));have bS:=E.size;have bU:=I.size
    have bR:d.heap.size<Z.heap.size:=by have h1:=g2.size;have h2:=R.size;simp at h1;omega
    rw[ab];clear d0 d1 d2 d3
    refine gO (w:=w) (f:=f) (q:=10) (Bf:=w2.heap.size) rfl aU I (by omega) (by omega) (au 0) (au 3) (fun X U=>(∀it∈X,FO (n5 f) it=true)/\Gr Z U)
     (fun c X U=>c=.ret/\(∃it∈X,FO (n5 f) it=false)/\Below w.heap.size w U/\U.heap[w.heap.size+1]?=some (.cells #[.bool false] 4 (0,0)))
     (OwnFrom.and (ownFrom_pure _ _) (fP Z)) (fun c=>OwnFrom.and (ownFrom_pure _ _) (OwnFrom.and (ownFrom_pure _ _) (OwnFrom.and (ownFrom_below (yJ _) (by omega)) (eY _ _ _)))) (fun X U h=>h.2.size) ⟨fun it h=>by simp at h,yO _⟩ ?hassign ?hbody ?hdone ?hstop
    case hassign =>
     intro l it aa ta ca ct U K hK;simp only[yF,List.set_cons_succ,List.set_cons_zero,mK,rV]at hK ⊢;gi_wp2;exact hK
    case hbody =>
     rintro l X it aa ta ca ct U Bx ⟨ag,G⟩ a2 aH ae aX bH ak;simp only[yF,List.set_cons_succ,List.set_cons_zero,mK];have aQ:Bx<U.heap.size:=(xY.1 ak).1;have HX:Hid (∀w' o,Gr U w'->w'.cell? ⟨Bx,o,none⟩=(rV it aa ta ca ct)[o]?):=fun w' o q=>(q.cell Bx o aQ).trans (yo _ _ _ _ _ _ ak);have x0:U.cell? ⟨Bx,0,none⟩=some (.int .i64 it.ins.op):=HX.out _ 0 (yO _);have x7:U.cell? ⟨Bx,7,none⟩=some (.int .i64 it.blk):=HX.out _ 7 (yO _);have bK:=cell_of_one (a5.out _ G)
     have aW:(it.blk:Int)<f.b.length:=by obtain⟨lb,e1,e2⟩:=gJ f it ae;have:=(xY.1 (show f.b.toArray[it.blk]?=some lb by simpa using e1)).1;simp at this;omega
     have bF:=dJ ae;clear ae aX ak;by_cases ho:it.ins.op=28
     ·have bq:(it.ins.op != 28)=false:=by simp[ho]
      obtain⟨ev,aA⟩:∃ev,decide (AC (n5 f) it.blk=it.ins.to)=ev:=⟨_,rfl⟩;have am:Hid (FO (n5 f) it=ev):=by show _=_;unfold FO;rw[aA];simp[ho]
      have ba:Hid (∀w' v',IntsAt w'.heap.size w' v' (AC (n5 f) it.blk)->Gr w w'->Calls prog 99 #[v',.slice ta it.ins.to.length ct] w' (RG (.bool ev) w')):=by rw[<-aA];exact fun w' v' h q=>iF v' _ _ _ w' h (aH.gr q)
      clear ho aA;cases ev
      all_goals gi_wp2_with (first|(refine⟨trivial,?_⟩;gi_at_call 98;refine(CallsIn.inRound l (callsIn_wide.2 (Y.out _ _ _ (az.out _ G) (by omega) aW))).mono ?_;rintro e w4 ⟨A4,c4,rfl,bg,g4⟩;have x5:w4.cell? ⟨Bx,5,none⟩=some (.slice ta it.ins.to.length ct):=HX.out _ 5 g4)|(refine⟨trivial,?_⟩;gi_at_call 99;refine(CallsIn.inRound l (callsIn_wide.2 (ba.out _ _ bg.out (I.trans (G.trans g4))))).mono ?_;rintro e w5 ⟨rfl,g5⟩;have aE:=R0.out _ (av.trans (G.trans (g4.trans g5)));have bW:=cell_of_one aE;have bY:=free_of_one aE))
      ·refine⟨((g4.trans g5).keeps.trans (KeepsOthers.setCell _ _ _)).from _,rfl,⟨it,by simp,am.out⟩,?_,?_⟩
       ·exact Below.setCell (I.trans (G.trans (g4.trans g5))) (p:=⟨w.heap.size+1,0,none⟩) (by show w.heap.size<=w.heap.size+1;omega) _
       ·exact cX (i:=0) (.bool false) aE
      ·refine⟨(g4.trans g5).keeps.from _,Below.mono (g4.trans g5) (by have:=I.size;have:=G.size;omega),?_,G.trans (g4.trans g5)⟩;intro aK aB;rcases yz.1 aB with h|h
       ·exact ag aK h
       ·simp at h;subst h;exact am.out
     ·have bq:(it.ins.op != 28)=true:=by simp[ho]
      have am:Hid (FO (n5 f) it=true):=by show _=_;unfold FO;simp[ho]
      clear ho;gi_wp2;refine⟨(KeepsOthers.refl _).from _,Below.refl _ _,?_,G⟩;intro aK aB;rcases yz.1 aB with h|h
      ·exact ag aK h
      ·simp at h;subst h;exact am.out
    case hdone =>
     rintro D U hD ⟨ag,G⟩ hK;have aF:=R0.out _ (av.trans G);have bX:=cell_of_one aF;have bZ:=free_of_one aF;have HT:Hid (Hf f=true):=by show _=_;rw[aP.out];exact ym.2 ag
     have HK:=dJ hK;clear ag hK;go_wp2;refine wR (w0:=w) (Br:=w.heap.size+1) (b:=true) (t:=2) rfl ((KeepsOthers.setCell _ _ _).same D _ HK.out rfl) rfl rfl (cX (i:=0) (.bool true) aF) (Below.setCell (I.trans G) (p:=⟨w.heap.size+1,0,none⟩) (by show w.heap.size<=w.heap.size+1;omega) _) (by omega) ?_;exact fun w' g=>⟨cZ (by rw[HT.out]),g⟩
    case hstop =>
     rintro D c X U hD aZ ⟨rfl,⟨it,hm,aY⟩,hB,bn⟩ hK;have HF:Hid (Hf f=false):=by show _=_;rw[aP.out];exact List.all_eq_false.2 ⟨it,aZ.subset hm,by simp[aY]⟩
     have HK:=dJ hK;clear hK hm aY;go_wp2;refine wR (w0:=w) (Br:=w.heap.size+1) (b:=false) (t:=2) rfl HK.out rfl rfl bn hB (by omega) ?_;exact fun w' g=>⟨cZ (by rw[HF.out]),g⟩
  ·obtain⟨aX,hl,a0⟩:=dr hr;obtain⟨u,hu,bz⟩:=HC.out k l hl;have bx:=((E.trans H).cell _ _ bm).trans hu;obtain⟨Al,cl,rfl,p1,p2,p3⟩:=bz;have HR:Hid (f.b.all Ref.laid=(Ref.laid l && r.all Ref.laid)):=by show _=_;rw[J.out,hr];rfl
   have be:Hid (f.b.drop (k+1)=r):=a0;have P3:=dJ p3;clear hr hl a0 J hu p3;by_cases ad:l.length=0
   ·have n0:((l.length:Int) == 0)=true:=by simp[ad]
    have HE:Hid (Ref.laid l=false):=by show _=_;rw[yB ad];rfl
    clear ad;go_wp2;refine qe rfl (ep _ _ 2 _ _ false rfl rfl (World.cell?_setCell_same' _ _ _ (by rw[rc];rfl))) ⟨cZ (by rw[HS.out,HR.out,HE.out];simp),(E.trans H).setCell (by show w.heap.size<=w.heap.size+1;omega) _⟩
   ·have n0:((l.length:Int) == 0)=false:=by rw[beq_eq_false_iff_ne];omega
    have af:l≠[]:=fun h=>ad (by rw[h];rfl);have ay:Hid (Ref.laid l=Be l true):=rx af;obtain⟨bl,ol,rfl,L,aS⟩:=P3.out (by omega);have ax:=dJ aS;obtain⟨y,hy⟩:∃y,l.getLast?=some y:=⟨_,List.getLast?_eq_some_getLast af⟩;obtain⟨m,hm⟩:∃m,m+1=l.length:=⟨l.length-1,by omega⟩;have aJ:l[m]?=some y:=by rw[List.getLast?_eq_getElem?]at hy;rw[show m=l.length-1 by omega];exact hy
    obtain⟨_,_,y0,-⟩:=ax.out m y aJ;have bE:=((E.trans H).cell _ _ L).trans y0;have wm:(l.length:Int)-1=m:=by omega
    have bO:(m:Int)<l.length:=by omega
    obtain⟨ly,ap⟩:=xJ (Cb y.op);have aM:Hid (∀d,Calls prog 96 #[.int .i64 y.op] d (RS (.bool ly) d)):=by rw[<-ap];exact fun d=>iW y.op d
    have bc:Hid (ly=false->Ref.laid l=false):=fun h=>laid_last hy (by rw[ap,h]);have bi:Hid (l[m]?=some y/\Cb y.op=ly):=⟨aJ,ap⟩;have HM:=dJ hm;clear ad af aS hy hm aJ y0 ap
    cases ly with
    | false =>
     have HE:=dJ (bc.out rfl);go_wp2_with (go_at_call 96;refine(aM.out _).mono ?_;rintro e d ⟨rfl,rfl⟩);refine qe rfl (ep _ _ 2 _ _ false rfl rfl (World.cell?_setCell_same' _ _ _ (by rw[rc];rfl))) ⟨cZ (by rw[HS.out,HR.out,HE.out];simp),(E.trans H).setCell (by show w.heap.size<=w.heap.size+1;omega) _⟩
    | true =>
     go_wp2_with (go_at_call 96;refine(aM.out _).mono ?_;rintro e d ⟨rfl,rfl⟩)
     go_loopw [5,6,36] (fun _ _ i wr=>∃j:Nat,j<=l.length/\i=.int .i64 j/\Gr W wr/\Hid (Be l true=Be (l.drop j) (iA l j))) (fun _ _ i _=>l.length-(intOf i).toNat)
     case atStart=>exact⟨0,yI _,rfl,H,rfl⟩
     case round =>
      obtain⟨j,hj,rfl,B,F⟩:=hrel;obtain⟨wp,rfl⟩:∃wp:World,wp=wr:=⟨_,rfl⟩;have aj:=R0.out _ B;have bB:=cell_of_one aj;have bC:=free_of_one aj;clear bx rc rf bE;rcases hr1:l.drop j with _|⟨x,r1⟩
      ·have bo:=dw hr1 hj;have a9:Hid (Be l true=true):=by show _=_;rw[F.out,hr1];rfl
       subst bo;clear hr1 F;go_wp2;go_roundw;case rel=>exact⟨k+1,by omega,by go_num,B,by (show _=_;rw[HR.out,be.out,ay.out,a9.out];simp)⟩
       case measure=>simp[intOf];omega
      ·obtain⟨bG,hx,ah⟩:=dr hr1;obtain⟨va,vt,i0,i1,i2,i3,i4,i5,a2,aH⟩:=ax.out j x hx;have M:=E.trans B;obtain⟨Aa,ca,rfl,-,-,-⟩:=a2;obtain⟨At,ct,rfl,-,-,-⟩:=aH;have j0:=(M.cell _ _ L).trans i0;have j1:=(M.cell _ _ L).trans i1;have j2:=(M.cell _ _ L).trans i2;have j3:=(M.cell _ _ L).trans i3;have j4:=(M.cell _ _ L).trans i4;have j5:=(M.cell _ _ L).trans i5;have an:Hid (Be l true=((Cb x.op == r1.isEmpty) && (decide (x.op≠28) || iA l j) && Be r1 (decide (x.op=28)))):=by show _=_;rw[F.out,hr1];rfl
       have ar:Hid (Be r1 (decide (x.op=28))=Be (l.drop (j+1)) (iA l (j+1))):=by show _=_;rw[fQ l j x hx,ah]
       have aG:r1.isEmpty=decide ((j:Int)=m):=by
        have h1:r1.length=l.length-(j+1):=by rw[<-ah];simp
        have h2:=HM.out
        cases r1 with
        | nil=>rw[List.length_nil]at h1;simp only[List.isEmpty_nil];symm;rw[decide_eq_true_eq];omega
        | cons a b=>rw[List.length_cons]at h1;simp only[List.isEmpty_cons];symm;rw[decide_eq_false_iff_not];omega
       have HX:Hid (l[j]?=some x):=hx;have bh:Hid (∀j' T,l[j']?=some T->w.cell? ⟨bl,ol+j' * 6,none⟩=some (.int .i64 T.op)):=fun j' T h=>by obtain⟨_,_,i0,-⟩:=ax.out j' T h;exact i0
       have bM:(j:Int)<(l.length:Int):=by omega
       clear hr1 hx ah F i0 i1 i2 i3 i4 i5;obtain⟨ph,br⟩:∃ph,(x.op == 28)=ph:=⟨_,rfl⟩
       have aN:Hid (decide (x.op≠28)=!ph):=by show _=_;rw[<-br];by_cases h:x.op=28<;>simp[h]
       obtain⟨la,aC⟩:=xJ (Cb x.op);have aL:Hid (∀d,Calls prog 96 #[.int .i64 x.op] d (RS (.bool la) d)):=by rw[<-aC];exact fun d=>iW x.op d
       have aT:(((j:Int)<m)/\Hid ((Cb x.op == r1.isEmpty)=!la))\/((m:Int)<=j/\Hid ((Cb x.op == r1.isEmpty)=true)):=by
        rcases Int.lt_or_le (j:Int) m with h|h
        ·refine .inl ⟨h,?_⟩;show _=_;rw[aG,aC,decide_eq_false (by omega)];cases la<;>rfl
        ·refine .inr ⟨h,?_⟩;show _=_;have ac:j=m:=by have:=HM.out;omega
         have e1:=bi.out;rw[<-ac,HX.out]at e1;obtain⟨e1,e2⟩:=e1;cases e1;rw[aG,e2,decide_eq_true (by omega)];rfl
       clear aG aC;have a4:∀o,(wp.alloc o).cell? ⟨w.heap.size+1,0,none⟩=some (.bool false):=fun o=>cell_of_one (R0.out _ (B.alloc o));have b0:∀o,(wp.alloc o).frozen? ⟨w.heap.size+1,0,none⟩=false:=fun o=>free_of_one (R0.out _ (B.alloc o));clear bB bC aj;rcases (by omega:j=0\/0<j) with ao|ao
       ·have al:Hid (iA l j=true):=by show _=_;rw[ao];rfl
        have hz:(j:Int)<=0:=by omega
        clear ao;rcases aT with ⟨ac,N⟩|⟨ac,N⟩;all_goals cases la
        all_goals cases ph
        all_goals go_wp2_with (go_at_call 96;refine(aL.out _).mono ?_;rintro e d ⟨rfl,rfl⟩)
        all_goals first
         | (go_roundw
            case rel=>exact⟨j+1,by omega,by go_num,B.alloc _,by (show _=_;rw[an.out,N.out,al.out,ar.out];simp)⟩
            case measure=>simp[intOf];omega)
         | (refine qe rfl (ep _ _ 2 _ _ false rfl rfl (World.cell?_setCell_same' _ _ _ (by rw[a4 _];rfl))) ⟨cZ (by rw[HS.out,HR.out,ay.out,an.out,N.out];simp),((E.trans B).alloc _).setCell (by show w.heap.size<=w.heap.size+1;omega) _⟩)
       ·obtain⟨p,hp⟩:∃p,p+1=j:=⟨j-1,by omega⟩;obtain⟨T,aI⟩:∃T,l[p]?=some T:=⟨l[p]'(by omega),xR (by omega)⟩;have jp:=(M.cell _ _ L).trans (bh.out p T aI);have bV:∀o,(wp.alloc o).cell? ⟨bl,ol+p*6,none⟩=some (.int .i64 T.op):=fun o=>(((yO wp).alloc o).cell bl _ (by have:=M.size;omega)).trans jp;have al:Hid (iA l j=decide (T.op=28)):=by show _=_;rw[<-hp];exact fQ l p T aI
        obtain⟨pp,aD⟩:∃pp,(T.op == 28)=pp:=⟨_,rfl⟩;have bQ:(T.op != 28)=!pp:=by rw[bne,aD]
        have aO:Hid (decide (T.op=28)=pp):=by show _=_;rw[<-aD];rfl
        have wj:(j:Int)-1=p:=by omega
        have hz:(0:Int)<j:=by omega
        have bP:(p:Int)<(l.length:Int):=by omega
        clear aI ao hp aD jp;rcases aT with ⟨ac,N⟩|⟨ac,N⟩;all_goals cases la
        all_goals cases ph
        all_goals cases pp
        all_goals go_wp2_with (go_at_call 96;refine(aL.out _).mono ?_;rintro e d ⟨rfl,rfl⟩)
        all_goals first
         | (go_roundw
            case rel=>exact⟨j+1,by omega,by go_num,B.alloc _,by (show _=_;rw[an.out,N.out,al.out,aO.out,aN.out,ar.out];simp)⟩
            case measure=>simp[intOf];omega)
         | (refine qe rfl (ep _ _ 2 _ _ false rfl rfl (World.cell?_setCell_same' _ _ _ (by rw[a4 _];rfl))) ⟨cZ (by rw[HS.out,HR.out,ay.out,an.out,N.out,al.out,aO.out,aN.out];simp),((E.trans B).alloc _).setCell (by show w.heap.size<=w.heap.size+1;omega) _⟩)
end

/- Parts. -/
import Derived.Test.YthfjdhanbegaoaaGreatDoorT14
import Derived.Test.YthfjdhanbegaoaaGreatDoorT16
import Derived.Test.YthfjdhanbegaoaaGreatDoorT12
set_option linter.unusedSimpArgs false
set_option linter.unusedVariables false
set_option maxRecDepth 100000
set_option maxHeartbeats 16000000
open Go.Proofs.Tryz
namespace Go.Proofs.YthfjdhanbegaoaaGreatDoor
section
open Go.RowKit
theorem ip {l:List Ins}(h:Ref.laid l=true):l≠[]:=by intro e;subst e;simp[Ref.laid]at h
theorem iz {f:Fn}(h:Ref.rules f=true):∀l∈f.blocks,l≠[]:=by intro l d;unfold Ref.rules at h;simp only[pD]at h;exact ip (pw.1 h.1.1 l d)
theorem jT {f:Fn}(h:f.blocks.all (fun l=>l.all (Ref.argument f))=true):∀l∈f.blocks,∀x∈l,Ref.argument f x=true :=
 fun l d x g=>pw.1 (pw.1 h l d) x g
theorem nt (v:Value)(f:Fn)(w:World)(hf:FnAt w.heap.size w v f)(hs:f.blocks.length<=100000)(hln:Hid (∀l∈f.blocks,l.length<=100000))(hwf:Hid (∀l∈f.blocks,∀x∈l,WfI x)) :
  Calls prog 30 #[v] w (RG (.int .i64 (Ref.validate f)) w):=by
 have ab:=hf;obtain⟨vp,vs,vb,rfl,hp,a2,hb⟩:=hf;obtain⟨V,cp,rfl,a9,ba,aG⟩:=hp;obtain⟨X,cs,rfl,bc,bd,aI⟩:=a2;obtain⟨Ab,Z,rfl,a6,a7,aD⟩:=hb;by_cases aq:3<f.params.length\/2<f.slots.length\/f.blocks.length<1\/10<f.blocks.length
 ·have hV:Hid (Ref.validate f=3):=by show _=_;unfold Ref.validate;rw[pB aq]
  have p:Gr w (w.alloc (.cells #[.slice V f.params.length cp,.int .i64 f.ret,.slice X f.slots.length cs,.slice Ab f.blocks.length Z] 25)):=(qj _).alloc _;clear aG aI aD ab
  go_enter func30, ntmps30
  go_wp2;all_goals first|omega|(go_ret;exact⟨df (by rw[hV.out]),p⟩)
 obtain⟨K,M,rfl,T,aa⟩:=aD (by omega);obtain⟨W,hW⟩:=xJ (w.alloc (.cells #[.slice V f.params.length cp,.int .i64 f.ret,.slice X f.slots.length cs,.slice (some ⟨K,M,none⟩) f.blocks.length Z] 25));have p:Gr w W:=by rw[<-hW];exact(qj w).alloc _
 have a5:W.heap.size=w.heap.size+1:=by rw[<-hW];simp
 have b0:∀o,W.cell? ⟨w.heap.size,o,none⟩=(#[.slice V f.params.length cp,.int .i64 f.ret,.slice X f.slots.length cs,.slice (some ⟨K,M,none⟩) f.blocks.length Z]:Array Value)[o]?:=by intro o;rw[<-hW];exact px _ _ _ _ _ _ (heap_alloc_new w _)
 have Y:Hid (∀w',Gr W w'->w'.cell? ⟨w.heap.size,0,none⟩=some (.slice V f.params.length cp)/\w'.cell? ⟨w.heap.size,1,none⟩=some (.int .i64 f.ret)/\w'.cell? ⟨w.heap.size,2,none⟩=some (.slice X f.slots.length cs)/\w'.cell? ⟨w.heap.size,3,none⟩=some (.slice (some ⟨K,M,none⟩) f.blocks.length Z)) :=
  fun w' g=>⟨(g.cell w.heap.size 0 (by omega)).trans (b0 0),(g.cell w.heap.size 1 (by omega)).trans (b0 1),(g.cell w.heap.size 2 (by omega)).trans (b0 2),(g.cell w.heap.size 3 (by omega)).trans (b0 3)⟩
 have av:Hid (Ref.validate f=if 40<Ref.total f.blocks then 3 else if f.ret<0\/32<f.ret then 1 else if f.params.all Ref.isWidth=false then 1 else if f.slots.all Ref.isSlot=false then 1 else if f.blocks.all (fun l=>l.all (Ref.argument f))=false then 1 else if Ref.rules f=false then 7 else if f.blocks.all (fun l=>l.all (Ref.typed f))=false then 6 else if Ref.stated f=false then 9 else 0):=by show _=_;unfold Ref.validate;rw[pC aq]
 have aT:Hid (∀l∈f.blocks,∀x∈l,∀A vx,Gr w A->jS A.heap.size A vx x->Calls prog 59 #[.agg #[.slice V f.params.length cp,.int .i64 f.ret,.slice X f.slots.length cs,.slice (some ⟨K,M,none⟩) f.blocks.length Z],vx] A (RG (.bool (Ref.argument f x)) A)) :=
  fun l I x hx A vx g1 h=>iG f x _ vx A (ab.gr g1) h (hwf.out l I x hx).1.1 (hwf.out l I x hx).1.2
 have aW:Hid ((∀l∈f.blocks,∀x∈l,Ref.argument f x=true)->∀l∈f.blocks,∀x∈l,∀A vx,Gr w A->jS A.heap.size A vx x->Calls prog 61 #[.agg #[.slice V f.params.length cp,.int .i64 f.ret,.slice X f.slots.length cs,.slice (some ⟨K,M,none⟩) f.blocks.length Z],vx] A (RG (.bool (Ref.typed f x)) A)) :=
  fun hA l I x hx A vx g1 h=>mI f x _ vx A (ab.gr g1) h hs (hwf.out l I x hx).2.2.1 (hwf.out l I x hx).2.1 (hA l I x hx)
 have aU:Hid (∀A,Gr w A->Calls prog 60 #[.agg #[.slice V f.params.length cp,.int .i64 f.ret,.slice X f.slots.length cs,.slice (some ⟨K,M,none⟩) f.blocks.length Z]] A (RG (.bool (Ref.rules f)) A)) :=
  fun A g1=>mo _ f A (ab.gr g1) (by omega) hs hln
 have aV:Hid ((∀l∈f.blocks,∀x∈l,Ref.argument f x=true)->(∀l∈f.blocks,l≠[])->∀A,Gr w A->Calls prog 62 #[.agg #[.slice V f.params.length cp,.int .i64 f.ret,.slice X f.slots.length cs,.slice (some ⟨K,M,none⟩) f.blocks.length Z]] A (RG (.bool (Ref.stated f)) A)) :=
  fun hA a1 A g1=>kS _ f A (ab.gr g1) (by omega) hs hA a1 hwf
 obtain⟨k0,k1,k2,k3⟩:=Y.out W (qj _);have HC:=dJ aa;have aN:=dJ aG;have aO:=dJ aI;have z1:(f.params.length:Int)<=3:=by omega
 have z2:(f.slots.length:Int)<=2:=by omega
 have z3:(1:Int)<=f.blocks.length:=by omega
 have z4:(f.blocks.length:Int)<=10:=by omega
 clear b0 aa aD ab aG aI
 go_enter func30, ntmps30
 go_wp2
 go_loop [3,4] (fun s b=>∃k N:Nat,k<=f.blocks.length/\b=.int .i64 k/\s=.int .i64 N/\N<=100000*k/\Hid (N=Ref.total (f.blocks.take k))) (fun _ b=>f.blocks.length-(intOf b).toNat)
 case atStart=>exact⟨0,0,pR _,rfl,rfl,by omega,by show _=_;simp[Ref.total]⟩
 case round =>
  obtain⟨k,N,hk,rfl,rfl,hN,d⟩:=hrel;by_cases aF:k<f.blocks.length
  ·obtain⟨l,I⟩:∃l,f.blocks[k]?=some l:=⟨f.blocks[k],by simp[aF]⟩;obtain⟨u,hu,ak⟩:=HC.out k l I;have ao:=(p.cell _ _ T).trans hu;obtain⟨Al,cl,rfl,p1,p2,p3⟩:=ak;have a8:l.length<=100000:=hln.out l (pa I)
   have HL:Hid (Ref.total (f.blocks.take (k+1))=Ref.total (f.blocks.take k)+l.length):=by show _=_;rw[Ref.total_take_succ _ _ _ I]
   clear I hu p3;go_wp2;go_round;case rel=>exact⟨k+1,N+l.length,by omega,by go_num,by go_num,by omega,by show _=_;rw[HL.out,d.out]⟩
   case measure=>simp[intOf];omega
  ·obtain rfl:k=f.blocks.length:=by omega
   have HN:Hid (N=Ref.total f.blocks):=by have:=d.out;rw[pE]at this;exact this
   clear d;by_cases aP:40<N
   ·have hV:Hid (Ref.validate f=3):=by show _=_;rw[av.out,pB (by rw[<-HN.out];exact aP)]
    go_wp2;go_ret;exact⟨df (by rw[hV.out]),p⟩
   have aw:Hid (Ref.validate f=if f.ret<0\/32<f.ret then 1 else if f.params.all Ref.isWidth=false then 1 else if f.slots.all Ref.isSlot=false then 1 else if f.blocks.all (fun l=>l.all (Ref.argument f))=false then 1 else if Ref.rules f=false then 7 else if f.blocks.all (fun l=>l.all (Ref.typed f))=false then 6 else if Ref.stated f=false then 9 else 0):=by show _=_;rw[av.out,pC (by rw[<-HN.out];exact aP)]
   clear av;by_cases ar:f.ret<0\/32<f.ret
   ·have hV:Hid (Ref.validate f=1):=by show _=_;rw[aw.out,pB ar]
    go_wp2;all_goals first|omega|(go_ret;exact⟨df (by rw[hV.out]),p⟩)
   have ax:Hid (Ref.validate f=if f.params.all Ref.isWidth=false then 1 else if f.slots.all Ref.isSlot=false then 1 else if f.blocks.all (fun l=>l.all (Ref.argument f))=false then 1 else if Ref.rules f=false then 7 else if f.blocks.all (fun l=>l.all (Ref.typed f))=false then 6 else if Ref.stated f=false then 9 else 0):=by show _=_;rw[aw.out,pC ar]
   have r1:0<=f.ret:=by omega
   have r2:f.ret<=32:=by omega
   clear aw;go_wp2
   go_loop [5] (fun b=>∃k:Nat,k<=f.params.length/\b=.int .i64 k/\Hid (f.params.all Ref.isWidth=(f.params.drop k).all Ref.isWidth)) (fun b=>f.params.length-(intOf b).toNat)
   case atStart=>exact⟨0,pR _,rfl,rfl⟩
   case round =>
    obtain⟨k,hk,rfl,d⟩:=hrel;rcases hr:f.params.drop k with _|⟨z,r⟩
    ·have U:=dm hr hk
     have ay:Hid (Ref.validate f=if f.slots.all Ref.isSlot=false then 1 else if f.blocks.all (fun l=>l.all (Ref.argument f))=false then 1 else if Ref.rules f=false then 7 else if f.blocks.all (fun l=>l.all (Ref.typed f))=false then 6 else if Ref.stated f=false then 9 else 0):=by show _=_;rw[ax.out,pC (by rw[d.out,hr];simp)]
     subst U;clear hr d ax;go_wp2
     go_loop [6] (fun b=>∃k:Nat,k<=f.slots.length/\b=.int .i64 k/\Hid (f.slots.all Ref.isSlot=(f.slots.drop k).all Ref.isSlot)) (fun b=>f.slots.length-(intOf b).toNat)
     case atStart=>exact⟨0,pR _,rfl,rfl⟩
     case round =>
      obtain⟨k,hk,rfl,d⟩:=hrel;rcases hr:f.slots.drop k with _|⟨z,r⟩
      ·have U:=dm hr hk
       have az:Hid (Ref.validate f=if f.blocks.all (fun l=>l.all (Ref.argument f))=false then 1 else if Ref.rules f=false then 7 else if f.blocks.all (fun l=>l.all (Ref.typed f))=false then 6 else if Ref.stated f=false then 9 else 0):=by show _=_;rw[ay.out,pC (by rw[d.out,hr];simp)]
       subst U;clear hr d ay;go_wp2
       go_loopw [7,8] (fun b _ wr=>∃k:Nat,k<=f.blocks.length/\b=.int .i64 k/\Gr W wr/\Hid (f.blocks.all (fun l=>l.all (Ref.argument f))=(f.blocks.drop k).all (fun l=>l.all (Ref.argument f)))) (fun b _ _=>f.blocks.length-(intOf b).toNat)
       case atStart=>exact⟨0,pR _,rfl,qj _,rfl⟩
       case round =>
        obtain⟨k,hk,rfl,ah,d⟩:=hrel;obtain⟨wo,rfl⟩:∃wo:World,wo=wr:=⟨_,rfl⟩;have E:=(qj W).trans ah;obtain⟨c0,c1,c2,c3⟩:=Y.out _ E;clear k0 k1 k2 k3;rcases hr:f.blocks.drop k with _|⟨l,r⟩
        ·have U:=dm hr hk;have J:Hid (f.blocks.all (fun l=>l.all (Ref.argument f))=true):=by show _=_;rw[d.out,hr];rfl
         subst U;clear hr d;have an:Hid (Ref.validate f=if Ref.rules f=false then 7 else if f.blocks.all (fun l=>l.all (Ref.typed f))=false then 6 else if Ref.stated f=false then 9 else 0):=by show _=_;rw[az.out,pC (by rw[J.out];simp)]
         have ap:=dJ (jT J.out);obtain⟨ru,aH⟩:=xJ (Ref.rules f);have ac:=dJ (aU.out _ (p.trans E));have aY:=dJ aH;rw[aH]at an ac;clear aH az J
         cases ru with
         | false =>
          go_wp2_with (go_at_call 60;refine ac.out.mono ?_;rintro e w2 ⟨rfl,au⟩);go_ret;exact⟨df (by rw[an.out];simp),p.trans (E.trans au)⟩
         | true =>
          have aX:=dJ (iz aY.out);have aA:Hid (Ref.validate f=if f.blocks.all (fun l=>l.all (Ref.typed f))=false then 6 else if Ref.stated f=false then 9 else 0):=by show _=_;rw[an.out,pC (by simp)]
          have aL:=dJ (aW.out ap.out);clear an;go_wp2_with (go_at_call 60;refine ac.out.mono ?_;rintro e w2 ⟨rfl,au⟩);have aC:Gr W w2:=E.trans au;obtain⟨k0,k1,k2,k3⟩:=Y.out _ aC;clear c0 c1 c2 c3
          go_loopw [9,10] (fun b _ wr=>∃k:Nat,k<=f.blocks.length/\b=.int .i64 k/\Gr w2 wr/\Hid (f.blocks.all (fun l=>l.all (Ref.typed f))=(f.blocks.drop k).all (fun l=>l.all (Ref.typed f)))) (fun b _ _=>f.blocks.length-(intOf b).toNat)
          case atStart=>exact⟨0,pR _,rfl,qj _,rfl⟩
          case round =>
           obtain⟨k,hk,rfl,ah,d⟩:=hrel;obtain⟨wo,rfl⟩:∃wo:World,wo=wr:=⟨_,rfl⟩;have E:=aC.trans ah;obtain⟨c0,c1,c2,c3⟩:=Y.out _ E;clear k0 k1 k2 k3;rcases hr:f.blocks.drop k with _|⟨l,r⟩
           ·have U:=dm hr hk;have J:Hid (f.blocks.all (fun l=>l.all (Ref.typed f))=true):=by show _=_;rw[d.out,hr];rfl
            subst U;clear hr d;have aB:Hid (Ref.validate f=if Ref.stated f=false then 9 else 0):=by show _=_;rw[aA.out,pC (by rw[J.out];simp)]
            obtain⟨st,aJ⟩:=xJ (Ref.stated f);rw[aJ]at aB;have ad:=dJ (aV.out ap.out aX.out _ (p.trans E));rw[aJ]at ad;clear aJ aA
            cases st with
            | true =>
             go_wp2_with (go_at_call 62;refine ad.out.mono ?_;rintro e w3 ⟨rfl,R⟩);go_ret;exact⟨df (by rw[aB.out];simp),p.trans (E.trans R)⟩
            | false =>
             go_wp2_with (go_at_call 62;refine ad.out.mono ?_;rintro e w3 ⟨rfl,R⟩);go_ret;exact⟨df (by rw[aB.out];simp),p.trans (E.trans R)⟩
           ·obtain⟨aF,I,G⟩:=dj hr;obtain⟨u,hu,ak⟩:=HC.out k l I;have ao:=((p.trans E).cell _ _ T).trans hu;obtain⟨Al,cl,rfl,p1,p2,p3⟩:=ak;have P3:=dJ p3;have HU:=dJ hu;have HL:Hid (l∈f.blocks):=pa I;have HR:Hid (f.blocks.all (fun l=>l.all (Ref.typed f))=(l.all (Ref.typed f) && r.all (fun l=>l.all (Ref.typed f)))):=by show _=_;rw[d.out,hr];rfl
            have O:Hid (f.blocks.drop (k+1)=r):=G;clear hr I G d hu p3;go_wp2
            go_loopw [10] (fun i wr=>∃j:Nat,j<=l.length/\i=.int .i64 j/\Gr w2 wr/\Hid (l.all (Ref.typed f)=(l.drop j).all (Ref.typed f))) (fun i _=>l.length-(intOf i).toNat)
            case atStart=>exact⟨0,pR _,rfl,ah,rfl⟩
            case round =>
             obtain⟨j,hj,rfl,F,m⟩:=hrel;obtain⟨wp,rfl⟩:∃wp:World,wp=wr:=⟨_,rfl⟩;have B:=aC.trans F;obtain⟨d0,d1,d2,d3⟩:=Y.out _ B;have a3:=((p.trans B).cell _ _ T).trans HU.out;clear c0 c1 c2 c3 ao;rcases hr2:l.drop j with _|⟨x,r2⟩
             ·have aE:=dm hr2 hj;have HE:Hid (l.all (Ref.typed f)=true):=by show _=_;rw[m.out,hr2];rfl
              subst aE;clear hr2 m;go_wp2;go_roundw;case rel=>exact⟨k+1,by omega,by go_num,F,by (show _=_;rw[HR.out,O.out,HE.out];simp)⟩
              case measure=>simp[intOf];omega
             ·obtain⟨ai,hx,L⟩:=dj hr2;obtain⟨t,y,rfl,D,ag⟩:=P3.out (by omega);obtain⟨va,vt,i0,i1,i2,i3,i4,i5,al,am⟩:=ag j x hx;have Q:Hid (l.all (Ref.typed f)=(Ref.typed f x && r2.all (Ref.typed f))):=by show _=_;rw[m.out,hr2];rfl
              have af:Hid (l.drop (j+1)=r2):=L;have H:=p.trans B;have HX:Hid (x∈l):=pa hx;have kp:Hid (∀w',Gr wp w'->(w'.cell? ⟨w.heap.size,0,none⟩=some (.slice V f.params.length cp)/\w'.cell? ⟨w.heap.size,1,none⟩=some (.int .i64 f.ret)/\w'.cell? ⟨w.heap.size,2,none⟩=some (.slice X f.slots.length cs)/\w'.cell? ⟨w.heap.size,3,none⟩=some (.slice (some ⟨K,M,none⟩) f.blocks.length Z)/\w'.cell? ⟨K,M+k,none⟩=some (.slice (some ⟨t,y,none⟩) l.length cl)/\w'.cell? ⟨t,y+j*6,none⟩=some (.int .i64 x.op)/\w'.cell? ⟨t,y+j*6+1,none⟩=some (.int .i64 x.width)/\w'.cell? ⟨t,y+j*6+2,none⟩=some (.int .i64 x.flags)/\w'.cell? ⟨t,y+j*6+3,none⟩=some va/\w'.cell? ⟨t,y+j*6+4,none⟩=some (.int .u32 x.imm)/\w'.cell? ⟨t,y+j*6+5,none⟩=some vt)):=fun w' q=>⟨(Y.out w' (B.trans q)).1,(Y.out w' (B.trans q)).2.1,(Y.out w' (B.trans q)).2.2.1,(Y.out w' (B.trans q)).2.2.2,((H.trans q).cell _ _ T).trans HU.out,((H.trans q).cell t (y+j*6) D).trans i0,((H.trans q).cell t (y+j*6+1) D).trans i1,((H.trans q).cell t (y+j*6+2) D).trans i2,((H.trans q).cell t (y+j*6+3) D).trans i3,((H.trans q).cell t (y+j*6+4) D).trans i4,((H.trans q).cell t (y+j*6+5) D).trans i5⟩
              have ae:Hid (∀A,Gr wp A->Calls prog 61 #[.agg #[.slice V f.params.length cp,.int .i64 f.ret,.slice X f.slots.length cs,.slice (some ⟨K,M,none⟩) f.blocks.length Z],.agg #[.int .i64 x.op,.int .i64 x.width,.int .i64 x.flags,va,.int .u32 x.imm,vt]] A (RG (.bool (Ref.typed f x)) A)) :=
               fun A q=>aL.out l HL.out x HX.out A _ (H.trans q) ⟨va,vt,rfl,al.gr (H.trans q),am.gr (H.trans q)⟩
              obtain⟨th,aj⟩:=xJ (Ref.typed f x);rw[aj]at ae Q;obtain⟨-,-,-,-,-,e0,e1,e2,e3,e4,e5⟩:=kp.out _ (qj wp);clear hr2 hx L m ag aj i0 i1 i2 i3 i4 i5 al am;go_wp2
              go_region_held3 (fun w'=>w'.cell? ⟨w.heap.size,0,none⟩=some (.slice V f.params.length cp)/\w'.cell? ⟨w.heap.size,1,none⟩=some (.int .i64 f.ret)/\w'.cell? ⟨w.heap.size,2,none⟩=some (.slice X f.slots.length cs)/\w'.cell? ⟨w.heap.size,3,none⟩=some (.slice (some ⟨K,M,none⟩) f.blocks.length Z)/\w'.cell? ⟨K,M+k,none⟩=some (.slice (some ⟨t,y,none⟩) l.length cl)/\w'.cell? ⟨t,y+j*6,none⟩=some (.int .i64 x.op)/\w'.cell? ⟨t,y+j*6+1,none⟩=some (.int .i64 x.width)/\w'.cell? ⟨t,y+j*6+2,none⟩=some (.int .i64 x.flags)/\w'.cell? ⟨t,y+j*6+3,none⟩=some va/\w'.cell? ⟨t,y+j*6+4,none⟩=some (.int .u32 x.imm)/\w'.cell? ⟨t,y+j*6+5,none⟩=some vt) (first|exact kp.out _ (qj wp).drew|exact kp.out _ g3) (first|(go_at_call 61;refine(ae.out _ (qj wp).drew).mono ?_;rintro e w3 ⟨rfl,R⟩;have g3:Gr wp w3:=(qj wp).drew.trans R))
              cases th with
              | true =>
               go_wp2;go_roundw;case rel=>exact⟨j+1,by omega,by go_num,F.trans g3,by (show _=_;rw[Q.out,af.out];simp)⟩
               case measure=>simp[intOf];omega
              | false =>
               have hV:Hid (Ref.validate f=6):=by show _=_;rw[aA.out,pB (by rw[HR.out,Q.out];simp)]
               go_wp2;go_ret;exact⟨df (by rw[hV.out]),p.trans (B.trans g3)⟩
        ·obtain⟨aF,I,G⟩:=dj hr;obtain⟨u,hu,ak⟩:=HC.out k l I;have ao:=((p.trans E).cell _ _ T).trans hu;obtain⟨Al,cl,rfl,p1,p2,p3⟩:=ak;have P3:=dJ p3;have HU:=dJ hu;have HL:Hid (l∈f.blocks):=pa I;have HR:Hid (f.blocks.all (fun l=>l.all (Ref.argument f))=(l.all (Ref.argument f) && r.all (fun l=>l.all (Ref.argument f)))):=by show _=_;rw[d.out,hr];rfl
         have O:Hid (f.blocks.drop (k+1)=r):=G;clear hr I G d hu p3;go_wp2
         go_loopw [8] (fun i wr=>∃j:Nat,j<=l.length/\i=.int .i64 j/\Gr W wr/\Hid (l.all (Ref.argument f)=(l.drop j).all (Ref.argument f))) (fun i _=>l.length-(intOf i).toNat)
         case atStart=>exact⟨0,pR _,rfl,ah,rfl⟩
         case round =>
          obtain⟨j,hj,rfl,F,m⟩:=hrel;obtain⟨wp,rfl⟩:∃wp:World,wp=wr:=⟨_,rfl⟩;have B:=(qj W).trans F;obtain⟨d0,d1,d2,d3⟩:=Y.out _ B;have a3:=((p.trans B).cell _ _ T).trans HU.out;clear c0 c1 c2 c3 ao;rcases hr2:l.drop j with _|⟨x,r2⟩
          ·have aE:=dm hr2 hj;have HE:Hid (l.all (Ref.argument f)=true):=by show _=_;rw[m.out,hr2];rfl
           subst aE;clear hr2 m;go_wp2;go_roundw;case rel=>exact⟨k+1,by omega,by go_num,F,by (show _=_;rw[HR.out,O.out,HE.out];simp)⟩
           case measure=>simp[intOf];omega
          ·obtain⟨ai,hx,L⟩:=dj hr2;obtain⟨t,y,rfl,D,ag⟩:=P3.out (by omega);obtain⟨va,vt,i0,i1,i2,i3,i4,i5,al,am⟩:=ag j x hx;have Q:Hid (l.all (Ref.argument f)=(Ref.argument f x && r2.all (Ref.argument f))):=by show _=_;rw[m.out,hr2];rfl
           have af:Hid (l.drop (j+1)=r2):=L;have H:=p.trans B;have HX:Hid (x∈l):=pa hx;have kp:Hid (∀w',Gr wp w'->(w'.cell? ⟨w.heap.size,0,none⟩=some (.slice V f.params.length cp)/\w'.cell? ⟨w.heap.size,1,none⟩=some (.int .i64 f.ret)/\w'.cell? ⟨w.heap.size,2,none⟩=some (.slice X f.slots.length cs)/\w'.cell? ⟨w.heap.size,3,none⟩=some (.slice (some ⟨K,M,none⟩) f.blocks.length Z)/\w'.cell? ⟨K,M+k,none⟩=some (.slice (some ⟨t,y,none⟩) l.length cl)/\w'.cell? ⟨t,y+j*6,none⟩=some (.int .i64 x.op)/\w'.cell? ⟨t,y+j*6+1,none⟩=some (.int .i64 x.width)/\w'.cell? ⟨t,y+j*6+2,none⟩=some (.int .i64 x.flags)/\w'.cell? ⟨t,y+j*6+3,none⟩=some va/\w'.cell? ⟨t,y+j*6+4,none⟩=some (.int .u32 x.imm)/\w'.cell? ⟨t,y+j*6+5,none⟩=some vt)):=fun w' q=>⟨(Y.out w' (B.trans q)).1,(Y.out w' (B.trans q)).2.1,(Y.out w' (B.trans q)).2.2.1,(Y.out w' (B.trans q)).2.2.2,((H.trans q).cell _ _ T).trans HU.out,((H.trans q).cell t (y+j*6) D).trans i0,((H.trans q).cell t (y+j*6+1) D).trans i1,((H.trans q).cell t (y+j*6+2) D).trans i2,((H.trans q).cell t (y+j*6+3) D).trans i3,((H.trans q).cell t (y+j*6+4) D).trans i4,((H.trans q).cell t (y+j*6+5) D).trans i5⟩
           have ae:Hid (∀A,Gr wp A->Calls prog 59 #[.agg #[.slice V f.params.length cp,.int .i64 f.ret,.slice X f.slots.length cs,.slice (some ⟨K,M,none⟩) f.blocks.length Z],.agg #[.int .i64 x.op,.int .i64 x.width,.int .i64 x.flags,va,.int .u32 x.imm,vt]] A (RG (.bool (Ref.argument f x)) A)) :=
            fun A q=>aT.out l HL.out x HX.out A _ (H.trans q) ⟨va,vt,rfl,al.gr (H.trans q),am.gr (H.trans q)⟩
           obtain⟨th,aj⟩:=xJ (Ref.argument f x);rw[aj]at ae Q;obtain⟨-,-,-,-,-,e0,e1,e2,e3,e4,e5⟩:=kp.out _ (qj wp);clear hr2 hx L m ag aj i0 i1 i2 i3 i4 i5 al am;go_wp2
           go_region_held3 (fun w'=>w'.cell? ⟨w.heap.size,0,none⟩=some (.slice V f.params.length cp)/\w'.cell? ⟨w.heap.size,1,none⟩=some (.int .i64 f.ret)/\w'.cell? ⟨w.heap.size,2,none⟩=some (.slice X f.slots.length cs)/\w'.cell? ⟨w.heap.size,3,none⟩=some (.slice (some ⟨K,M,none⟩) f.blocks.length Z)/\w'.cell? ⟨K,M+k,none⟩=some (.slice (some ⟨t,y,none⟩) l.length cl)/\w'.cell? ⟨t,y+j*6,none⟩=some (.int .i64 x.op)/\w'.cell? ⟨t,y+j*6+1,none⟩=some (.int .i64 x.width)/\w'.cell? ⟨t,y+j*6+2,none⟩=some (.int .i64 x.flags)/\w'.cell? ⟨t,y+j*6+3,none⟩=some va/\w'.cell? ⟨t,y+j*6+4,none⟩=some (.int .u32 x.imm)/\w'.cell? ⟨t,y+j*6+5,none⟩=some vt) (first|exact kp.out _ (qj wp).drew|exact kp.out _ g3) (first|(go_at_call 59;refine(ae.out _ (qj wp).drew).mono ?_;rintro e w3 ⟨rfl,R⟩;have g3:Gr wp w3:=(qj wp).drew.trans R))
           cases th with
           | true =>
            go_wp2;go_roundw;case rel=>exact⟨j+1,by omega,by go_num,F.trans g3,by (show _=_;rw[Q.out,af.out];simp)⟩
            case measure=>simp[intOf];omega
           | false =>
            have hV:Hid (Ref.validate f=1):=by show _=_;rw[az.out,pB (by rw[HR.out,Q.out];simp)]
            go_wp2;go_ret;exact⟨df (by rw[hV.out]),p.trans (B.trans g3)⟩
      ·obtain⟨ai,hz,G⟩:=dj hr;obtain⟨bs,os,rfl,a0,aR⟩:=aO.out (by omega);have a4:=(p.cell _ _ a0).trans (aR k z hz);have HR:Hid (f.slots.all Ref.isSlot=(Ref.isSlot z && r.all Ref.isSlot)):=by show _=_;rw[d.out,hr];rfl
       have O:Hid (f.slots.drop (k+1)=r):=G;clear hr hz G d aR aO;by_cases aK:1<=z/\z<=8
       ·have e1:1<=z:=aK.1;have e2:z<=8:=aK.2;have HI:Hid (Ref.isSlot z=true):=by show _=_;simp[Ref.isSlot,e1,e2]
        clear aK;go_wp2;go_round;case rel=>exact⟨k+1,by omega,by go_num,by (show _=_;rw[HR.out,O.out,HI.out];simp)⟩
        case measure=>simp[intOf];omega
       ·have HI:Hid (Ref.isSlot z=false):=by show _=_;simp[Ref.isSlot];omega
        have hV:Hid (Ref.validate f=1):=by show _=_;rw[ay.out,pB (by rw[HR.out,HI.out];simp)]
        go_wp2;all_goals first|omega|(go_ret;exact⟨df (by rw[hV.out]),p⟩)
    ·obtain⟨ai,hz,G⟩:=dj hr;obtain⟨bp,op,rfl,aZ,aQ⟩:=aN.out (by omega);have a4:=(p.cell _ _ aZ).trans (aQ k z hz);have HR:Hid (f.params.all Ref.isWidth=(Ref.isWidth z && r.all Ref.isWidth)):=by show _=_;rw[d.out,hr];rfl
     have O:Hid (f.params.drop (k+1)=r):=G;clear hr hz G d aQ aN;obtain⟨iw,aS⟩:=xJ (Ref.isWidth z);have C:=dD z W;rw[aS]at HR C;have aM:=dJ C;clear C aS
     cases iw with
     | true =>
      go_wp2_with (go_at_call 58;refine aM.out.mono ?_;rintro e A ⟨rfl,rfl⟩);go_round;case rel=>exact⟨k+1,by omega,by go_num,by (show _=_;rw[HR.out,O.out];simp)⟩
      case measure=>simp[intOf];omega
     | false =>
      have hV:Hid (Ref.validate f=1):=by show _=_;rw[ax.out,pB (by rw[HR.out];simp)]
      go_wp2_with (go_at_call 58;refine aM.out.mono ?_;rintro e A ⟨rfl,rfl⟩);go_ret;exact⟨df (by rw[hV.out]),p⟩
end
section
open Go.RowKit Go.Shelf
theorem dQ (fn:Func)(tmps:Array Value)(t:Nat)(w:World)(Br:Nat)(b:Bool)(h:fn.results=#[.cell t 4])(ht:tmps[t]?.getD undef=.pointer (some ⟨Br,0,none⟩))(hc:w.cell? ⟨Br,0,none⟩=some (.bool b)) :
  (results fn tmps).run prog w=.ok (.bool b) w:=by simp[results,h,ht,go_sem,hc]
theorem jC {fn:Func}{R:Ending->World->Prop}{tmps:Array Value}{w:World}{v:Value}(h:(results fn tmps).run prog w=.ok v w)(hR:R (.returned v) w):LeavesInM Fence.wide 5 prog fn tmps R [] .returning w:=⟨v,h,hR⟩
theorem jD {fn:Func}{R:Ending->World->Prop}{tmps:Array Value}{w:World}{D:Nat}{ds:List Deferred}(hK:w.heap[D]?=some (.deferred (some [])))(h:LeavesInM Fence.wide 5 prog fn tmps R ds .returning (w.putObj D (.deferred none))) :
  LeavesInM Fence.wide 5 prog fn tmps R ({target:=.collected D,args:=#[]}::ds) .returning w:=⟨by simp,.inl ⟨_,_,rfl,run_takeDeferred hK,h⟩⟩
theorem mj {fn:Func}{R:Ending->World->Prop}{a:Act}{w:World}{v:Value}(hd:a.defers=[])(h:(results fn a.tmps).run prog w=.ok v w)(hR:R (.returned v) w):bodyPostM Fence.wide 5 prog fn R .ret a w:=by show LeavesInM Fence.wide 5 prog fn a.tmps R a.defers .returning w;rw[hd];exact jC h hR
theorem oJ {fn:Func}{R:Ending->World->Prop}{a:Act}{w:World}{v:Value}{D:Nat}(hd:a.defers=[{target:=.collected D,args:=#[]}])(hK:w.heap[D]?=some (.deferred (some [])))(h:(results fn a.tmps).run prog (w.putObj D (.deferred none))=.ok v (w.putObj D (.deferred none)))
  (hR:R (.returned v) (w.putObj D (.deferred none))):bodyPostM Fence.wide 5 prog fn R .ret a w:=by
 show LeavesInM Fence.wide 5 prog fn a.tmps R a.defers .returning w;rw[hd];exact jD hK (jC h hR)
theorem Gr.keeps {a b:World}(h:Gr a b):KeepsOthers a b:=⟨h.size,fun k _ d _=>(h.heap k (pf.1 d).1).trans d⟩
theorem oD {fn:Func}{R:Ending->World->Prop}{a:Act}{w w0:World}{D Br t:Nat}{b:Bool}(hd:a.defers=[{target:=.collected D,args:=#[]}])(hK:w.heap[D]?=some (.deferred (some [])))(hf:fn.results=#[.cell t 4])(ht:a.tmps[t]?.getD undef=.pointer (some ⟨Br,0,none⟩))
  (hb:w.heap[Br]?=some (.cells #[.bool b] 4 (0,0))) (hw:Below w0.heap.size w0 w) (hD:w0.heap.size<=D) (hR:∀w',Gr w0 w'->R (.returned (.bool b)) w'):bodyPostM Fence.wide 5 prog fn R .ret a w:=by
 have g:Br≠D:=fun e=>by rw[e,hK]at hb;cases hb
 have d:(w.putObj D (.deferred none)).heap[Br]?=some (.cells #[.bool b] 4 (0,0)):=(World.putObj_heap_other g).trans hb;refine oJ hd hK (dQ fn a.tmps t _ Br b hf ht (cell_of_one d)) (hR _ ?_);exact Below.trans hw (belowK_b (w:=w0) (pS _) w D _ _ hD hK rfl rfl)
theorem nT {f:Fn}{l:List Ins}(hl:Ref.laid l=true)(hA:∀x∈l,Ref.argument f x=true):((l.getLast?.map (·.to)).getD []).length<=2:=by
 have d:∀(l:List Ins)(p:Bool),l≠[]->Ref.laidFrom l p=true->∃x,l.getLast?=some x/\Ref.isLast x.op=true:=by
  intro l
  induction l with
  | nil=>intro p h;exact absurd rfl h
  | cons x r ih =>
   intro p _ h;rw[Ref.laidFrom]at h;simp only[pD]at h
   cases r with
   | nil=>exact⟨x,rfl,by simpa using h.1.1⟩
   | cons y r' =>
    obtain⟨z,g,j⟩:=ih _ (by simp) h.2;exact⟨z,by rw[List.getLast?_cons_cons];exact g,j⟩
 have m:=ip hl;unfold Ref.laid at hl;simp only[pD]at hl;obtain⟨x,g,j⟩:=d l _ m hl.2;rw[g];have t:=hA x (List.mem_of_getLast? g);unfold Ref.argument Ref.counts at t;simp only[pD]at t;obtain⟨⟨⟨-,u⟩,-⟩,-⟩:=t;simp only[Option.map_some,Option.getD_some];have q:x.op=29\/x.op=30\/x.op=31\/x.op=32:=by unfold Ref.isLast at j;simpa[or_assoc] using j
 have A:(Ref.shape f x).2.1=1\/(Ref.shape f x).2.1=2\/(Ref.shape f x).2.1=0:=by rcases q with h|h|h|h;all_goals (unfold Ref.shape;rw[h];simp)
 simp only[Bool.not_eq_true',Bool.or_eq_false_iff,Bool.and_eq_false_imp,decide_eq_true_eq,decide_eq_false_iff_not]at u;have:=u.2;omega
theorem fG {f:Fn}(hA:∀l∈f.blocks,∀x∈l,Ref.argument f x=true)(hL:f.blocks.all Ref.laid=true)(h1:1<=f.blocks.length)(h2:f.blocks.length<=10):Ir.gval (Ref.graph f)=0:=by
 have p:(Ref.graph f).length=f.blocks.length:=by simp[Ref.graph]
 unfold Ir.gval;rw[pC (by omega),pC,pC]
 ·intro h;obtain⟨l,g,d⟩:=pP.1 h;obtain⟨t,q,j⟩:=pP.1 d;have:=jY f hA l g t q;unfold Ir.outside at j;simp at j;omega
 ·intro h;obtain⟨l,g,d⟩:=pP.1 h;obtain⟨b,m,rfl⟩:=List.mem_map.1 g;have:=nT (pw.1 hL b m) (hA b m);simp at d;omega
attribute [local go_sem] Oper.semAt_some
def jn (it:It)(aa ta:Option Addr)(ca ct:Nat):Value:=.agg #[.int .i64 it.ins.op,.int .i64 it.ins.width,.int .i64 it.ins.flags,.slice aa it.ins.args.length ca,.int .u32 it.ins.imm,.slice ta it.ins.to.length ct,.int .i64 it.num,.int .i64 it.blk,.int .i64 it.pos]
def mn (it:It)(aa ta:Option Addr)(ca ct:Nat):Array Value:=#[.int .i64 it.ins.op,.int .i64 it.ins.width,.int .i64 it.ins.flags,.slice aa it.ins.args.length ca,.int .u32 it.ins.imm,.slice ta it.ins.to.length ct,.int .i64 it.num,.int .i64 it.blk,.int .i64 it.pos]
theorem fC {g p q:Nat}{assign body:Code}{Q:Exit->Act->World->Prop}{a:Act}{w W0:World}{f:Fn}{Bf:Nat}{vp vs vb:Value}
  (hg:a.eval (.tmp g)=.func (.func 81) #[] #[.pointer (some ⟨Bf,0,none⟩)])
  (hf:FnAt w.heap.size w (.agg #[vp,.int .i64 f.ret,vs,vb]) f) (hgw:Gr w W0) (hs:f.blocks.length<=100000) (hBf:Bf<W0.heap.size) (c0:W0.cell? ⟨Bf,0,none⟩=some vp) (c3:W0.cell? ⟨Bf,3,none⟩=some vb)
  (I:List It->World->Prop) (Ix:Code->List It->World->Prop) (hI:OwnFrom W0.heap.size I) (hIx:∀c,OwnFrom W0.heap.size (Ix c)) (hIw:∀pre W,I pre W->W0.heap.size<=W.heap.size) (h0:I [] W0)
  (hassign:∀(l:Nat)(it:It)(aa ta:Option Addr)(ca ct:Nat)(W:World)(K:Act->World->Prop),K {tmps:=(a.tmps.setIfInBounds p (jn it aa ta ca ct)).setIfInBounds q (.pointer (some ⟨W.heap.size,0,none⟩)),defers:=[]} (W.alloc (.cells (mn it aa ta ca ct) 80)) ->
    assign.wpIn (Fence.wide.inRound l) 3 prog (Exit.then K (fun _ _ _=>False)) {tmps:=a.tmps.setIfInBounds p (jn it aa ta ca ct),defers:=[]} W)
  (hbody:∀(l:Nat)(pre:List It)(it:It)(aa ta:Option Addr)(ca ct:Nat)(W:World)(Bx:Nat),I pre W->IntsAt w.heap.size w (.slice aa it.ins.args.length ca) it.ins.args->IntsAt w.heap.size w (.slice ta it.ins.to.length ct) it.ins.to->it∈Ir.items f->pre.length<(Ir.items f).length+1 ->
    W0.heap.size<=Bx->W.heap[Bx]?=some (.cells (mn it aa ta ca ct) 80 (0,0)) ->
    body.wpIn (Fence.wide.inRound l) 3 prog (ownPostG W0.heap.size (Below w.heap.size) I Ix (pre++[it]) W) {tmps:=(a.tmps.setIfInBounds p (jn it aa ta ca ct)).setIfInBounds q (.pointer (some ⟨Bx,0,none⟩)),defers:=[]} W)
  (hdone:∀(D:Nat)(W:World),W0.heap.size<=D->I (Ir.items f) W->W.heap[D]?=some (.deferred (some []))->Q .normal {a with defers:={target:=.collected D,args:=#[]}::a.defers} W)
  (hstop:∀(D:Nat)(c:Code)(pre:List It)(W:World),W0.heap.size<=D->pre <+: Ir.items f->Ix c pre W->W.heap[D]?=some (.deferred (some []))->c.wp prog Q {a with defers:={target:=.collected D,args:=#[]}::a.defers} W) :
  (Code.rangeFunc (.tmp g) #[p] assign body).wp prog Q a W0:=by
 have E:=hgw.size;have J:=fp (5-1) (by omega) Bf w.heap.size f vp vs vb w W0 hf (pS _) hgw hs hBf c0 c3;refine(wpIn_wide (n:=5)).1 ?_
 refine wpIn_rangeFunc_ownH (n:=5) rfl (by omega) (gf:=81) (lb:=#[.pointer (some ⟨Bf,0,none⟩)]) hg trivial (enters_of func81 (by kernel_rfl) rfl) J belowK_t (belowK_b E) (Below.refl _ _) (fun _=>rfl)
  (fun pre W=>I (prj pre) W) (fun c pre W=>Ix c (prj pre) W) (fun s=>hI (prj s)) (fun c s=>hIx c (prj s)) h0
  (fun x y W=>∃Bx,W0.heap.size<=Bx/\W.heap[Bx]?=some (.cells (mn x.1.it x.1.aa x.1.ta x.1.ca x.1.ct) 80 (0,0))/\y={tmps:=(a.tmps.setIfInBounds p (jn x.1.it x.1.aa x.1.ta x.1.ca x.1.ct)).setIfInBounds q (.pointer (some ⟨Bx,0,none⟩)),defers:=[]})
  ?hAx ?assign ?body ?done ?stop
 case hAx =>
  intro x y s X Y row h hg R;obtain⟨Bx,M,z,N⟩:=h;refine⟨Bx,M,(hg.block Bx (pf.1 z).1 (fun e=>?_)).trans z,N⟩;obtain⟨-,o,H,O⟩:=R Bx e.symm;rw[z]at H;cases H;cases O
 case assign =>
  rintro l pre ⟨⟨it,aa,ca,ta,ct⟩,d⟩ W K j m;have e:Array.foldl (fun(t:Array Value)(x:Nat × Value)=>t.setIfInBounds x.1 x.2) a.tmps ((#[p]:Array Nat).zip #[jn it aa ta ca ct])=a.tmps.setIfInBounds p (jn it aa ta ca ct):=by simp
  show Code.wpIn _ _ _ _ _ {tmps:=Array.foldl (fun(t:Array Value)(x:Nat × Value)=>t.setIfInBounds x.1 x.2) a.tmps ((#[p]:Array Nat).zip #[jn it aa ta ca ct]),defers:=[]} W;rw[e];refine hassign l it aa ta ca ct W K ?_;have F:=hIw _ _ j;exact m _ _ ((KeepsOthers.alloc _ _).from _) ((Below.refl _ W).alloc (by omega) _) (hI.alloc _ j) ⟨W.heap.size,F,heap_alloc_new W _,rfl⟩
 case body =>
  rintro l pre ⟨⟨it,aa,ca,ta,ct⟩,d⟩ y W V T j ⟨Bx,A,u,rfl⟩ C;obtain⟨g1,g2,g3⟩:=d;refine wpIn_mono (hbody l (prj pre) it aa ta ca ct W Bx j g1 g2 g3 (by rw[show (prj pre).length=pre.length by simp[prj]];exact C) A u) ?_;intro e y U h;have L:prj (pre++[⟨⟨it,aa,ca,ta,ct⟩,g1,g2,g3⟩])=prj pre++[it]:=eI _ _;cases e<;>simp only[ownPostG,L]at h ⊢<;>exact h
 case done =>
  intro D ys W B G j m;rw[G]at j;exact hdone D W B j m
 case stop =>
  intro D c pre W B r j m;exact wpIn_wide.2 (hstop D c (prj pre) W B r j m)
theorem eZ {β:Type}(W0:World):OwnFrom W0.heap.size (fun(_:β) W=>Gr W0 W):=ownFrom_below (pS _) (pS _)
end

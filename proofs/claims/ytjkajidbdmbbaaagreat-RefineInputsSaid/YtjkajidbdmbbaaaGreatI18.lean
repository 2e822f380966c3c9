/- Parts. -/
import Derived.Test.YtjkajidbdmbbaaaGreatI16
import Derived.Test.YtjkajidbdmbbaaaGreatI17
import Derived.Test.YtjkajidbdmbbaaaGreatI14
set_option linter.unusedSimpArgs false
set_option linter.unusedVariables false
set_option maxRecDepth 100000
set_option maxHeartbeats 16000000
open Go.Proofs.Tryz
namespace Go.Proofs.YtjkajidbdmbbaaaGreat
section
open Go.RowKit
theorem iO {l:List Ins}(h:Ref.laid l=true):l≠[]:=by intro e;subst e;simp[Ref.laid]at h
theorem lA {f:Fn}(h:Ref.rules f=true):∀l∈f.blocks,l≠[]:=by intro l d;unfold Ref.rules at h;simp only[tD]at h;exact iO (tu.1 h.1.1 l d)
theorem lj {f:Fn}(h:f.blocks.all (fun l=>l.all (Ref.argument f))=true):∀l∈f.blocks,∀x∈l,Ref.argument f x=true :=
 fun l d x g=>tu.1 (tu.1 h l d) x g
theorem pZ (v:Value)(f:Fn)(w:World)(hf:FnAt w.heap.size w v f)(hs:f.blocks.length<=100000)(hln:Hid (∀l∈f.blocks,l.length<=100000))(hwf:Hid (∀l∈f.blocks,∀x∈l,WfI x)) :
  Calls prog 44 #[v] w (RG (.int .i64 (Ref.validate f)) w):=by
 have ab:=hf;obtain⟨vp,vs,vb,rfl,hp,a2,hb⟩:=hf;obtain⟨U,Z,rfl,a9,ba,aG⟩:=hp;obtain⟨X,cs,rfl,bc,bd,aI⟩:=a2;obtain⟨Ab,Y,rfl,a6,a7,aD⟩:=hb;by_cases aq:3<f.params.length\/2<f.slots.length\/f.blocks.length<1\/10<f.blocks.length
 ·have hV:Hid (Ref.validate f=3):=by show _=_;unfold Ref.validate;rw[tB aq]
  have p:Gr w (w.alloc (.cells #[.slice U f.params.length Z,.int .i64 f.ret,.slice X f.slots.length cs,.slice Ab f.blocks.length Y] 36)):=(tX _).alloc _;clear aG aI aD ab
  go_enter func44, ntmps44
  go_wp2;all_goals first|omega|(go_ret;exact⟨dc (by rw[hV.out]),p⟩)
 obtain⟨K,M,rfl,S,aa⟩:=aD (by omega);obtain⟨W,hW⟩:=xJ (w.alloc (.cells #[.slice U f.params.length Z,.int .i64 f.ret,.slice X f.slots.length cs,.slice (some ⟨K,M,none⟩) f.blocks.length Y] 36));have p:Gr w W:=by rw[<-hW];exact(tX w).alloc _
 have a5:W.heap.size=w.heap.size+1:=by rw[<-hW];simp
 have b0:∀o,W.cell? ⟨w.heap.size,o,none⟩=(#[.slice U f.params.length Z,.int .i64 f.ret,.slice X f.slots.length cs,.slice (some ⟨K,M,none⟩) f.blocks.length Y]:Array Value)[o]?:=by intro o;rw[<-hW];exact tv _ _ _ _ _ _ (heap_alloc_new w _)
 have B0:Hid (∀w',Gr W w'->w'.cell? ⟨w.heap.size,0,none⟩=some (.slice U f.params.length Z)/\w'.cell? ⟨w.heap.size,1,none⟩=some (.int .i64 f.ret)/\w'.cell? ⟨w.heap.size,2,none⟩=some (.slice X f.slots.length cs)/\w'.cell? ⟨w.heap.size,3,none⟩=some (.slice (some ⟨K,M,none⟩) f.blocks.length Y)) :=
  fun w' g=>⟨(g.cell w.heap.size 0 (by omega)).trans (b0 0),(g.cell w.heap.size 1 (by omega)).trans (b0 1),(g.cell w.heap.size 2 (by omega)).trans (b0 2),(g.cell w.heap.size 3 (by omega)).trans (b0 3)⟩
 have av:Hid (Ref.validate f=if 40<Ref.total f.blocks then 3 else if f.ret<0\/32<f.ret then 1 else if f.params.all Ref.isWidth=false then 1 else if f.slots.all Ref.isSlot=false then 1 else if f.blocks.all (fun l=>l.all (Ref.argument f))=false then 1 else if Ref.rules f=false then 7 else if f.blocks.all (fun l=>l.all (Ref.typed f))=false then 6 else if Ref.stated f=false then 9 else 0):=by show _=_;unfold Ref.validate;rw[tC aq]
 have aT:Hid (∀l∈f.blocks,∀x∈l,∀y vx,Gr w y->rP y.heap.size y vx x->Calls prog 69 #[.agg #[.slice U f.params.length Z,.int .i64 f.ret,.slice X f.slots.length cs,.slice (some ⟨K,M,none⟩) f.blocks.length Y],vx] y (RG (.bool (Ref.argument f x)) y)) :=
  fun l H x hx y vx g1 h=>jf f x _ vx y (ab.gr g1) h (hwf.out l H x hx).1.1 (hwf.out l H x hx).1.2
 have aW:Hid ((∀l∈f.blocks,∀x∈l,Ref.argument f x=true)->∀l∈f.blocks,∀x∈l,∀y vx,Gr w y->rP y.heap.size y vx x->Calls prog 71 #[.agg #[.slice U f.params.length Z,.int .i64 f.ret,.slice X f.slots.length cs,.slice (some ⟨K,M,none⟩) f.blocks.length Y],vx] y (RG (.bool (Ref.typed f x)) y)) :=
  fun hA l H x hx y vx g1 h=>pa f x _ vx y (ab.gr g1) h hs (hwf.out l H x hx).2.2.1 (hwf.out l H x hx).2.1 (hA l H x hx)
 have aU:Hid (∀y,Gr w y->Calls prog 70 #[.agg #[.slice U f.params.length Z,.int .i64 f.ret,.slice X f.slots.length cs,.slice (some ⟨K,M,none⟩) f.blocks.length Y]] y (RG (.bool (Ref.rules f)) y)) :=
  fun y g1=>oE _ f y (ab.gr g1) (by omega) hs hln
 have aV:Hid ((∀l∈f.blocks,∀x∈l,Ref.argument f x=true)->(∀l∈f.blocks,l≠[])->∀y,Gr w y->Calls prog 72 #[.agg #[.slice U f.params.length Z,.int .i64 f.ret,.slice X f.slots.length cs,.slice (some ⟨K,M,none⟩) f.blocks.length Y]] y (RG (.bool (Ref.stated f)) y)) :=
  fun hA a1 y g1=>mS _ f y (ab.gr g1) (by omega) hs hA a1 hwf
 obtain⟨k0,k1,k2,k3⟩:=B0.out W (tX _);have HC:=dJ aa;have aN:=dJ aG;have aO:=dJ aI;have z1:(f.params.length:Int)<=3:=by omega
 have z2:(f.slots.length:Int)<=2:=by omega
 have z3:(1:Int)<=f.blocks.length:=by omega
 have z4:(f.blocks.length:Int)<=10:=by omega
 clear b0 aa aD ab aG aI
 go_enter func44, ntmps44
 go_wp2
 go_loop [3,4] (fun s b=>∃k N:Nat,k<=f.blocks.length/\b=.int .i64 k/\s=.int .i64 N/\N<=100000*k/\Hid (N=Ref.total (f.blocks.take k))) (fun _ b=>f.blocks.length-(intOf b).toNat)
 case atStart=>exact⟨0,0,tR _,rfl,rfl,by omega,by show _=_;simp[Ref.total]⟩
 case round =>
  obtain⟨k,N,hk,rfl,rfl,hN,d⟩:=hrel;by_cases aF:k<f.blocks.length
  ·obtain⟨l,H⟩:∃l,f.blocks[k]?=some l:=⟨f.blocks[k],by simp[aF]⟩;obtain⟨u,hu,ak⟩:=HC.out k l H;have ao:=(p.cell _ _ S).trans hu;obtain⟨Al,cl,rfl,p1,p2,p3⟩:=ak;have a8:l.length<=100000:=hln.out l (sS H)
   have HL:Hid (Ref.total (f.blocks.take (k+1))=Ref.total (f.blocks.take k)+l.length):=by show _=_;rw[Ref.total_take_succ _ _ _ H]
   clear H hu p3;go_wp2;go_round;case rel=>exact⟨k+1,N+l.length,by omega,by go_num,by go_num,by omega,by show _=_;rw[HL.out,d.out]⟩
   case measure=>simp[intOf];omega
  ·obtain rfl:k=f.blocks.length:=by omega
   have HN:Hid (N=Ref.total f.blocks):=by have:=d.out;rw[tE]at this;exact this
   clear d;by_cases aP:40<N
   ·have hV:Hid (Ref.validate f=3):=by show _=_;rw[av.out,tB (by rw[<-HN.out];exact aP)]
    go_wp2;go_ret;exact⟨dc (by rw[hV.out]),p⟩
   have aw:Hid (Ref.validate f=if f.ret<0\/32<f.ret then 1 else if f.params.all Ref.isWidth=false then 1 else if f.slots.all Ref.isSlot=false then 1 else if f.blocks.all (fun l=>l.all (Ref.argument f))=false then 1 else if Ref.rules f=false then 7 else if f.blocks.all (fun l=>l.all (Ref.typed f))=false then 6 else if Ref.stated f=false then 9 else 0):=by show _=_;rw[av.out,tC (by rw[<-HN.out];exact aP)]
   clear av;by_cases ar:f.ret<0\/32<f.ret
   ·have hV:Hid (Ref.validate f=1):=by show _=_;rw[aw.out,tB ar]
    go_wp2;all_goals first|omega|(go_ret;exact⟨dc (by rw[hV.out]),p⟩)
   have ax:Hid (Ref.validate f=if f.params.all Ref.isWidth=false then 1 else if f.slots.all Ref.isSlot=false then 1 else if f.blocks.all (fun l=>l.all (Ref.argument f))=false then 1 else if Ref.rules f=false then 7 else if f.blocks.all (fun l=>l.all (Ref.typed f))=false then 6 else if Ref.stated f=false then 9 else 0):=by show _=_;rw[aw.out,tC ar]
   have r1:0<=f.ret:=by omega
   have r2:f.ret<=32:=by omega
   clear aw;go_wp2
   go_loop [5] (fun b=>∃k:Nat,k<=f.params.length/\b=.int .i64 k/\Hid (f.params.all Ref.isWidth=(f.params.drop k).all Ref.isWidth)) (fun b=>f.params.length-(intOf b).toNat)
   case atStart=>exact⟨0,tR _,rfl,rfl⟩
   case round =>
    obtain⟨k,hk,rfl,d⟩:=hrel;rcases hr:f.params.drop k with _|⟨z,r⟩
    ·have T:=dm hr hk
     have ay:Hid (Ref.validate f=if f.slots.all Ref.isSlot=false then 1 else if f.blocks.all (fun l=>l.all (Ref.argument f))=false then 1 else if Ref.rules f=false then 7 else if f.blocks.all (fun l=>l.all (Ref.typed f))=false then 6 else if Ref.stated f=false then 9 else 0):=by show _=_;rw[ax.out,tC (by rw[d.out,hr];simp)]
     subst T;clear hr d ax;go_wp2
     go_loop [6] (fun b=>∃k:Nat,k<=f.slots.length/\b=.int .i64 k/\Hid (f.slots.all Ref.isSlot=(f.slots.drop k).all Ref.isSlot)) (fun b=>f.slots.length-(intOf b).toNat)
     case atStart=>exact⟨0,tR _,rfl,rfl⟩
     case round =>
      obtain⟨k,hk,rfl,d⟩:=hrel;rcases hr:f.slots.drop k with _|⟨z,r⟩
      ·have T:=dm hr hk
       have az:Hid (Ref.validate f=if f.blocks.all (fun l=>l.all (Ref.argument f))=false then 1 else if Ref.rules f=false then 7 else if f.blocks.all (fun l=>l.all (Ref.typed f))=false then 6 else if Ref.stated f=false then 9 else 0):=by show _=_;rw[ay.out,tC (by rw[d.out,hr];simp)]
       subst T;clear hr d ay;go_wp2
       go_loopw [7,8] (fun b _ wr=>∃k:Nat,k<=f.blocks.length/\b=.int .i64 k/\Gr W wr/\Hid (f.blocks.all (fun l=>l.all (Ref.argument f))=(f.blocks.drop k).all (fun l=>l.all (Ref.argument f)))) (fun b _ _=>f.blocks.length-(intOf b).toNat)
       case atStart=>exact⟨0,tR _,rfl,tX _,rfl⟩
       case round =>
        obtain⟨k,hk,rfl,ah,d⟩:=hrel;obtain⟨wo,rfl⟩:∃wo:World,wo=wr:=⟨_,rfl⟩;have D:=(tX W).trans ah;obtain⟨c0,c1,c2,c3⟩:=B0.out _ D;clear k0 k1 k2 k3;rcases hr:f.blocks.drop k with _|⟨l,r⟩
        ·have T:=dm hr hk;have J:Hid (f.blocks.all (fun l=>l.all (Ref.argument f))=true):=by show _=_;rw[d.out,hr];rfl
         subst T;clear hr d;have an:Hid (Ref.validate f=if Ref.rules f=false then 7 else if f.blocks.all (fun l=>l.all (Ref.typed f))=false then 6 else if Ref.stated f=false then 9 else 0):=by show _=_;rw[az.out,tC (by rw[J.out];simp)]
         have ap:=dJ (lj J.out);obtain⟨ru,aH⟩:=xJ (Ref.rules f);have ac:=dJ (aU.out _ (p.trans D));have aY:=dJ aH;rw[aH]at an ac;clear aH az J
         cases ru with
         | false =>
          go_wp2_with (go_at_call 70;refine ac.out.mono ?_;rintro e w2 ⟨rfl,au⟩);go_ret;exact⟨dc (by rw[an.out];simp),p.trans (D.trans au)⟩
         | true =>
          have aX:=dJ (lA aY.out);have aA:Hid (Ref.validate f=if f.blocks.all (fun l=>l.all (Ref.typed f))=false then 6 else if Ref.stated f=false then 9 else 0):=by show _=_;rw[an.out,tC (by simp)]
          have aL:=dJ (aW.out ap.out);clear an;go_wp2_with (go_at_call 70;refine ac.out.mono ?_;rintro e w2 ⟨rfl,au⟩);have aC:Gr W w2:=D.trans au;obtain⟨k0,k1,k2,k3⟩:=B0.out _ aC;clear c0 c1 c2 c3
          go_loopw [9,10] (fun b _ wr=>∃k:Nat,k<=f.blocks.length/\b=.int .i64 k/\Gr w2 wr/\Hid (f.blocks.all (fun l=>l.all (Ref.typed f))=(f.blocks.drop k).all (fun l=>l.all (Ref.typed f)))) (fun b _ _=>f.blocks.length-(intOf b).toNat)
          case atStart=>exact⟨0,tR _,rfl,tX _,rfl⟩
          case round =>
           obtain⟨k,hk,rfl,ah,d⟩:=hrel;obtain⟨wo,rfl⟩:∃wo:World,wo=wr:=⟨_,rfl⟩;have D:=aC.trans ah;obtain⟨c0,c1,c2,c3⟩:=B0.out _ D;clear k0 k1 k2 k3;rcases hr:f.blocks.drop k with _|⟨l,r⟩
           ·have T:=dm hr hk;have J:Hid (f.blocks.all (fun l=>l.all (Ref.typed f))=true):=by show _=_;rw[d.out,hr];rfl
            subst T;clear hr d;have aB:Hid (Ref.validate f=if Ref.stated f=false then 9 else 0):=by show _=_;rw[aA.out,tC (by rw[J.out];simp)]
            obtain⟨st,aJ⟩:=xJ (Ref.stated f);rw[aJ]at aB;have ad:=dJ (aV.out ap.out aX.out _ (p.trans D));rw[aJ]at ad;clear aJ aA
            cases st with
            | true =>
             go_wp2_with (go_at_call 72;refine ad.out.mono ?_;rintro e w3 ⟨rfl,R⟩);go_ret;exact⟨dc (by rw[aB.out];simp),p.trans (D.trans R)⟩
            | false =>
             go_wp2_with (go_at_call 72;refine ad.out.mono ?_;rintro e w3 ⟨rfl,R⟩);go_ret;exact⟨dc (by rw[aB.out];simp),p.trans (D.trans R)⟩
           ·obtain⟨aF,H,F⟩:=di hr;obtain⟨u,hu,ak⟩:=HC.out k l H;have ao:=((p.trans D).cell _ _ S).trans hu;obtain⟨Al,cl,rfl,p1,p2,p3⟩:=ak;have P3:=dJ p3;have HU:=dJ hu;have HL:Hid (l∈f.blocks):=sS H;have HR:Hid (f.blocks.all (fun l=>l.all (Ref.typed f))=(l.all (Ref.typed f) && r.all (fun l=>l.all (Ref.typed f)))):=by show _=_;rw[d.out,hr];rfl
            have O:Hid (f.blocks.drop (k+1)=r):=F;clear hr H F d hu p3;go_wp2
            go_loopw [10] (fun i wr=>∃j:Nat,j<=l.length/\i=.int .i64 j/\Gr w2 wr/\Hid (l.all (Ref.typed f)=(l.drop j).all (Ref.typed f))) (fun i _=>l.length-(intOf i).toNat)
            case atStart=>exact⟨0,tR _,rfl,ah,rfl⟩
            case round =>
             obtain⟨j,hj,rfl,E,m⟩:=hrel;obtain⟨I,rfl⟩:∃I:World,I=wr:=⟨_,rfl⟩;have A:=aC.trans E;obtain⟨d0,d1,d2,d3⟩:=B0.out _ A;have a3:=((p.trans A).cell _ _ S).trans HU.out;clear c0 c1 c2 c3 ao;rcases hr2:l.drop j with _|⟨x,r2⟩
             ·have aE:=dm hr2 hj;have HE:Hid (l.all (Ref.typed f)=true):=by show _=_;rw[m.out,hr2];rfl
              subst aE;clear hr2 m;go_wp2;go_roundw;case rel=>exact⟨k+1,by omega,by go_num,E,by (show _=_;rw[HR.out,O.out,HE.out];simp)⟩
              case measure=>simp[intOf];omega
             ·obtain⟨ai,hx,L⟩:=di hr2;obtain⟨t,ol,rfl,B,ag⟩:=P3.out (by omega);obtain⟨va,vt,i0,i1,i2,i3,i4,i5,al,am⟩:=ag j x hx;have Q:Hid (l.all (Ref.typed f)=(Ref.typed f x && r2.all (Ref.typed f))):=by show _=_;rw[m.out,hr2];rfl
              have af:Hid (l.drop (j+1)=r2):=L;have G:=p.trans A;have HX:Hid (x∈l):=sS hx;have kp:Hid (∀w',Gr I w'->(w'.cell? ⟨w.heap.size,0,none⟩=some (.slice U f.params.length Z)/\w'.cell? ⟨w.heap.size,1,none⟩=some (.int .i64 f.ret)/\w'.cell? ⟨w.heap.size,2,none⟩=some (.slice X f.slots.length cs)/\w'.cell? ⟨w.heap.size,3,none⟩=some (.slice (some ⟨K,M,none⟩) f.blocks.length Y)/\w'.cell? ⟨K,M+k,none⟩=some (.slice (some ⟨t,ol,none⟩) l.length cl)/\w'.cell? ⟨t,ol+j*6,none⟩=some (.int .i64 x.op)/\w'.cell? ⟨t,ol+j*6+1,none⟩=some (.int .i64 x.width)/\w'.cell? ⟨t,ol+j*6+2,none⟩=some (.int .i64 x.flags)/\w'.cell? ⟨t,ol+j*6+3,none⟩=some va/\w'.cell? ⟨t,ol+j*6+4,none⟩=some (.int .u32 x.imm)/\w'.cell? ⟨t,ol+j*6+5,none⟩=some vt)):=fun w' q=>⟨(B0.out w' (A.trans q)).1,(B0.out w' (A.trans q)).2.1,(B0.out w' (A.trans q)).2.2.1,(B0.out w' (A.trans q)).2.2.2,((G.trans q).cell _ _ S).trans HU.out,((G.trans q).cell t (ol+j*6) B).trans i0,((G.trans q).cell t (ol+j*6+1) B).trans i1,((G.trans q).cell t (ol+j*6+2) B).trans i2,((G.trans q).cell t (ol+j*6+3) B).trans i3,((G.trans q).cell t (ol+j*6+4) B).trans i4,((G.trans q).cell t (ol+j*6+5) B).trans i5⟩
              have ae:Hid (∀y,Gr I y->Calls prog 71 #[.agg #[.slice U f.params.length Z,.int .i64 f.ret,.slice X f.slots.length cs,.slice (some ⟨K,M,none⟩) f.blocks.length Y],.agg #[.int .i64 x.op,.int .i64 x.width,.int .i64 x.flags,va,.int .u32 x.imm,vt]] y (RG (.bool (Ref.typed f x)) y)) :=
               fun y q=>aL.out l HL.out x HX.out y _ (G.trans q) ⟨va,vt,rfl,al.gr (G.trans q),am.gr (G.trans q)⟩
              obtain⟨th,aj⟩:=xJ (Ref.typed f x);rw[aj]at ae Q;obtain⟨-,-,-,-,-,e0,e1,e2,e3,e4,e5⟩:=kp.out _ (tX I);clear hr2 hx L m ag aj i0 i1 i2 i3 i4 i5 al am;go_wp2
              go_region_held3 (fun w'=>w'.cell? ⟨w.heap.size,0,none⟩=some (.slice U f.params.length Z)/\w'.cell? ⟨w.heap.size,1,none⟩=some (.int .i64 f.ret)/\w'.cell? ⟨w.heap.size,2,none⟩=some (.slice X f.slots.length cs)/\w'.cell? ⟨w.heap.size,3,none⟩=some (.slice (some ⟨K,M,none⟩) f.blocks.length Y)/\w'.cell? ⟨K,M+k,none⟩=some (.slice (some ⟨t,ol,none⟩) l.length cl)/\w'.cell? ⟨t,ol+j*6,none⟩=some (.int .i64 x.op)/\w'.cell? ⟨t,ol+j*6+1,none⟩=some (.int .i64 x.width)/\w'.cell? ⟨t,ol+j*6+2,none⟩=some (.int .i64 x.flags)/\w'.cell? ⟨t,ol+j*6+3,none⟩=some va/\w'.cell? ⟨t,ol+j*6+4,none⟩=some (.int .u32 x.imm)/\w'.cell? ⟨t,ol+j*6+5,none⟩=some vt) (first|exact kp.out _ (tX I).drew|exact kp.out _ g3) (first|(go_at_call 71;refine(ae.out _ (tX I).drew).mono ?_;rintro e w3 ⟨rfl,R⟩;have g3:Gr I w3:=(tX I).drew.trans R))
              cases th with
              | true =>
               go_wp2;go_roundw;case rel=>exact⟨j+1,by omega,by go_num,E.trans g3,by (show _=_;rw[Q.out,af.out];simp)⟩
               case measure=>simp[intOf];omega
              | false =>
               have hV:Hid (Ref.validate f=6):=by show _=_;rw[aA.out,tB (by rw[HR.out,Q.out];simp)]
               go_wp2;go_ret;exact⟨dc (by rw[hV.out]),p.trans (A.trans g3)⟩
        ·obtain⟨aF,H,F⟩:=di hr;obtain⟨u,hu,ak⟩:=HC.out k l H;have ao:=((p.trans D).cell _ _ S).trans hu;obtain⟨Al,cl,rfl,p1,p2,p3⟩:=ak;have P3:=dJ p3;have HU:=dJ hu;have HL:Hid (l∈f.blocks):=sS H;have HR:Hid (f.blocks.all (fun l=>l.all (Ref.argument f))=(l.all (Ref.argument f) && r.all (fun l=>l.all (Ref.argument f)))):=by show _=_;rw[d.out,hr];rfl
         have O:Hid (f.blocks.drop (k+1)=r):=F;clear hr H F d hu p3;go_wp2
         go_loopw [8] (fun i wr=>∃j:Nat,j<=l.length/\i=.int .i64 j/\Gr W wr/\Hid (l.all (Ref.argument f)=(l.drop j).all (Ref.argument f))) (fun i _=>l.length-(intOf i).toNat)
         case atStart=>exact⟨0,tR _,rfl,ah,rfl⟩
         case round =>
          obtain⟨j,hj,rfl,E,m⟩:=hrel;obtain⟨I,rfl⟩:∃I:World,I=wr:=⟨_,rfl⟩;have A:=(tX W).trans E;obtain⟨d0,d1,d2,d3⟩:=B0.out _ A;have a3:=((p.trans A).cell _ _ S).trans HU.out;clear c0 c1 c2 c3 ao;rcases hr2:l.drop j with _|⟨x,r2⟩
          ·have aE:=dm hr2 hj;have HE:Hid (l.all (Ref.argument f)=true):=by show _=_;rw[m.out,hr2];rfl
           subst aE;clear hr2 m;go_wp2;go_roundw;case rel=>exact⟨k+1,by omega,by go_num,E,by (show _=_;rw[HR.out,O.out,HE.out];simp)⟩
           case measure=>simp[intOf];omega
          ·obtain⟨ai,hx,L⟩:=di hr2;obtain⟨t,ol,rfl,B,ag⟩:=P3.out (by omega);obtain⟨va,vt,i0,i1,i2,i3,i4,i5,al,am⟩:=ag j x hx;have Q:Hid (l.all (Ref.argument f)=(Ref.argument f x && r2.all (Ref.argument f))):=by show _=_;rw[m.out,hr2];rfl
           have af:Hid (l.drop (j+1)=r2):=L;have G:=p.trans A;have HX:Hid (x∈l):=sS hx;have kp:Hid (∀w',Gr I w'->(w'.cell? ⟨w.heap.size,0,none⟩=some (.slice U f.params.length Z)/\w'.cell? ⟨w.heap.size,1,none⟩=some (.int .i64 f.ret)/\w'.cell? ⟨w.heap.size,2,none⟩=some (.slice X f.slots.length cs)/\w'.cell? ⟨w.heap.size,3,none⟩=some (.slice (some ⟨K,M,none⟩) f.blocks.length Y)/\w'.cell? ⟨K,M+k,none⟩=some (.slice (some ⟨t,ol,none⟩) l.length cl)/\w'.cell? ⟨t,ol+j*6,none⟩=some (.int .i64 x.op)/\w'.cell? ⟨t,ol+j*6+1,none⟩=some (.int .i64 x.width)/\w'.cell? ⟨t,ol+j*6+2,none⟩=some (.int .i64 x.flags)/\w'.cell? ⟨t,ol+j*6+3,none⟩=some va/\w'.cell? ⟨t,ol+j*6+4,none⟩=some (.int .u32 x.imm)/\w'.cell? ⟨t,ol+j*6+5,none⟩=some vt)):=fun w' q=>⟨(B0.out w' (A.trans q)).1,(B0.out w' (A.trans q)).2.1,(B0.out w' (A.trans q)).2.2.1,(B0.out w' (A.trans q)).2.2.2,((G.trans q).cell _ _ S).trans HU.out,((G.trans q).cell t (ol+j*6) B).trans i0,((G.trans q).cell t (ol+j*6+1) B).trans i1,((G.trans q).cell t (ol+j*6+2) B).trans i2,((G.trans q).cell t (ol+j*6+3) B).trans i3,((G.trans q).cell t (ol+j*6+4) B).trans i4,((G.trans q).cell t (ol+j*6+5) B).trans i5⟩
           have ae:Hid (∀y,Gr I y->Calls prog 69 #[.agg #[.slice U f.params.length Z,.int .i64 f.ret,.slice X f.slots.length cs,.slice (some ⟨K,M,none⟩) f.blocks.length Y],.agg #[.int .i64 x.op,.int .i64 x.width,.int .i64 x.flags,va,.int .u32 x.imm,vt]] y (RG (.bool (Ref.argument f x)) y)) :=
            fun y q=>aT.out l HL.out x HX.out y _ (G.trans q) ⟨va,vt,rfl,al.gr (G.trans q),am.gr (G.trans q)⟩
           obtain⟨th,aj⟩:=xJ (Ref.argument f x);rw[aj]at ae Q;obtain⟨-,-,-,-,-,e0,e1,e2,e3,e4,e5⟩:=kp.out _ (tX I);clear hr2 hx L m ag aj i0 i1 i2 i3 i4 i5 al am;go_wp2
           go_region_held3 (fun w'=>w'.cell? ⟨w.heap.size,0,none⟩=some (.slice U f.params.length Z)/\w'.cell? ⟨w.heap.size,1,none⟩=some (.int .i64 f.ret)/\w'.cell? ⟨w.heap.size,2,none⟩=some (.slice X f.slots.length cs)/\w'.cell? ⟨w.heap.size,3,none⟩=some (.slice (some ⟨K,M,none⟩) f.blocks.length Y)/\w'.cell? ⟨K,M+k,none⟩=some (.slice (some ⟨t,ol,none⟩) l.length cl)/\w'.cell? ⟨t,ol+j*6,none⟩=some (.int .i64 x.op)/\w'.cell? ⟨t,ol+j*6+1,none⟩=some (.int .i64 x.width)/\w'.cell? ⟨t,ol+j*6+2,none⟩=some (.int .i64 x.flags)/\w'.cell? ⟨t,ol+j*6+3,none⟩=some va/\w'.cell? ⟨t,ol+j*6+4,none⟩=some (.int .u32 x.imm)/\w'.cell? ⟨t,ol+j*6+5,none⟩=some vt) (first|exact kp.out _ (tX I).drew|exact kp.out _ g3) (first|(go_at_call 69;refine(ae.out _ (tX I).drew).mono ?_;rintro e w3 ⟨rfl,R⟩;have g3:Gr I w3:=(tX I).drew.trans R))
           cases th with
           | true =>
            go_wp2;go_roundw;case rel=>exact⟨j+1,by omega,by go_num,E.trans g3,by (show _=_;rw[Q.out,af.out];simp)⟩
            case measure=>simp[intOf];omega
           | false =>
            have hV:Hid (Ref.validate f=1):=by show _=_;rw[az.out,tB (by rw[HR.out,Q.out];simp)]
            go_wp2;go_ret;exact⟨dc (by rw[hV.out]),p.trans (A.trans g3)⟩
      ·obtain⟨ai,hz,F⟩:=di hr;obtain⟨bs,os,rfl,a0,aR⟩:=aO.out (by omega);have a4:=(p.cell _ _ a0).trans (aR k z hz);have HR:Hid (f.slots.all Ref.isSlot=(Ref.isSlot z && r.all Ref.isSlot)):=by show _=_;rw[d.out,hr];rfl
       have O:Hid (f.slots.drop (k+1)=r):=F;clear hr hz F d aR aO;by_cases aK:1<=z/\z<=8
       ·have e1:1<=z:=aK.1;have e2:z<=8:=aK.2;have HI:Hid (Ref.isSlot z=true):=by show _=_;simp[Ref.isSlot,e1,e2]
        clear aK;go_wp2;go_round;case rel=>exact⟨k+1,by omega,by go_num,by (show _=_;rw[HR.out,O.out,HI.out];simp)⟩
        case measure=>simp[intOf];omega
       ·have HI:Hid (Ref.isSlot z=false):=by show _=_;simp[Ref.isSlot];omega
        have hV:Hid (Ref.validate f=1):=by show _=_;rw[ay.out,tB (by rw[HR.out,HI.out];simp)]
        go_wp2;all_goals first|omega|(go_ret;exact⟨dc (by rw[hV.out]),p⟩)
    ·obtain⟨ai,hz,F⟩:=di hr;obtain⟨bp,op,rfl,aZ,aQ⟩:=aN.out (by omega);have a4:=(p.cell _ _ aZ).trans (aQ k z hz);have HR:Hid (f.params.all Ref.isWidth=(Ref.isWidth z && r.all Ref.isWidth)):=by show _=_;rw[d.out,hr];rfl
     have O:Hid (f.params.drop (k+1)=r):=F;clear hr hz F d aQ aN;obtain⟨iw,aS⟩:=xJ (Ref.isWidth z);have C:=dD z W;rw[aS]at HR C;have aM:=dJ C;clear C aS
     cases iw with
     | true =>
      go_wp2_with (go_at_call 68;refine aM.out.mono ?_;rintro e y ⟨rfl,rfl⟩);go_round;case rel=>exact⟨k+1,by omega,by go_num,by (show _=_;rw[HR.out,O.out];simp)⟩
      case measure=>simp[intOf];omega
     | false =>
      have hV:Hid (Ref.validate f=1):=by show _=_;rw[ax.out,tB (by rw[HR.out];simp)]
      go_wp2_with (go_at_call 68;refine aM.out.mono ?_;rintro e y ⟨rfl,rfl⟩);go_ret;exact⟨dc (by rw[hV.out]),p⟩
end
section
open Go.RowKit Go.Shelf
theorem dN (fn:Func)(tmps:Array Value)(t:Nat)(w:World)(Br:Nat)(b:Bool)(h:fn.results=#[.cell t 4])(ht:tmps[t]?.getD undef=.pointer (some ⟨Br,0,none⟩))(hc:w.cell? ⟨Br,0,none⟩=some (.bool b)) :
  (results fn tmps).run prog w=.ok (.bool b) w:=by simp[results,h,ht,go_sem,hc]
theorem kE {fn:Func}{R:Ending->World->Prop}{tmps:Array Value}{w:World}{v:Value}(h:(results fn tmps).run prog w=.ok v w)(hR:R (.returned v) w):LeavesInM Fence.wide 5 prog fn tmps R [] .returning w:=⟨v,h,hR⟩
theorem kF {fn:Func}{R:Ending->World->Prop}{tmps:Array Value}{w:World}{D:Nat}{ds:List Deferred}(hK:w.heap[D]?=some (.deferred (some [])))(h:LeavesInM Fence.wide 5 prog fn tmps R ds .returning (w.putObj D (.deferred none))) :
  LeavesInM Fence.wide 5 prog fn tmps R ({target:=.collected D,args:=#[]}::ds) .returning w:=⟨by simp,.inl ⟨_,_,rfl,run_takeDeferred hK,h⟩⟩
theorem nd {fn:Func}{R:Ending->World->Prop}{a:Act}{w:World}{v:Value}(hd:a.defers=[])(h:(results fn a.tmps).run prog w=.ok v w)(hR:R (.returned v) w):bodyPostM Fence.wide 5 prog fn R .ret a w:=by show LeavesInM Fence.wide 5 prog fn a.tmps R a.defers .returning w;rw[hd];exact kE h hR
theorem rW {fn:Func}{R:Ending->World->Prop}{a:Act}{w:World}{v:Value}{D:Nat}(hd:a.defers=[{target:=.collected D,args:=#[]}])(hK:w.heap[D]?=some (.deferred (some [])))(h:(results fn a.tmps).run prog (w.putObj D (.deferred none))=.ok v (w.putObj D (.deferred none)))
  (hR:R (.returned v) (w.putObj D (.deferred none))):bodyPostM Fence.wide 5 prog fn R .ret a w:=by
 show LeavesInM Fence.wide 5 prog fn a.tmps R a.defers .returning w;rw[hd];exact kF hK (kE h hR)
theorem Gr.keeps {a b:World}(h:Gr a b):KeepsOthers a b:=⟨h.size,fun k _ d _=>(h.heap k (sZ.1 d).1).trans d⟩
theorem rR {fn:Func}{R:Ending->World->Prop}{a:Act}{w w0:World}{D Br t:Nat}{b:Bool}(hd:a.defers=[{target:=.collected D,args:=#[]}])(hK:w.heap[D]?=some (.deferred (some [])))(hf:fn.results=#[.cell t 4])(ht:a.tmps[t]?.getD undef=.pointer (some ⟨Br,0,none⟩))
  (hb:w.heap[Br]?=some (.cells #[.bool b] 4 (0,0))) (hw:Below w0.heap.size w0 w) (hD:w0.heap.size<=D) (hR:∀w',Gr w0 w'->R (.returned (.bool b)) w'):bodyPostM Fence.wide 5 prog fn R .ret a w:=by
 have g:Br≠D:=fun e=>by rw[e,hK]at hb;cases hb
 have d:(w.putObj D (.deferred none)).heap[Br]?=some (.cells #[.bool b] 4 (0,0)):=(World.putObj_heap_other g).trans hb;refine rW hd hK (dN fn a.tmps t _ Br b hf ht (cell_of_one d)) (hR _ ?_);exact Below.trans hw (belowK_b (w:=w0) (tS _) w D _ _ hD hK rfl rfl)
theorem qT {f:Fn}{l:List Ins}(hl:Ref.laid l=true)(hA:∀x∈l,Ref.argument f x=true):((l.getLast?.map (·.to)).getD []).length<=2:=by
 have d:∀(l:List Ins)(p:Bool),l≠[]->Ref.laidFrom l p=true->∃x,l.getLast?=some x/\Ref.isLast x.op=true:=by
  intro l
  induction l with
  | nil=>intro p h;exact absurd rfl h
  | cons x r ih =>
   intro p _ h;rw[Ref.laidFrom]at h;simp only[tD]at h
   cases r with
   | nil=>exact⟨x,rfl,by simpa using h.1.1⟩
   | cons y r' =>
    obtain⟨z,g,j⟩:=ih _ (by simp) h.2;exact⟨z,by rw[List.getLast?_cons_cons];exact g,j⟩
 have m:=iO hl;unfold Ref.laid at hl;simp only[tD]at hl;obtain⟨x,g,j⟩:=d l _ m hl.2;rw[g];have t:=hA x (List.mem_of_getLast? g);unfold Ref.argument Ref.counts at t;simp only[tD]at t;obtain⟨⟨⟨-,u⟩,-⟩,-⟩:=t;simp only[Option.map_some,Option.getD_some];have q:x.op=29\/x.op=30\/x.op=31\/x.op=32:=by unfold Ref.isLast at j;simpa[or_assoc] using j
 have A:(Ref.shape f x).2.1=1\/(Ref.shape f x).2.1=2\/(Ref.shape f x).2.1=0:=by rcases q with h|h|h|h;all_goals (unfold Ref.shape;rw[h];simp)
 simp only[Bool.not_eq_true',Bool.or_eq_false_iff,Bool.and_eq_false_imp,decide_eq_true_eq,decide_eq_false_iff_not]at u;have:=u.2;omega
theorem fK {f:Fn}(hA:∀l∈f.blocks,∀x∈l,Ref.argument f x=true)(hL:f.blocks.all Ref.laid=true)(h1:1<=f.blocks.length)(h2:f.blocks.length<=10):Ir.gval (Ref.graph f)=0:=by
 have p:(Ref.graph f).length=f.blocks.length:=by simp[Ref.graph]
 unfold Ir.gval;rw[tC (by omega),tC,tC]
 ·intro h;obtain⟨l,g,d⟩:=tP.1 h;obtain⟨t,q,j⟩:=tP.1 d;have:=ln f hA l g t q;unfold Ir.outside at j;simp at j;omega
 ·intro h;obtain⟨l,g,d⟩:=tP.1 h;obtain⟨b,m,rfl⟩:=List.mem_map.1 g;have:=qT (tu.1 hL b m) (hA b m);simp at d;omega
attribute [local go_sem] Oper.semAt_some
def kn (it:It)(aa ta:Option Addr)(ca ct:Nat):Value:=.agg #[.int .i64 it.ins.op,.int .i64 it.ins.width,.int .i64 it.ins.flags,.slice aa it.ins.args.length ca,.int .u32 it.ins.imm,.slice ta it.ins.to.length ct,.int .i64 it.num,.int .i64 it.blk,.int .i64 it.pos]
def oA (it:It)(aa ta:Option Addr)(ca ct:Nat):Array Value:=#[.int .i64 it.ins.op,.int .i64 it.ins.width,.int .i64 it.ins.flags,.slice aa it.ins.args.length ca,.int .u32 it.ins.imm,.slice ta it.ins.to.length ct,.int .i64 it.num,.int .i64 it.blk,.int .i64 it.pos]
theorem fD {g p q:Nat}{assign body:Code}{Q:Exit->Act->World->Prop}{a:Act}{w W0:World}{f:Fn}{Bf:Nat}{vp vs vb:Value}
  (hg:a.eval (.tmp g)=.func (.func 92) #[] #[.pointer (some ⟨Bf,0,none⟩)])
  (hf:FnAt w.heap.size w (.agg #[vp,.int .i64 f.ret,vs,vb]) f) (hgw:Gr w W0) (hs:f.blocks.length<=100000) (hBf:Bf<W0.heap.size) (c0:W0.cell? ⟨Bf,0,none⟩=some vp) (c3:W0.cell? ⟨Bf,3,none⟩=some vb)
  (I:List It->World->Prop) (Ix:Code->List It->World->Prop) (hI:OwnFrom W0.heap.size I) (hIx:∀c,OwnFrom W0.heap.size (Ix c)) (hIw:∀pre W,I pre W->W0.heap.size<=W.heap.size) (h0:I [] W0)
  (hassign:∀(l:Nat)(it:It)(aa ta:Option Addr)(ca ct:Nat)(W:World)(K:Act->World->Prop),K {tmps:=(a.tmps.setIfInBounds p (kn it aa ta ca ct)).setIfInBounds q (.pointer (some ⟨W.heap.size,0,none⟩)),defers:=[]} (W.alloc (.cells (oA it aa ta ca ct) 90)) ->
    assign.wpIn (Fence.wide.inRound l) 3 prog (Exit.then K (fun _ _ _=>False)) {tmps:=a.tmps.setIfInBounds p (kn it aa ta ca ct),defers:=[]} W)
  (hbody:∀(l:Nat)(pre:List It)(it:It)(aa ta:Option Addr)(ca ct:Nat)(W:World)(Bx:Nat),I pre W->IntsAt w.heap.size w (.slice aa it.ins.args.length ca) it.ins.args->IntsAt w.heap.size w (.slice ta it.ins.to.length ct) it.ins.to->it∈Ir.items f->pre.length<(Ir.items f).length+1 ->
    W0.heap.size<=Bx->W.heap[Bx]?=some (.cells (oA it aa ta ca ct) 90 (0,0)) ->
    body.wpIn (Fence.wide.inRound l) 3 prog (ownPostG W0.heap.size (Below w.heap.size) I Ix (pre++[it]) W) {tmps:=(a.tmps.setIfInBounds p (kn it aa ta ca ct)).setIfInBounds q (.pointer (some ⟨Bx,0,none⟩)),defers:=[]} W)
  (hdone:∀(D:Nat)(W:World),W0.heap.size<=D->I (Ir.items f) W->W.heap[D]?=some (.deferred (some []))->Q .normal {a with defers:={target:=.collected D,args:=#[]}::a.defers} W)
  (hstop:∀(D:Nat)(c:Code)(pre:List It)(W:World),W0.heap.size<=D->pre <+: Ir.items f->Ix c pre W->W.heap[D]?=some (.deferred (some []))->c.wp prog Q {a with defers:={target:=.collected D,args:=#[]}::a.defers} W) :
  (Code.rangeFunc (.tmp g) #[p] assign body).wp prog Q a W0:=by
 have E:=hgw.size;have N:=fj (5-1) (by omega) Bf w.heap.size f vp vs vb w W0 hf (tS _) hgw hs hBf c0 c3;refine(wpIn_wide (n:=5)).1 ?_
 refine wpIn_rangeFunc_ownH (n:=5) rfl (by omega) (gf:=92) (lb:=#[.pointer (some ⟨Bf,0,none⟩)]) hg trivial (enters_of func92 (by kernel_rfl) rfl) N belowK_t (belowK_b E) (Below.refl _ _) (fun _=>rfl)
  (fun pre W=>I (prj pre) W) (fun c pre W=>Ix c (prj pre) W) (fun s=>hI (prj s)) (fun c s=>hIx c (prj s)) h0
  (fun x y W=>∃Bx,W0.heap.size<=Bx/\W.heap[Bx]?=some (.cells (oA x.1.it x.1.aa x.1.ta x.1.ca x.1.ct) 90 (0,0))/\y={tmps:=(a.tmps.setIfInBounds p (kn x.1.it x.1.aa x.1.ta x.1.ca x.1.ct)).setIfInBounds q (.pointer (some ⟨Bx,0,none⟩)),defers:=[]})
  ?hAx ?assign ?body ?done ?stop
 case hAx =>
  intro x y s X Y row h hg U;obtain⟨Bx,R,z,S⟩:=h;refine⟨Bx,R,(hg.block Bx (sZ.1 z).1 (fun e=>?_)).trans z,S⟩;obtain⟨-,o,M,T⟩:=U Bx e.symm;rw[z]at M;cases M;cases T
 case assign =>
  rintro l pre ⟨⟨it,aa,ca,ta,ct⟩,d⟩ W K j m;have e:Array.foldl (fun(t:Array Value)(x:Nat × Value)=>t.setIfInBounds x.1 x.2) a.tmps ((#[p]:Array Nat).zip #[kn it aa ta ca ct])=a.tmps.setIfInBounds p (kn it aa ta ca ct):=by simp
  show Code.wpIn _ _ _ _ _ {tmps:=Array.foldl (fun(t:Array Value)(x:Nat × Value)=>t.setIfInBounds x.1 x.2) a.tmps ((#[p]:Array Nat).zip #[kn it aa ta ca ct]),defers:=[]} W;rw[e];refine hassign l it aa ta ca ct W K ?_;have F:=hIw _ _ j;exact m _ _ ((KeepsOthers.alloc _ _).from _) ((Below.refl _ W).alloc (by omega) _) (hI.alloc _ j) ⟨W.heap.size,F,heap_alloc_new W _,rfl⟩
 case body =>
  rintro l pre ⟨⟨it,aa,ca,ta,ct⟩,d⟩ y W hl Z j ⟨Bx,A,u,rfl⟩ C;obtain⟨H,J,L⟩:=d;refine wpIn_mono (hbody l (prj pre) it aa ta ca ct W Bx j H J L (by rw[show (prj pre).length=pre.length by simp[prj]];exact C) A u) ?_;intro e y W' h;have O:prj (pre++[⟨⟨it,aa,ca,ta,ct⟩,H,J,L⟩])=prj pre++[it]:=eB _ _;cases e<;>simp only[ownPostG,O]at h ⊢<;>exact h
 case done =>
  intro D ys W B G j m;rw[G]at j;exact hdone D W B j m
 case stop =>
  intro D c pre W B r j m;exact wpIn_wide.2 (hstop D c (prj pre) W B r j m)
theorem eP {β:Type}(W0:World):OwnFrom W0.heap.size (fun(_:β) W=>Gr W0 W):=ownFrom_below (tS _) (tS _)
attribute [local go_sem] Oper.semAt_some
theorem laid_last {l:List Ins}{y:Ins}(hy:l.getLast?=some y)(h:Ref.isLast y.op=false):Ref.laid l=false:=by
 have:∀(l:List Ins)(p:Bool),l.getLast?=some y->Ref.laidFrom l p=false:=by
  intro l
  induction l with
  | nil=>intro p h;simp at h
  | cons x r ih =>
   intro p d;rw[Ref.laidFrom]
   cases r with
   | nil=>simp at d;subst d;simp[h]
   | cons z r'=>rw[ih _ (by rw[List.getLast?_cons_cons]at d;exact d)];simp
 unfold Ref.laid;rw[this l true hy];simp
theorem nR {l:List Ins}(h:l≠[]):Ref.laid l=Ref.laidFrom l true:=by
 unfold Ref.laid
 cases l with
 | nil=>exact absurd rfl h
 | cons a b=>rfl
theorem mg (v:Value)(f:Fn)(w:World)(hf:FnAt w.heap.size w v f)(hb1:1<=f.blocks.length)(hb10:f.blocks.length<=10)(hA:Hid (∀l∈f.blocks,∀x∈l,Ref.argument f x=true)) :
  Calls prog 64 #[v] w (RG (.bool (Ir.isLaid f)) w):=by
 have aU:=hf;obtain⟨vp,vs,vb,rfl,hp,bv,hb⟩:=hf;obtain⟨Ap,cp,rfl,-,-,-⟩:=hp;obtain⟨As,cs,rfl,-,-,-⟩:=bv;obtain⟨Ab,cb,rfl,-,bI,aR⟩:=hb;obtain⟨bb,ob,rfl,bm,Q⟩:=aR (by omega);obtain⟨W,hW⟩:=xJ ((w.alloc (.cells #[.slice Ap f.params.length cp,.int .i64 f.ret,.slice As f.slots.length cs,.slice (some ⟨bb,ob,none⟩) f.blocks.length cb] 36)).alloc (.cells #[.bool false] 4));have E:Gr w W:=by rw[<-hW];exact((tX w).alloc _).alloc _
 have bH:W.heap.size=w.heap.size+2:=by rw[<-hW];simp
 have g0:Gr (w.alloc (.cells #[.slice Ap f.params.length cp,.int .i64 f.ret,.slice As f.slots.length cs,.slice (some ⟨bb,ob,none⟩) f.blocks.length cb] 36)) W:=by rw[<-hW];exact(tX _).alloc _
 have B0:Hid (∀w',Gr W w'->w'.cell? ⟨w.heap.size,0,none⟩=some (.slice Ap f.params.length cp)/\w'.cell? ⟨w.heap.size,1,none⟩=some (.int .i64 f.ret)/\w'.cell? ⟨w.heap.size,2,none⟩=some (.slice As f.slots.length cs)/\w'.cell? ⟨w.heap.size,3,none⟩=some (.slice (some ⟨bb,ob,none⟩) f.blocks.length cb)) :=
  fun w' q=>⟨(q.cell _ _ (by omega)).trans (da _ _ 0 g0 rfl),(q.cell _ _ (by omega)).trans (da _ _ 1 g0 rfl),(q.cell _ _ (by omega)).trans (da _ _ 2 g0 rfl),(q.cell _ _ (by omega)).trans (da _ _ 3 g0 rfl)⟩
 have bu:W.heap[w.heap.size+1]?=some (.cells #[.bool false] 4 (0,0)):=by rw[<-hW];exact heap_alloc2_new w _ _
 have R0:Hid (∀w',Gr W w'->w'.heap[w.heap.size+1]?=some (.cells #[.bool false] 4 (0,0))):=fun w' q=>(q.heap _ (by omega)).trans bu;have HS:Hid (Ir.isLaid f=(f.blocks.all Ref.laid && (Ref.before (Ref.graph f) 0).isEmpty && (Ir.items f).all (Ir.phiOk (Ref.graph f)))):=by show _=_;rfl
 have a8:Hid ((∀l∈f.blocks,l≠[])->∀d,Gr w d->Calls prog 97 #[.agg #[.slice Ap f.params.length cp,.int .i64 f.ret,.slice As f.slots.length cs,.slice (some ⟨bb,ob,none⟩) f.blocks.length cb]] d fun e w'=>∃A n c,e=.returned (.slice A n c)/\Hid (TabAt w'.heap.size w' (.slice A n c) (Ref.graph f))/\Gr d w') :=
  fun af d g1=>(ma _ f d (aU.gr g1) (by omega) af).mono fun _ _ ⟨u,h1,h2,h3⟩=>by have bk:=h2;obtain⟨A,c,rfl,-,-,-⟩:=h2;exact⟨A,_,c,h1,bk,h3⟩
 have a7:Hid (f.blocks.all Ref.laid=true->∀d u (z:Int),TabAt d.heap.size d u (Ref.graph f)->0<=z->z<f.blocks.length->Calls prog 98 #[u,.int .i64 z] d fun e w'=>∃A c,e=.returned (.tuple #[.slice A (Ref.before (Ref.graph f) z).length c,.int .i64 0])/\Hid (IntsAt w'.heap.size w' (.slice A (Ref.before (Ref.graph f) z).length c) (Ref.before (Ref.graph f) z))/\Gr d w'):=by intro hL d u z h h0 h1;refine(lH u (Ref.graph f) z d h (fK hA.out hL hb1 hb10) h0 (by simpa[Ref.graph] using h1)).mono ?_;rintro e w' ⟨v,q1,q2,q3⟩;have bz:=q2;obtain⟨A,c,rfl,-,-,-⟩:=q2;exact⟨A,c,q1,bz,q3⟩
 have a6:Hid (∀d,Calls prog 62 #[.agg #[.slice Ap f.params.length cp,.int .i64 f.ret,.slice As f.slots.length cs,.slice (some ⟨bb,ob,none⟩) f.blocks.length cb]] d fun e w'=>e=.returned (.func (.func 92) #[] #[.pointer (some ⟨d.heap.size,0,none⟩)])/\w'=d.alloc (.cells #[.slice Ap f.params.length cp,.int .i64 f.ret,.slice As f.slots.length cs,.slice (some ⟨bb,ob,none⟩) f.blocks.length cb] 36)):=fun d=>jd f Ap As _ _ _ _ cp cs cb d;have HC:=dJ Q;have bd:Hid (f.blocks.all Ref.laid=true->∀l∈f.blocks,l≠[]):=fun h l hl=>iO (tu.1 h l hl);refine(callsIn_wide (n:=5)).1 ?_;refine callsIn_of_wp_marks func64 rfl trivial ?_ rfl;simp only[ntmps64,List.size_toArray,List.length_cons,List.length_nil,Nat.reduceAdd,Nat.reduceSub,Array.replicate_succ,Array.replicate_zero,List.push_toArray,List.append_toArray,List.nil_append,List.cons_append];refine wpIn_wide.2 ?_;obtain⟨-,-,-,k3⟩:=B0.out W (tX _);clear g0 Q aR;go_wp2
 go_loopw [4,5,6,16] (fun _ _ _ b wr=>∃k:Nat,k<=f.blocks.length/\b=.int .i64 k/\Gr W wr/\Hid (f.blocks.all Ref.laid=(f.blocks.drop k).all Ref.laid)) (fun _ _ _ b _=>f.blocks.length-(intOf b).toNat)
 case atStart=>exact⟨0,tR _,rfl,tX _,rfl⟩
 case round =>
  obtain⟨k,hk,rfl,H,J⟩:=hrel;obtain⟨wo,rfl⟩:∃wo:World,wo=wr:=⟨_,rfl⟩;have a1:=R0.out _ H;have rc:=cell_of_one a1;have rf:=free_of_one a1;clear k3;rcases hr:f.blocks.drop k with _|⟨l,r⟩
  ·have bp:=dm hr hk;have HE:Hid (f.blocks.all Ref.laid=true):=by show _=_;rw[J.out,hr];rfl
   obtain⟨k0,k1,k2,k3⟩:=B0.out _ H;clear hr J;have bK:(f.blocks.length:Int)<=k:=by omega
   clear bp;have aq:=dJ (a8.out (bd.out HE.out));have Y:=dJ (a7.out HE.out);by_cases S:0<(Ref.before (Ref.graph f) 0).length
   ·have bs:(0:Int)<((Ref.before (Ref.graph f) 0).length:Int):=by omega
    have aw:Hid ((Ref.before (Ref.graph f) 0).isEmpty=false):=by show _=_;cases hbe:Ref.before (Ref.graph f) 0 with|nil=>(rw[hbe]at S;simp at S)|cons a b=>rfl
    clear S;go_wp2_with (first|(go_at_call 97;refine(aq.out _ (E.trans H)).mono ?_;rintro e d ⟨A1,n1,c1,rfl,O,g1⟩)|(go_at_call 98;refine(Y.out _ _ _ (O.out.gr ((tX _).alloc _)) (by omega) (by omega)).mono ?_;rintro e w2 ⟨A2,bj,rfl,bf,g2⟩;have C:Gr W w2:=H.trans (g1.trans (((tX _).alloc _).trans g2));obtain⟨d0,d1,d2,d3⟩:=B0.out _ C;have ai:=R0.out _ C;have a3:=cell_of_one ai;have bC:=free_of_one ai));refine nd rfl (dN _ _ 2 _ _ false rfl rfl (World.cell?_setCell_same' _ _ _ (by rw[a3];rfl))) ⟨cZ (by rw[HS.out,aw.out];simp),(E.trans C).setCell (by show w.heap.size<=w.heap.size+1;omega) _⟩
   ·have bM:((Ref.before (Ref.graph f) 0).length:Int)<=0:=by omega
    have aw:Hid ((Ref.before (Ref.graph f) 0).isEmpty=true):=by show _=_;rw[tK (show (Ref.before (Ref.graph f) 0).length=0 by omega)];rfl
    clear S;go_wp2_with (first|(go_at_call 97;refine(aq.out _ (E.trans H)).mono ?_;rintro e d ⟨A1,n1,c1,rfl,O,g1⟩)|(go_at_call 98;refine(Y.out _ _ _ (O.out.gr ((tX _).alloc _)) (by omega) (by omega)).mono ?_;rintro e w2 ⟨A2,bj,rfl,bf,g2⟩;have C:Gr W w2:=H.trans (g1.trans (((tX _).alloc _).trans g2));obtain⟨d0,d1,d2,d3⟩:=B0.out _ C;have ai:=R0.out _ C;have a3:=cell_of_one ai;have bC:=free_of_one ai)|(go_at_call 62;refine(a6.out _).mono ?_;rintro e w3 ⟨rfl,rfl⟩));have aP:Hid (Ir.isLaid f=(Ir.items f).all (Ir.phiOk (Ref.graph f))):=by show _=_;rw[HS.out,HE.out,aw.out];simp
    obtain⟨Z,ab⟩:=xJ (w2.alloc (.cells #[.slice Ap f.params.length cp,.int .i64 f.ret,.slice As f.slots.length cs,.slice (some ⟨bb,ob,none⟩) f.blocks.length cb] 36));have aV:Gr w w2:=E.trans C;have I:Gr w Z:=by rw[<-ab];exact aV.alloc _
    have bS:Z.heap.size<=w2.heap.size+1/\w2.heap.size+1<=Z.heap.size:=by rw[<-ab];simp
    have au:∀o,Z.cell? ⟨w2.heap.size,o,none⟩=(#[.slice Ap f.params.length cp,.int .i64 f.ret,.slice As f.slots.length cs,.slice (some ⟨bb,ob,none⟩) f.blocks.length cb]:Array Value)[o]?:=by intro o;rw[<-ab];exact tv _ _ _ _ _ _ (heap_alloc_new w2 _)
    have R:Gr w2 Z:=by rw[<-ab];exact(tX _).alloc _
    have av:Gr W Z:=C.trans R
    have a5:Hid (∀w',Gr Z w'->w'.heap[d.heap.size]?=some (.cells #[.slice A1 n1 c1] 25 (0,0))):=by
     intro w' q;have h1:d.heap.size<(d.alloc (.cells #[.slice A1 n1 c1] 25)).heap.size:=by simp
     exact((g2.trans (R.trans q)).heap _ h1).trans (heap_alloc_new d _)
    have az:Hid (∀w',Gr Z w'->TabAt w'.heap.size w' (.slice A1 n1 c1) (Ref.graph f)):=fun w' q=>O.out.gr (((tX _).alloc _).trans (g2.trans (R.trans q)));have bR:=E.size;have bT:=I.size
    have bQ:d.heap.size<Z.heap.size:=by have h1:=g2.size;have h2:=R.size;simp at h1;omega
    rw[ab];clear d0 d1 d2 d3
    refine fD (w:=w) (f:=f) (q:=10) (Bf:=w2.heap.size) rfl aU I (by omega) (by omega) (au 0) (au 3) (fun X U=>(∀it∈X,Ir.phiOk (Ref.graph f) it=true)/\Gr Z U)
     (fun c X U=>c=.ret/\(∃it∈X,Ir.phiOk (Ref.graph f) it=false)/\Below w.heap.size w U/\U.heap[w.heap.size+1]?=some (.cells #[.bool false] 4 (0,0)))
     (OwnFrom.and (ownFrom_pure _ _) (eP Z)) (fun c=>OwnFrom.and (ownFrom_pure _ _) (OwnFrom.and (ownFrom_pure _ _) (OwnFrom.and (ownFrom_below (tS _) (by omega)) (el _ _ _)))) (fun X U h=>h.2.size) ⟨fun it h=>by simp at h,tX _⟩ ?hassign ?hbody ?hdone ?hstop
    case hassign =>
     intro l it aa ta ca ct U K hK;simp only[tO,List.set_cons_succ,List.set_cons_zero,kn,oA]at hK ⊢;gi_wp2;exact hK
    case hbody =>
     rintro l X it aa ta ca ct U Bx ⟨ag,G⟩ a2 aH ae aX bG ak;simp only[tO,List.set_cons_succ,List.set_cons_zero,kn];have aQ:Bx<U.heap.size:=(sZ.1 ak).1;have HX:Hid (∀w' o,Gr U w'->w'.cell? ⟨Bx,o,none⟩=(oA it aa ta ca ct)[o]?):=fun w' o q=>(q.cell Bx o aQ).trans (tv _ _ _ _ _ _ ak);have x0:U.cell? ⟨Bx,0,none⟩=some (.int .i64 it.ins.op):=HX.out _ 0 (tX _);have x7:U.cell? ⟨Bx,7,none⟩=some (.int .i64 it.blk):=HX.out _ 7 (tX _);have bJ:=cell_of_one (a5.out _ G)
     have aW:(it.blk:Int)<f.blocks.length:=by obtain⟨lb,e1,e2⟩:=fA f it ae;have:=(sZ.1 (show f.blocks.toArray[it.blk]?=some lb by simpa using e1)).1;simp at this;omega
     have bE:=dJ ae;clear ae aX ak;by_cases ho:it.ins.op=28
     ·have bq:(it.ins.op != 28)=false:=by simp[ho]
      obtain⟨ev,aA⟩:∃ev,decide (Ref.before (Ref.graph f) it.blk=it.ins.to)=ev:=⟨_,rfl⟩;have am:Hid (Ir.phiOk (Ref.graph f) it=ev):=by show _=_;unfold Ir.phiOk;rw[aA];simp[ho]
      have ba:Hid (∀w' v',IntsAt w'.heap.size w' v' (Ref.before (Ref.graph f) it.blk)->Gr w w'->Calls prog 99 #[v',.slice ta it.ins.to.length ct] w' (RG (.bool ev) w')):=by rw[<-aA];exact fun w' v' h q=>gh v' _ _ _ w' h (aH.gr q)
      clear ho aA;cases ev
      all_goals gi_wp2_with (first|(refine⟨trivial,?_⟩;gi_at_call 98;refine(CallsIn.inRound l (callsIn_wide.2 (Y.out _ _ _ (az.out _ G) (by omega) aW))).mono ?_;rintro e w4 ⟨A4,c4,rfl,bg,g4⟩;have x5:w4.cell? ⟨Bx,5,none⟩=some (.slice ta it.ins.to.length ct):=HX.out _ 5 g4)|(refine⟨trivial,?_⟩;gi_at_call 99;refine(CallsIn.inRound l (callsIn_wide.2 (ba.out _ _ bg.out (I.trans (G.trans g4))))).mono ?_;rintro e w5 ⟨rfl,g5⟩;have aE:=R0.out _ (av.trans (G.trans (g4.trans g5)));have bV:=cell_of_one aE;have bX:=free_of_one aE))
      ·refine⟨((g4.trans g5).keeps.trans (KeepsOthers.setCell _ _ _)).from _,rfl,⟨it,by simp,am.out⟩,?_,?_⟩
       ·exact Below.setCell (I.trans (G.trans (g4.trans g5))) (p:=⟨w.heap.size+1,0,none⟩) (by show w.heap.size<=w.heap.size+1;omega) _
       ·exact cY (i:=0) (.bool false) aE
      ·refine⟨(g4.trans g5).keeps.from _,Below.mono (g4.trans g5) (by have:=I.size;have:=G.size;omega),?_,G.trans (g4.trans g5)⟩;intro aK aB;rcases tI.1 aB with h|h
       ·exact ag aK h
       ·simp at h;subst h;exact am.out
     ·have bq:(it.ins.op != 28)=true:=by simp[ho]
      have am:Hid (Ir.phiOk (Ref.graph f) it=true):=by show _=_;unfold Ir.phiOk;simp[ho]
      clear ho;gi_wp2;refine⟨(KeepsOthers.refl _).from _,Below.refl _ _,?_,G⟩;intro aK aB;rcases tI.1 aB with h|h
      ·exact ag aK h
      ·simp at h;subst h;exact am.out
    case hdone =>
     rintro D U hD ⟨ag,G⟩ hK;have aF:=R0.out _ (av.trans G);have bW:=cell_of_one aF;have bY:=free_of_one aF;have HT:Hid (Ir.isLaid f=true):=by show _=_;rw[aP.out];exact tu.2 ag
     have HK:=dJ hK;clear ag hK;go_wp2;refine rR (w0:=w) (Br:=w.heap.size+1) (b:=true) (t:=2) rfl ((KeepsOthers.setCell _ _ _).same D _ HK.out rfl) rfl rfl (cY (i:=0) (.bool true) aF) (Below.setCell (I.trans G) (p:=⟨w.heap.size+1,0,none⟩) (by show w.heap.size<=w.heap.size+1;omega) _) (by omega) ?_;exact fun w' g=>⟨cZ (by rw[HT.out]),g⟩
    case hstop =>
     rintro D c X U hD aZ ⟨rfl,⟨it,hm,aY⟩,hB,bn⟩ hK;have HF:Hid (Ir.isLaid f=false):=by show _=_;rw[aP.out];exact List.all_eq_false.2 ⟨it,aZ.subset hm,by simp[aY]⟩
     have HK:=dJ hK;clear hK hm aY;go_wp2;refine rR (w0:=w) (Br:=w.heap.size+1) (b:=false) (t:=2) rfl HK.out rfl rfl bn hB (by omega) ?_;exact fun w' g=>⟨cZ (by rw[HF.out]),g⟩
  ·obtain⟨aX,hl,a0⟩:=di hr;obtain⟨u,hu,bx⟩:=HC.out k l hl;have bw:=((E.trans H).cell _ _ bm).trans hu;obtain⟨Al,cl,rfl,p1,p2,p3⟩:=bx;have HR:Hid (f.blocks.all Ref.laid=(Ref.laid l && r.all Ref.laid)):=by show _=_;rw[J.out,hr];rfl
   have be:Hid (f.blocks.drop (k+1)=r):=a0;have P3:=dJ p3;clear hr hl a0 J hu p3;by_cases ad:l.length=0
   ·have n0:((l.length:Int) == 0)=true:=by simp[ad]
    have HE:Hid (Ref.laid l=false):=by show _=_;rw[tK ad];rfl
    clear ad;go_wp2;refine nd rfl (dN _ _ 2 _ _ false rfl rfl (World.cell?_setCell_same' _ _ _ (by rw[rc];rfl))) ⟨cZ (by rw[HS.out,HR.out,HE.out];simp),(E.trans H).setCell (by show w.heap.size<=w.heap.size+1;omega) _⟩
   ·have n0:((l.length:Int) == 0)=false:=by rw[beq_eq_false_iff_ne];omega
    have af:l≠[]:=fun h=>ad (by rw[h];rfl);have ay:Hid (Ref.laid l=Ref.laidFrom l true):=nR af;obtain⟨bl,ol,rfl,L,aS⟩:=P3.out (by omega);have ax:=dJ aS;obtain⟨y,hy⟩:∃y,l.getLast?=some y:=⟨_,List.getLast?_eq_some_getLast af⟩;obtain⟨m,hm⟩:∃m,m+1=l.length:=⟨l.length-1,by omega⟩;have aJ:l[m]?=some y:=by rw[List.getLast?_eq_getElem?]at hy;rw[show m=l.length-1 by omega];exact hy
    obtain⟨_,_,y0,-⟩:=ax.out m y aJ;have bD:=((E.trans H).cell _ _ L).trans y0;have wm:(l.length:Int)-1=m:=by omega
    have bN:(m:Int)<l.length:=by omega
    obtain⟨ly,ap⟩:=xJ (Ref.isLast y.op);have aM:Hid (∀d,Calls prog 96 #[.int .i64 y.op] d (RS (.bool ly) d)):=by rw[<-ap];exact fun d=>gz y.op d
    have bc:Hid (ly=false->Ref.laid l=false):=fun h=>laid_last hy (by rw[ap,h]);have bi:Hid (l[m]?=some y/\Ref.isLast y.op=ly):=⟨aJ,ap⟩;have HM:=dJ hm;clear ad af aS hy hm aJ y0 ap
    cases ly with
    | false =>
     have HE:=dJ (bc.out rfl);go_wp2_with (go_at_call 96;refine(aM.out _).mono ?_;rintro e d ⟨rfl,rfl⟩);refine nd rfl (dN _ _ 2 _ _ false rfl rfl (World.cell?_setCell_same' _ _ _ (by rw[rc];rfl))) ⟨cZ (by rw[HS.out,HR.out,HE.out];simp),(E.trans H).setCell (by show w.heap.size<=w.heap.size+1;omega) _⟩
    | true =>
     go_wp2_with (go_at_call 96;refine(aM.out _).mono ?_;rintro e d ⟨rfl,rfl⟩)
     go_loopw [5,6,36] (fun _ _ i wr=>∃j:Nat,j<=l.length/\i=.int .i64 j/\Gr W wr/\Hid (Ref.laidFrom l true=Ref.laidFrom (l.drop j) (fY l j))) (fun _ _ i _=>l.length-(intOf i).toNat)
     case atStart=>exact⟨0,tR _,rfl,H,rfl⟩
     case round =>
      obtain⟨j,hj,rfl,B,F⟩:=hrel;obtain⟨wp,rfl⟩:∃wp:World,wp=wr:=⟨_,rfl⟩;have aj:=R0.out _ B;have bA:=cell_of_one aj;have bB:=free_of_one aj;clear bw rc rf bD;rcases hr1:l.drop j with _|⟨x,r1⟩
      ·have bo:=dm hr1 hj;have a9:Hid (Ref.laidFrom l true=true):=by show _=_;rw[F.out,hr1];rfl
       subst bo;clear hr1 F;go_wp2;go_roundw;case rel=>exact⟨k+1,by omega,by go_num,B,by (show _=_;rw[HR.out,be.out,ay.out,a9.out];simp)⟩
       case measure=>simp[intOf];omega
      ·obtain⟨bF,hx,ah⟩:=di hr1;obtain⟨va,vt,i0,i1,i2,i3,i4,i5,a2,aH⟩:=ax.out j x hx;have M:=E.trans B;obtain⟨Aa,ca,rfl,-,-,-⟩:=a2;obtain⟨At,ct,rfl,-,-,-⟩:=aH;have j0:=(M.cell _ _ L).trans i0;have j1:=(M.cell _ _ L).trans i1;have j2:=(M.cell _ _ L).trans i2;have j3:=(M.cell _ _ L).trans i3;have j4:=(M.cell _ _ L).trans i4;have j5:=(M.cell _ _ L).trans i5;have an:Hid (Ref.laidFrom l true=((Ref.isLast x.op == r1.isEmpty) && (decide (x.op≠28) || fY l j) && Ref.laidFrom r1 (decide (x.op=28)))):=by show _=_;rw[F.out,hr1];rfl
       have ar:Hid (Ref.laidFrom r1 (decide (x.op=28))=Ref.laidFrom (l.drop (j+1)) (fY l (j+1))):=by show _=_;rw[eQ l j x hx,ah]
       have aG:r1.isEmpty=decide ((j:Int)=m):=by
        have h1:r1.length=l.length-(j+1):=by rw[<-ah];simp
        have h2:=HM.out
        cases r1 with
        | nil=>rw[List.length_nil]at h1;simp only[List.isEmpty_nil];symm;rw[decide_eq_true_eq];omega
        | cons a b=>rw[List.length_cons]at h1;simp only[List.isEmpty_cons];symm;rw[decide_eq_false_iff_not];omega
       have HX:Hid (l[j]?=some x):=hx;have bh:Hid (∀j' T,l[j']?=some T->w.cell? ⟨bl,ol+j' * 6,none⟩=some (.int .i64 T.op)):=fun j' T h=>by obtain⟨_,_,i0,-⟩:=ax.out j' T h;exact i0
       have bL:(j:Int)<(l.length:Int):=by omega
       clear hr1 hx ah F i0 i1 i2 i3 i4 i5;obtain⟨ph,br⟩:∃ph,(x.op == 28)=ph:=⟨_,rfl⟩
       have aN:Hid (decide (x.op≠28)=!ph):=by show _=_;rw[<-br];by_cases h:x.op=28<;>simp[h]
       obtain⟨la,aC⟩:=xJ (Ref.isLast x.op);have aL:Hid (∀d,Calls prog 96 #[.int .i64 x.op] d (RS (.bool la) d)):=by rw[<-aC];exact fun d=>gz x.op d
       have aT:(((j:Int)<m)/\Hid ((Ref.isLast x.op == r1.isEmpty)=!la))\/((m:Int)<=j/\Hid ((Ref.isLast x.op == r1.isEmpty)=true)):=by
        rcases Int.lt_or_le (j:Int) m with h|h
        ·refine .inl ⟨h,?_⟩;show _=_;rw[aG,aC,decide_eq_false (by omega)];cases la<;>rfl
        ·refine .inr ⟨h,?_⟩;show _=_;have ac:j=m:=by have:=HM.out;omega
         have e1:=bi.out;rw[<-ac,HX.out]at e1;obtain⟨e1,e2⟩:=e1;cases e1;rw[aG,e2,decide_eq_true (by omega)];rfl
       clear aG aC;have a4:∀o,(wp.alloc o).cell? ⟨w.heap.size+1,0,none⟩=some (.bool false):=fun o=>cell_of_one (R0.out _ (B.alloc o));have bZ:∀o,(wp.alloc o).frozen? ⟨w.heap.size+1,0,none⟩=false:=fun o=>free_of_one (R0.out _ (B.alloc o));clear bA bB aj;rcases (by omega:j=0\/0<j) with ao|ao
       ·have al:Hid (fY l j=true):=by show _=_;rw[ao];rfl
        have hz:(j:Int)<=0:=by omega
        clear ao;rcases aT with ⟨ac,N⟩|⟨ac,N⟩;all_goals cases la
        all_goals cases ph
        all_goals go_wp2_with (go_at_call 96;refine(aL.out _).mono ?_;rintro e d ⟨rfl,rfl⟩)
        all_goals first
         | (go_roundw
            case rel=>exact⟨j+1,by omega,by go_num,B.alloc _,by (show _=_;rw[an.out,N.out,al.out,ar.out];simp)⟩
            case measure=>simp[intOf];omega)
         | (refine nd rfl (dN _ _ 2 _ _ false rfl rfl (World.cell?_setCell_same' _ _ _ (by rw[a4 _];rfl))) ⟨cZ (by rw[HS.out,HR.out,ay.out,an.out,N.out];simp),((E.trans B).alloc _).setCell (by show w.heap.size<=w.heap.size+1;omega) _⟩)
       ·obtain⟨p,hp⟩:∃p,p+1=j:=⟨j-1,by omega⟩;obtain⟨T,aI⟩:∃T,l[p]?=some T:=⟨l[p]'(by omega),sQ (by omega)⟩;have jp:=(M.cell _ _ L).trans (bh.out p T aI);have bU:∀o,(wp.alloc o).cell? ⟨bl,ol+p*6,none⟩=some (.int .i64 T.op):=fun o=>(((tX wp).alloc o).cell bl _ (by have:=M.size;omega)).trans jp;have al:Hid (fY l j=decide (T.op=28)):=by show _=_;rw[<-hp];exact eQ l p T aI
        obtain⟨pp,aD⟩:∃pp,(T.op == 28)=pp:=⟨_,rfl⟩;have bP:(T.op != 28)=!pp:=by rw[bne,aD]
        have aO:Hid (decide (T.op=28)=pp):=by show _=_;rw[<-aD];rfl
        have wj:(j:Int)-1=p:=by omega
        have hz:(0:Int)<j:=by omega
        have bO:(p:Int)<(l.length:Int):=by omega
        clear aI ao hp aD jp;rcases aT with ⟨ac,N⟩|⟨ac,N⟩;all_goals cases la
        all_goals cases ph
        all_goals cases pp
        all_goals go_wp2_with (go_at_call 96;refine(aL.out _).mono ?_;rintro e d ⟨rfl,rfl⟩)
        all_goals first
         | (go_roundw
            case rel=>exact⟨j+1,by omega,by go_num,B.alloc _,by (show _=_;rw[an.out,N.out,al.out,aO.out,aN.out,ar.out];simp)⟩
            case measure=>simp[intOf];omega)
         | (refine nd rfl (dN _ _ 2 _ _ false rfl rfl (World.cell?_setCell_same' _ _ _ (by rw[a4 _];rfl))) ⟨cZ (by rw[HS.out,HR.out,ay.out,an.out,N.out,al.out,aO.out,aN.out];simp),((E.trans B).alloc _).setCell (by show w.heap.size<=w.heap.size+1;omega) _⟩)
end

/- Parts. -/
import Derived.Test.YtjkajidbdmbbaaaGreatI46
set_option linter.unusedSimpArgs false
set_option linter.unusedVariables false
set_option maxRecDepth 100000
set_option maxHeartbeats 16000000
open Go.Proofs.Tryz
namespace Go.Proofs.YtjkajidbdmbbaaaGreat
open Go.RowKit
theorem ry (b:Int)(w:World):Calls prog 117 #[.int .i64 b] w (RT (.bool (decide (b < -1) || decide (255<b))) w):=by
 by_cases d:b < -1
 ·go_enter func117, ntmps117
  go_wp2;go_ret;exact⟨cZ (by simp[d]),rfl⟩
 ·by_cases g:255<b
  all_goals
   go_enter func117, ntmps117
   go_wp2;go_ret;exact⟨cZ (by simp[d,g]),rfl⟩
theorem rO {B:Nat}{w:World}{v:Value}{zs:List Int}(hv:IntsAt B w v zs):Calls prog 88 #[v,.func (.func 117) #[] #[]] w (RG (.bool (zs.any fun b=>decide (b < -1) || decide (255<b))) w):=by
 obtain⟨A,c,rfl,r,t,m⟩:=hv;rcases Nat.eq_zero_or_pos zs.length with l|d
 ·obtain rfl:=tK l;exact(Tryz.slices_ContainsFunc_empty_f40 (α:=Int) A c _ w).mono fun e w' h=>⟨h.1,by rw[h.2];exact tX _⟩
 ·obtain⟨b,o,rfl,u,p⟩:=m d
  refine(Tryz.slices_ContainsFunc_f40 (fun z:Int=>Value.int .i64 z) (fun b=>decide (b < -1) || decide (255<b)) 117 #[] (fun args w=>by kernel_rfl) b o zs.length c zs w (fun W x _=>(ry x W).mono fun e w' h=>⟨h.1,0,by rw[h.2];rfl⟩) (tS _) (by omega) (fun j g=>by rw[getElem!_pos zs j g];exact p j _ (sQ g))).mono ?_
  rintro e w' ⟨rfl,q,rfl⟩;rw[tE];exact⟨rfl,(tX w).drewN q⟩
namespace Rn
theorem zip_any_at {α β:Type}{l:List α}{m:List β}{p:α × β->Bool}{j:Nat}{a:α}{b:β}(h1:l[j]?=some a)(h2:m[j]?=some b)(hp:p (a,b)=true):(l.zip m).any p=true:=by rw[tP];exact⟨(a,b),sS (List.getElem?_zip_eq_some.2 ⟨h1,h2⟩),hp⟩
theorem zip_any_none {α β:Type}{l:List α}{m:List β}{p:α × β->Bool}(h:∀(j:Nat)(a:α)(b:β),l[j]?=some a->m[j]?=some b->p (a,b)=false):(l.zip m).any p=false:=by rw[List.any_eq_false];rintro⟨a,b⟩ r;obtain⟨j,q⟩:=List.getElem?_of_mem r;obtain⟨d,g⟩:=List.getElem?_zip_eq_some.1 q;rw[h j a b d g];exact Bool.false_ne_true
end Rn
theorem mZ {w:World}{f:Fn}{vf:Value}(hfn:FnAt w.heap.size w vf f)(hnice:fH f){i:Rn.Inp}{va vm:Value}(ha:U32At w.heap.size w va i.args)(hm:TabAt w.heap.size w vm i.mem) :
  Calls prog 78 #[vf,.agg #[va,vm]] w (RG (.int .i64 (Rn.validInput f i)) w):=by
 obtain⟨vp,vs,vb,rfl,hp,hs,Q⟩:=hfn;obtain⟨W,hW⟩:=xJ ((w.alloc (.cells #[vp,.int .i64 f.ret,vs,vb] 36)).alloc (.cells #[va,vm] 41));have D:Gr w W:=by rw[<-hW];exact((tX w).alloc _).alloc _
 have am:(w.alloc (.cells #[vp,.int .i64 f.ret,vs,vb] 36)).heap.size=w.heap.size+1:=by simp
 have T:W.heap[w.heap.size]?=some (.cells #[vp,.int .i64 f.ret,vs,vb] 36 (0,0)):=by rw[<-hW];exact(((tX (w.alloc (.cells #[vp,.int .i64 f.ret,vs,vb] 36))).alloc _).heap _ (by simp)).trans (heap_alloc_new w _)
 have X:W.heap[w.heap.size+1]?=some (.cells #[va,vm] 41 (0,0)):=by rw[<-hW,<-am];exact heap_alloc_new _ _
 have CV:=dJ (fB (.agg #[vp,.int .i64 f.ret,vs,vb]) f W ⟨vp,vs,vb,rfl,(hp.below D).mono D.size,(hs.below D).mono D.size,(Q.below D).mono D.size⟩ hnice);have HF:Hid (∀wr,Gr W wr->wr.heap[w.heap.size]?=some (.cells #[vp,.int .i64 f.ret,vs,vb] 36 (0,0))/\wr.heap[w.heap.size+1]?=some (.cells #[va,vm] 41 (0,0))):=fun wr g=>⟨(g.heap _ (cX T)).trans T,(g.heap _ (cX X)).trans X⟩;obtain⟨Ap,cp,rfl,p1,p2,p3⟩:=hp;obtain⟨As,cs,rfl,s1,s2,s3⟩:=hs;obtain⟨Ab,cb,rfl,-,-,-⟩:=id Q;obtain⟨Aa,ca,rfl,a1,a2,a3⟩:=ha;obtain⟨Am,cm,rfl,m1,m2,m3⟩:=hm
 have ay:Hid (∀wr,Gr W wr->∀j z,f.params[j]?=some z->∃b o,Ap=some ⟨b,o,none⟩/\wr.cell? ⟨b,o+j,none⟩=some (.int .i64 z)):=fun wr g j z p=>by obtain⟨b,o,e,Q,O⟩:=p3 (by have:=(sR.1 p).1;omega);exact⟨b,o,e,((D.trans g).cell _ _ (by omega)).trans (O j z p)⟩
 have az:Hid (∀wr,Gr W wr->∀j z,f.slots[j]?=some z->∃b o,As=some ⟨b,o,none⟩/\wr.cell? ⟨b,o+j,none⟩=some (.int .i64 z)):=fun wr g j z p=>by obtain⟨b,o,e,Q,O⟩:=s3 (by have:=(sR.1 p).1;omega);exact⟨b,o,e,((D.trans g).cell _ _ (by omega)).trans (O j z p)⟩
 have aq:Hid (∀wr,Gr W wr->∀j z,i.args[j]?=some z->∃b o,Aa=some ⟨b,o,none⟩/\wr.cell? ⟨b,o+j,none⟩=some (.int .u32 z)):=fun wr g j z p=>by obtain⟨b,o,e,Q,O⟩:=a3 (by have:=(sR.1 p).1;omega);exact⟨b,o,e,((D.trans g).cell _ _ (by omega)).trans (O j z p)⟩
 have au:Hid (∀wr,Gr W wr->∀j l,i.mem[j]?=some l->∃b o Al cl,Am=some ⟨b,o,none⟩/\wr.cell? ⟨b,o+j,none⟩=some (.slice Al l.length cl)/\l.length<=17592186044416/\Calls prog 88 #[.slice Al l.length cl,.func (.func 117) #[] #[]] wr (RG (.bool (l.any fun b=>decide (b < -1) || decide (255<b))) wr)):=fun wr g j l Y=>by obtain⟨b,o,e,Q,O⟩:=m3 (by have:=(sR.1 Y).1;omega);obtain⟨u,hu,an⟩:=O j l Y;have ao:=an;obtain⟨Al,cl,rfl,-,h6,-⟩:=ao;exact⟨b,o,Al,cl,e,((D.trans g).cell _ _ (by omega)).trans hu,h6,rO (an.below (D.trans g))⟩
 have B:=dJ D;obtain⟨R,hR⟩:=xJ (Rn.validInput f i);rw[hR];unfold Rn.validInput at hR;have HR:=dJ hR;obtain⟨V,hV⟩:=xJ (Ref.validate f);rw[hV]at CV HR;have HV:=dJ hV
 have S:∀wr,Gr W wr->C6 wr w.heap.size (.slice Ap f.params.length cp) (.int .i64 f.ret) (.slice As f.slots.length cs) (.slice Ab f.blocks.length cb) (.slice Aa i.args.length ca) (.slice Am i.mem.length cm):=fun wr g=>by obtain⟨q1,q2⟩:=HF.out wr g;exact⟨tv _ _ 0 _ _ _ q1,tv _ _ 1 _ _ _ q1,tv _ _ 2 _ _ _ q1,tv _ _ 3 _ _ _ q1,tv _ _ 0 _ _ _ q2,tv _ _ 1 _ _ _ q2⟩
 have HC:=dJ S;obtain⟨k0,k1,k2,k3,k4,k5⟩:=S W (tX _);clear D T X p3 s3 a3 m3 hR hV S am Q;by_cases ap:V=0
 ·subst ap
  have HW:Hid (∀j z,f.params[j]?=some z->Wd.Wid z):=fun j z p=>by have hv:Ref.Val f:=(Ref.val_iff f).1 HV.out;exact Rn.wid_of (tu.1 hv.head.1 z (sS p))
  by_cases d:i.args.length=f.params.length
  ·by_cases A:i.mem.length=f.slots.length
   ·have af:Hid ((if (f.params.zip i.args).any (fun q=>decide (Wd.sz q.1<=q.2))=true then 1 else if (f.slots.zip i.mem).any (fun q=>decide ((q.2.length:Int)≠q.1) || q.2.any (fun b=>decide (b < -1) || decide (255<b)))=true then 1 else 0)=R):=by
     have:=HR.out;rw[tC (by decide),tC (by omega)]at this;exact this
    obtain⟨n,Z⟩:=xJ f.params.length;obtain⟨m,hm⟩:=xJ f.slots.length;rw[Z]at d p1 p2 k0;rw[hm]at A s1 s2 k2;rw[d]at a1 a2 k4;rw[A]at m1 m2 k5
    have ac:Hid (∀wr,Gr W wr->wr.cell? ⟨w.heap.size,0,none⟩=some (.slice Ap n cp)/\wr.cell? ⟨w.heap.size,2,none⟩=some (.slice As m cs)/\wr.cell? ⟨w.heap.size+1,0,none⟩=some (.slice Aa n ca)/\wr.cell? ⟨w.heap.size+1,1,none⟩=some (.slice Am m cm)):=fun wr g=>by obtain⟨q0,q1,q2,q3,q4,q5⟩:=HC.out wr g;rw[Z]at q0;rw[hm]at q2;rw[d]at q4;rw[A]at q5;exact⟨q0,q2,q4,q5⟩
    have ad:=dJ Z;have ae:=dJ hm;have av:=dJ d;have aw:=dJ A;rw[Z,hm,d,A]at hW;rw[Z,hm]at CV;rw[Z,hm,d,A];clear d A Z hm
    go_enter func78, ntmps78
    go_wp2_with (go_at_call 42;refine CV.out.mono ?_;rintro e L ⟨rfl,K⟩;obtain⟨j0,j2,j4,j5⟩:=ac.out L K;have t:=dJ K)
    have ax:Hid (∀k z x,f.params[k]?=some z->i.args[k]?=some x->Wd.sz z<=x->R=1):=fun k z x r y h3=>by rw[<-af.out,tB (Rn.zip_any_at r y (by simpa using h3))]
    go_loop [36] (fun aa=>∃k:Nat,k<=n/\aa=.int .i64 (k:Int)/\Hid (∀j z x,j<k->f.params[j]?=some z->i.args[j]?=some x->x<Wd.sz z)) (fun aa=>n-(intOf aa).toNat)
    case atStart=>exact⟨0,tR _,rfl,(fun j z x h=>absurd h (Nat.not_lt_zero _))⟩
    case round =>
     obtain⟨k,hk,rfl,F⟩:=hrel;by_cases al:k<n
     ·obtain⟨z,p⟩:∃z,f.params[k]?=some z:=⟨_,sQ (by have:=ad.out;omega)⟩;obtain⟨x,hx⟩:∃x,i.args[k]?=some x:=⟨_,sQ (by have:=av.out;omega)⟩;obtain⟨bp,op,rfl,cz⟩:=ay.out L t.out k z p;obtain⟨ba,oa,rfl,cx⟩:=aq.out L t.out k x hx;have CM:=dJ (jh z L (HW.out k z p));have M:=dJ (ax.out k z x p hx)
      have H:Hid (x<Wd.sz z->∀j z x,j<k+1->f.params[j]?=some z->i.args[j]?=some x->x<Wd.sz z):=fun h j z' x' hj r y=>by
       rcases tF j k with q|q
       ·exact F.out j z' x' q r y
       ·obtain rfl:j=k:=by omega
        rw[p]at r;rw[hx]at y;injection r with r;injection y with y;subst r;subst y;exact h
      obtain⟨s,hs⟩:=xJ (Wd.sz z);rw[hs]at CM M H;clear p hx hs;by_cases ah:s<=x
      ·have C:Hid (R=1):=M.out ah;have aA:s-1<x:=by omega
       go_wp2_with (go_at_call 116;refine CM.out.mono ?_;rintro e w2 ⟨rfl,rfl⟩);go_ret;exact⟨dc C.out.symm,B.out.trans t.out⟩
      ·have aA:¬s-1<x:=by omega
       have I:=dJ (H.out (by omega));go_wp2_with (go_at_call 116;refine CM.out.mono ?_;rintro e w2 ⟨rfl,rfl⟩);go_round;case rel=>exact⟨k+1,by omega,by go_num,I⟩
       case measure=>simp[intOf];omega
     ·obtain rfl:n=k:=by omega
      have ag:Hid ((if (f.slots.zip i.mem).any (fun q=>decide ((q.2.length:Int)≠q.1) || q.2.any (fun b=>decide (b < -1) || decide (255<b)))=true then 1 else 0)=R):=by
       show _=_;have h:=af.out
       rw[Rn.zip_any_none (fun j a b r y=>by
         have hj:=(sR.1 r).1
         have:=F.out j a b (by have:=ad.out;omega) r y
         simpa using this)]at h
       simpa using h
      clear F al hk;go_wp2
      go_loopw [57] (fun ab wr=>∃k:Nat,k<=m/\ab=.int .i64 (k:Int)/\Hid (Gr W wr)/\Hid (∀j z l,j<k->f.slots[j]?=some z->i.mem[j]?=some l->(decide ((l.length:Int)≠z) || l.any (fun b=>decide (b < -1) || decide (255<b)))=false)) (fun ab _=>m-(intOf ab).toNat)
      case atStart=>exact⟨0,tR _,rfl,t,(fun j z x h=>absurd h (Nat.not_lt_zero _))⟩
      case round =>
       obtain⟨k,hk,rfl,U,F⟩:=hrel;obtain⟨q0,q2,q4,q5⟩:=ac.out wr U.out;by_cases al:k<m
       ·obtain⟨z,p⟩:∃z,f.slots[k]?=some z:=⟨_,sQ (by have:=ae.out;omega)⟩;obtain⟨l,Y⟩:∃l,i.mem[k]?=some l:=⟨_,sQ (by have:=aw.out;omega)⟩;obtain⟨bs,os,rfl,cz⟩:=az.out wr U.out k z p;obtain⟨bm,om,Al,cl,rfl,cx,aD,J⟩:=au.out wr U.out k l Y;have CC:=dJ J
        have G:Hid ((decide ((l.length:Int)≠z) || l.any (fun b=>decide (b < -1) || decide (255<b)))=true->R=1):=fun h=>by rw[<-ag.out,tB (Rn.zip_any_at p Y h)]
        have H:Hid ((decide ((l.length:Int)≠z) || l.any (fun b=>decide (b < -1) || decide (255<b)))=false->∀j z l,j<k+1->f.slots[j]?=some z->i.mem[j]?=some l->(decide ((l.length:Int)≠z) || l.any (fun b=>decide (b < -1) || decide (255<b)))=false):=fun h j z' l' hj r y=>by
         rcases tF j k with q|q
         ·exact F.out j z' l' q r y
         ·obtain rfl:j=k:=by omega
          rw[p]at r;rw[Y]at y;injection r with r;injection y with y;subst r;subst y;exact h
        obtain⟨bd,ai⟩:∃bd,l.any (fun b=>decide (b < -1) || decide (255<b))=bd:=⟨_,rfl⟩;rw[ai]at CC G H;clear p Y J ai;by_cases E:(l.length:Int)=z
        ·have aj:((l.length:Int) != z)=false:=by simp[E]
         have ar:=dJ E;clear E
         cases bd with
         | true =>
          have C:Hid (R=1):=G.out (by simp);go_wp2_with (go_at_call 88;refine CC.out.mono ?_;rintro e w2 ⟨rfl,g2⟩);go_ret;exact⟨dc C.out.symm,B.out.trans (U.out.trans g2)⟩
         | false =>
          have I:=dJ (H.out (by simp[ar.out]));go_wp2_with (go_at_call 88;refine CC.out.mono ?_;rintro e w2 ⟨rfl,g2⟩;have G2:=dJ (U.out.trans g2));refine⟨⟨k+1,by omega,by go_num,G2,I⟩,by simp[intOf];omega⟩
        ·have aj:((l.length:Int) != z)=true:=by simpa using E
         have C:Hid (R=1):=G.out (by simp[E]);clear E;go_wp2;go_ret;exact⟨dc C.out.symm,B.out.trans U.out⟩
       ·obtain rfl:m=k:=by omega
        have C:Hid (R=0):=by
         show _=_
         rw[<-ag.out,Rn.zip_any_none (fun j a b r y=>by
           have hj:=(sR.1 r).1
           exact F.out j a b (by have:=ae.out;omega) r y)]
         rfl
        go_wp2;go_ret;exact⟨dc C.out.symm,B.out.trans U.out⟩
   ·have C:Hid (R=1):=by show _=_;rw[<-HR.out,tC (by decide),tB (.inr A)]
    have ak:¬((i.mem.length:Int)=(f.slots.length:Int)):=by omega
    have N:(i.args.length:Int)=(f.params.length:Int):=by omega
    have aB:((i.args.length:Int) != (f.params.length:Int))=false:=by simp[d]
    have aC:((i.mem.length:Int) != (f.slots.length:Int))=true:=by simp;omega
    clear d N ak
    go_enter func78, ntmps78
    go_wp2_with (go_at_call 42;refine CV.out.mono ?_;rintro e L ⟨rfl,K⟩;obtain⟨j0,j1,j2,j3,j4,j5⟩:=HC.out L K;have t:=dJ K);go_ret;exact⟨dc C.out.symm,B.out.trans t.out⟩
  ·have C:Hid (R=1):=by show _=_;rw[<-HR.out,tC (by decide),tB (.inl d)]
   have N:¬((i.args.length:Int)=(f.params.length:Int)):=by omega
   go_enter func78, ntmps78
   go_wp2_with (go_at_call 42;refine CV.out.mono ?_;rintro e L ⟨rfl,K⟩;obtain⟨j0,j1,j2,j3,j4,j5⟩:=HC.out L K;have t:=dJ K);go_ret;exact⟨dc C.out.symm,B.out.trans t.out⟩
 ·have C:Hid (R=V):=by show _=_;rw[<-HR.out,tB ap]
  go_enter func78, ntmps78
  go_wp2_with (go_at_call 42;refine CV.out.mono ?_;rintro e L ⟨rfl,K⟩);go_ret;exact⟨dc C.out.symm,B.out.trans K⟩
theorem lm {S:Nat->Prop}{w a b:World}(g:Gr w a)(h:FrS S a b)(hS:∀k,S k->w.heap.size<=k):Gr w b :=
 ⟨h.os.trans g.os,h.tape.trans g.tape,h.output.trans g.output,Nat.le_trans g.size h.size,fun k d=>(h.block k (by have:=g.size;omega) (fun q=>by have:=hS k q;omega)).trans (g.heap k d)⟩
theorem U32At.below {B:Nat}{w w':World}{v:Value}{zs:List Int}(h:U32At B w v zs)(hb:Below B w w'):U32At B w' v zs :=
 SlAt.imp h fun b off d g j z l=>(hb.cell (p:=⟨b,off+j,none⟩) d).trans (g j z l)
theorem qU {f:Fn}{i:Rn.Inp}{p:List Int}(h:Rn.Good f i p){k:Nat}(hk:Rn.nextK (Rn.padded p (Rn.wids f i p).length) (Rn.wids f i p) (Rn.wids f i p).length=some k) :
  Rn.Good f i (Rn.bump (Rn.padded p (Rn.wids f i p).length) k)/\(Rn.wids f i (Rn.bump (Rn.padded p (Rn.wids f i p).length) k)).take (Rn.bump (Rn.padded p (Rn.wids f i p).length) k).length=(Rn.wids f i p).take (k+1):=by
 obtain⟨d,t,g⟩:=Rn.good_next h hk;have j:=(Rn.nextK_some _ _ _ _ hk).1;refine⟨d,?_⟩;rw[Rn.bump_len (by rw[Rn.padded_len h.1];exact j),<-g,List.take_append_of_le_length (by rw[List.length_take];omega),List.take_take,Nat.min_self]
def ng (f:Fn)(i:Rn.Inp)(B Bg:Nat)(R:Option (List Rn.Out))(n:Nat)(v:Value)(w:World):Prop :=
 ∃(D:Nat->Prop)(vp vw:Value)(vms:List Value)(p:List Int)(outs:List Rn.Out),Rd D B Bg w v vp vw vms p ((Rn.wids f i p).take p.length) 0 outs/\Rn.Good f i p/\Rn.Asc outs/\outs.length+1<=n/\Rn.explore f i (257-n) p outs=R
theorem jL {f:Fn}{i:Rn.Inp}{B Bg n:Nat}{R:Option (List Rn.Out)}{v vp vw:Value}{w:World}{D:Nat->Prop}{vms:List Value}{p:List Int}{outs:List Rn.Out}
  (hRA:Ref.RcAll) (hf:VFn f) (hin:Rn.validInput f i=0) (ha:∀a∈i.args,0<=a) (hg:Rn.Good f i p) (ho:Rn.Asc outs) (hn:outs.length+1<=n) (hn2:n<257) (he:Rn.explore f i (257-n) p outs=R)
  (h:Rd D B Bg w v vp vw vms (Rn.padded p (Rn.wids f i p).length) (Rn.wids f i p) (Rn.wids f i p).length (Rn.insert (Rn.run f (Rn.given p) i).1 outs)) {N:Option Nat} (hN:Rn.nextK (Rn.padded p (Rn.wids f i p).length) (Rn.wids f i p) (Rn.wids f i p).length=N) :
  Calls prog 84 #[.pointer (some ⟨Bg,0,none⟩)] w fun e w'=>e=.returned (.bool N.isSome)/\FrS (fun k=>B<=k) w w' /\
   (N=none->∃outs',R=some outs'/\outs'.length<=256/\Rn.Asc outs'/\OutsAt D B w' v outs' vms)/\(N.isSome=true->ng f i B Bg R (n+1) v w'):=by
 obtain⟨K,u,L,M⟩:=Rn.run_ok hRA hf.val hf.im hin ha p;have j:(Rn.padded p (Rn.wids f i p).length).length=(Rn.wids f i p).length:=Rn.padded_len hg.1;have C:=Rn.insert_len (Rn.run f (Rn.given p) i).1 outs;have d:=Rn.insert_asc (Rn.run f (Rn.given p) i).1 outs ho;obtain⟨m,E⟩:∃m,257-n=m+1:=⟨256-n,by omega⟩;rw[E]at he;obtain⟨y,z⟩:=Rn.explore_round he;refine(lW h.ex j.symm (by omega) u (Rn.good_words hg u) (R:=N) (by rw[j];exact hN)).mono ?_;rintro e w' ⟨rfl,l,J,A⟩;refine⟨rfl,l.mono fun k g=>(jn h.ex g).1,fun hn0=>⟨_,y (by rw[hN];exact hn0),by omega,d,h.at_.frs l (fun k g q=>(h.dlt k g).2.2.1 q) (fun k g q=>h.vo k g q)⟩,fun hs=>?_⟩;obtain⟨k,rfl⟩:∃k,N=some k:=Option.isSome_iff_exists.1 hs;obtain⟨r,t,F,G⟩:=A k rfl;obtain⟨H,I⟩:=qU hg hN;refine⟨D,r,t,vms,_,_,?_,H,d,by omega,by rw[show 257-(n+1)=m by omega];exact z k hN⟩;rw[I];exact h.next F l G
def sf (f:Fn)(i:Rn.Inp)(B:Nat)(e:Ending)(w':World):Prop :=
 (Rn.validInput f i≠0/\e=.returned (.tuple #[.slice none 0 0,.int .i64 (Rn.validInput f i)])) \/
 (Rn.validInput f i=0/\Rn.all f i=none/\e=.returned (.tuple #[.slice none 0 0,.int .i64 3])) \/
 (Rn.validInput f i=0/\∃outs,Rn.all f i=some outs/\outs.length<=256/\Rn.Asc outs/\∃(v:Value)(D:Nat->Prop)(vms:List Value),e=.returned (.tuple #[v,.int .i64 0])/\OutsAt D B w' v outs vms)
theorem qG {w:World}{f:Fn}{vf:Value}(hfn:FnAt w.heap.size w vf f)(hnice:fH f)(him:Rn.Im f){i:Rn.Inp}{va vm:Value}(ha:U32At w.heap.size w va i.args)(hm:TabAt w.heap.size w vm i.mem)(hnn:∀a∈i.args,0<=a) :
  Calls prog 52 #[vf,.agg #[va,vm]] w fun e w'=>sf f i (w.heap.size+2) e w'/\Gr w w':=by
 obtain⟨vp,vs,vb,rfl,hp,hs,hb⟩:=hfn;have aQ:Hid (FnAt w.heap.size w (.agg #[vp,.int .i64 f.ret,vs,vb]) f):=⟨vp,vs,vb,rfl,hp,hs,hb⟩;have HA:=dJ ha;have HM:=dJ hm;have ad:=dJ hnn;obtain⟨W,hW⟩:=xJ ((w.alloc (.cells #[vp,.int .i64 f.ret,vs,vb] 36)).alloc (.cells #[va,vm] 41));have B:Gr w W:=by rw[<-hW];exact((tX w).alloc _).alloc _
 have aK:(w.alloc (.cells #[vp,.int .i64 f.ret,vs,vb] 36)).heap.size=w.heap.size+1:=by simp
 have aD:W.heap.size=w.heap.size+2:=by rw[<-hW];simp
 have aj:W.heap[w.heap.size]?=some (.cells #[vp,.int .i64 f.ret,vs,vb] 36 (0,0)):=by rw[<-hW];exact(((tX (w.alloc (.cells #[vp,.int .i64 f.ret,vs,vb] 36))).alloc _).heap _ (by simp)).trans (heap_alloc_new w _)
 have ak:W.heap[w.heap.size+1]?=some (.cells #[va,vm] 41 (0,0)):=by rw[<-hW,<-aK];exact heap_alloc_new _ _
 have CV:=dJ (mZ (w:=W) (f:=f) (vf:=.agg #[vp,.int .i64 f.ret,vs,vb]) (i:=i) (va:=va) (vm:=vm) ⟨vp,vs,vb,rfl,(hp.below B).mono B.size,(hs.below B).mono B.size,(hb.below B).mono B.size⟩ hnice (SlAt.mono (U32At.below ha B) B.size) ((hm.below B).mono B.size));have HB:Hid (∀wr,Gr W wr->wr.heap[w.heap.size]?=some (.cells #[vp,.int .i64 f.ret,vs,vb] 36 (0,0))/\wr.heap[w.heap.size+1]?=some (.cells #[va,vm] 41 (0,0))):=fun wr g=>⟨(g.heap _ (cX aj)).trans aj,(g.heap _ (cX ak)).trans ak⟩
 have ah:∀wr,Gr W wr->C6 wr w.heap.size vp (.int .i64 f.ret) vs vb va vm:=fun wr g=>by obtain⟨q1,q2⟩:=HB.out wr g;exact⟨tv _ _ 0 _ _ _ q1,tv _ _ 1 _ _ _ q1,tv _ _ 2 _ _ _ q1,tv _ _ 3 _ _ _ q1,tv _ _ 0 _ _ _ q2,tv _ _ 1 _ _ _ q2⟩
 have HC:=dJ ah;obtain⟨k0,k1,k2,k3,k4,k5⟩:=ah W (tX _);have G:=dJ B;have au:=dJ aD;obtain⟨Ap,cp,rfl,-⟩:=id hp;obtain⟨As,cs,rfl,-⟩:=id hs;obtain⟨Ab,cb,rfl,-⟩:=id hb;obtain⟨Aa,ca,rfl,-⟩:=id ha;obtain⟨Am,cm,rfl,-⟩:=id hm;obtain⟨V,hV⟩:=xJ (Rn.validInput f i);rw[hV]at CV;have L:=dJ hV;clear B aj ak hV ah aK hp hs hb aD ha hm hnn;by_cases aL:V=0
 ·subst aL;have hf:VFn f:=⟨(Rn.valid_input L.out).1,him⟩
  go_enter func52, ntmps52
  go_wp2_with (go_at_call 78;refine CV.out.mono ?_;rintro e C ⟨rfl,g1⟩;obtain⟨j0,j1,j2,j3,j4,j5⟩:=HC.out C g1;have a2:=dJ g1);obtain⟨O,ag⟩:=xJ (C.alloc (.cells #[.slice none 0 0,.slice none 0 0,.int .i64 0] 101));obtain⟨R,hR⟩:=xJ (Rn.all f i);have g3:Gr C O:=by rw[<-ag];exact(tX C).alloc _
  have aF:O.heap[C.heap.size]?=some (.cells #[.slice none 0 0,.slice none 0 0,.int .i64 0] 101 (0,0)):=by rw[<-ag];exact heap_alloc_new _ _
  have ae:w.heap.size+2<=C.heap.size:=by have:=g1.size;have:=au.out;omega
  have aS:Hid (ng f i (w.heap.size+2) C.heap.size R 1 (.slice none 0 0) O) :=
   ⟨fun _=>False,.slice none 0 0,.slice none 0 0,[],[],[],⟨⟨aF,Own1.nil _ _ _,Own1.nil _ _ _,ae⟩,⟨rfl,⟨rfl,.inl ⟨rfl,rfl⟩⟩,fun j o vm h=>by simp at h⟩,fun k A=>A.elim,fun k A=>by cases A⟩,Rn.good_nil f i,by unfold Rn.Asc;exact List.Pairwise.nil,tS _,hR⟩
  have HR:=dJ hR;have y:=dJ (g1.trans g3);have a1:=dJ ae
  have aP:Hid (∀wr,FrS (fun k=>w.heap.size+2<=k) O wr->C6 wr w.heap.size (.slice Ap f.params.length cp) (.int .i64 f.ret) (.slice As f.slots.length cs) (.slice Ab f.blocks.length cb) (.slice Aa i.args.length ca) (.slice Am i.mem.length cm)):=fun wr I=>by obtain⟨q1,q2⟩:=HB.out O y.out;have r1:=(I.block _ (cX q1) (by omega)).trans q1;have r2:=(I.block _ (cX q2) (by omega)).trans q2;exact⟨tv _ _ 0 _ _ _ r1,tv _ _ 1 _ _ _ r1,tv _ _ 2 _ _ _ r1,tv _ _ 3 _ _ _ r1,tv _ _ 0 _ _ _ r2,tv _ _ 1 _ _ _ r2⟩
  clear aF ae g3 hR g1 j0 j1 j2 j3 j4 j5 k0 k1 k2 k3 k4 k5;go_wp2
  go_loopw [8,9] (fun s8 s9 wr=>∃n:Nat,1<=n/\n<=257/\s9=.int .i64 (n:Int)/\Hid (ng f i (w.heap.size+2) C.heap.size R n s8 wr)/\Hid (FrS (fun k=>w.heap.size+2<=k) O wr)) (fun _ s9 _=>257-(intOf s9).toNat)
  case atStart=>rw[ag];exact⟨1,tS _,by decide,rfl,aS,FrS.refl _ _⟩
  case round =>
   obtain⟨n,a9,ba,rfl,hI,I⟩:=hrel;by_cases aH:n=257
   ·subst aH
    have HE:Hid (R=none):=by obtain⟨D,aZ,a0,aO,p,d,-,-,-,-,h⟩:=hI.out;exact h.symm
    have aR:Hid (Gr w wr):=lm (G.out.trans y.out) I.out (fun k A=>by omega);clear hI I;go_wp2;go_ret2;exact⟨.inr (.inl ⟨L.out,HR.out.trans HE.out,rfl⟩),aR.out⟩
   ·have Z:n<257:=by omega
    have bb:(n:Int)<=256:=by omega
    obtain⟨D,aZ,a0,aO,p,d,ax,ay,az,aA,aB⟩:=hI.out;have aT:=dJ ax;have ac:=dJ ay;have H:=dJ az;have N:=dJ aA;have aq:=dJ aB;clear ax ay az aA aB aH;have aW:FrS (fun k=>w.heap.size+2<=k) O wr.drew:=I.out.drew;have ap:Hid (Below w.heap.size w wr):=lm (G.out.trans y.out) I.out (fun k A=>by omega);obtain⟨X,hX⟩:=xJ ((Rn.run f (Rn.given p) i).1);obtain⟨Nx,aC⟩:=xJ (Rn.nextK (Rn.padded p (Rn.wids f i p).length) (Rn.wids f i p) (Rn.wids f i p).length);have HX:=dJ hX;have ar:=dJ aC
    have CS:Hid (∀u:World,Gr wr u->Calls prog 79 #[.agg #[.slice Ap f.params.length cp,.int .i64 f.ret,.slice As f.slots.length cs,.slice Ab f.blocks.length cb],.agg #[.slice Aa i.args.length ca,.slice Am i.mem.length cm],.iface 99 (.pointer (some ⟨C.heap.size,0,none⟩))] u fun e w4=>∃c:Cfg,e=.returned (.pointer (some ⟨c.Bs,0,none⟩))/\∀u2,Gr w4 u2 ->
        Calls prog 80 #[.pointer (some ⟨c.Bs,0,none⟩)] u2 fun e w'=>∃vx,e=.returned (gG X vx)/\∃(D':Nat->Prop)(T U:Value),Rd D' (w.heap.size+2) C.heap.size w' u8 T U aO (Rn.padded p (Rn.wids f i p).length) (Rn.wids f i p) (Rn.wids f i p).length d/\Keeps D' w' vx X.mem/\FrS (fun k=>w.heap.size+2<=k) wr w'):=fun u gu=>by
     have am:Below w.heap.size w u:=ap.out.trans (Below.mono gu (by have:=ap.out.size;omega));refine(mD (B0:=w.heap.size+2) (f:=f) (i:=i) ((aQ.out.below am).mono (by omega)) (by have:=gu.size;have:=I.out.size;have:=y.out.size;have:=au.out;omega) hf (SlAt.mono (U32At.below HA.out am) (by omega)) ((HM.out.below am).mono (by omega)) L.out _ _).mono ?_;rintro e w4 ⟨c,cn,cf,aV,rfl,aX,g4,hK,a8⟩;refine⟨c,rfl,fun u2 g2=>?_⟩;rw[<-hX];refine(pU aT.out ac.out ro hf L.out ad.out ((gu.trans g4).trans g2) cn cf aV (aX.gr g2) (fun k A=>by have:=hK k A;have:=gu.size;omega) (by have:=g2.size;omega)).mono ?_;rintro e w' ⟨vx,rfl,D',T,U,r1,r2,r3⟩;exact⟨vx,rfl,D',T,U,r1,r2,(FrS.of_gr ((gu.trans g4).trans g2)).trans r3⟩
    obtain⟨Bl,af⟩:=xJ (Rn.below X d);obtain⟨F,aw⟩:∃F,decide (d[Bl]?=some X)=F:=⟨_,rfl⟩;have M:=dJ af;have ab:=dJ aw;have ao:Hid (Bl<=d.length):=by show _<=_;rw[<-af];exact Rn.below_le X d
    obtain⟨j0,j1,j2,j3,j4,j5⟩:=aP.out wr I.out;clear aW hX aC af aw;unfold gG at CS;cases F;all_goals cases Nx
    all_goals
     go_wp2_with (first
       | (go_at_call 79;refine(CS.out _ (by first|exact(tX wr).drew|exact tX wr)).mono ?_;rintro e w4 ⟨c,rfl,aE⟩;have CO:=dJ aE;clear aE)
       | (go_at_call 80;refine(CO.out _ (tX w4)).mono ?_;rintro e w5 ⟨vx,rfl,D',T,U,aJ,al,aG⟩;obtain⟨Ax,cx,rfl⟩:=al.2.1;have RD:=dJ aJ;have KP:=dJ al;have FR:=dJ aG;clear aJ al aG)
       | (go_at_call 81
          obtain⟨W6,Q⟩:=xJ (w5.alloc (.cells #[.int .i64 X.kind,.bool X.ret.p,.int .i64 X.ret.s,.int .u32 X.ret.n,.slice Ax X.mem.length cx] 27))
          have G6:Hid (Gr w5 W6):=by show Gr _ _;rw[<-Q];exact(tX w5).alloc _
          have BX:Hid (∀u,Gr W6 u->_):=fun u gu=>dK (w:=w5) (o:=X) (vm:=.slice Ax X.mem.length cx) (w':=u) (by show Gr (w5.alloc _) u;rw[Q];exact gu)
          rw[Q]
          have BS:=dJ (kh ((RD.out.gr G6.out).at_) (by have:=N.out;omega) H.out (KP.out.gr G6.out))
          rw[M.out,ab.out]at BS
          unfold gG at BS
          (with_reducible refine BS.out.mono ?_)
          rintro e K ⟨rfl,Y⟩
          have G7:Hid (Gr w5 K):=G6.out.trans Y
          obtain⟨b0,b1,b2,b3,b4⟩:=BX.out K Y
          have a3:=fun o=>(BX.out (K.alloc o) (Y.alloc o)).1
          have a4:=fun o=>(BX.out (K.alloc o) (Y.alloc o)).2.1
          have a5:=fun o=>(BX.out (K.alloc o) (Y.alloc o)).2.2.1
          have a6:=fun o=>(BX.out (K.alloc o) (Y.alloc o)).2.2.2.1
          have a7:=fun o=>(BX.out (K.alloc o) (Y.alloc o)).2.2.2.2
          clear Y BS Q)
       | (go_at_call 83
          obtain⟨W8,S⟩:=xJ (K.alloc (.cells #[.int .i64 X.kind,.bool X.ret.p,.int .i64 X.ret.s,.int .u32 X.ret.n,.slice Ax X.mem.length cx] 27))
          have G8:Hid (Gr w5 W8):=by show Gr _ _;rw[<-S];exact G7.out.alloc _
          have aN:W8.heap[K.heap.size]?=some (.cells (qw X (.slice Ax X.mem.length cx)).toArray 27 (0,0)):=by rw[<-S];exact heap_alloc_new _ _
          have aY:w5.heap.size<=K.heap.size:=G7.out.size
          rw[S]
          have z:=RD.out.gr G8.out
          have av:w.heap.size+2<=W8.heap.size:=by have:=jn z.ex (k:=C.heap.size) (Or.inl rfl);omega
          have CI:=dJ (px z.at_ av (by have:=N.out;omega) ao.out (KP.out.gr G8.out) aN (fun q=>by have:=(dv RD.out.at_.own _ q).2;omega) (fun k A=>(z.dlt k A).2.2.2))
          (with_reducible refine CI.out.mono ?_)
          rintro e w9 ⟨A9,c9,rfl,aI,ai,aM⟩
          have r:=z.insert aI ai aM
          rw[<-M.out,<-Rn.insert_new X d H.out (by have:=ab.out;rw[<-M.out]at this;simpa using this),<-HX.out]at r
          have aU:=dJ r
          have aa:Hid (FrS (fun k=>w.heap.size+2<=k) wr w9):=(FR.out.trans (FrS.of_gr G8.out)).trans (ai.mono fun k A=>(dv z.at_.own k A).1)
          clear r z aI ai aM aN aY S CI av)
       | (go_at_call 84
          have CN:=dJ (jL ro hf L.out ad.out ac.out H.out N.out Z aq.out aU.out ar.out)
          (with_reducible refine CN.out.mono ?_)
          rintro e an ⟨he,J,l,m⟩
          simp only[Option.isSome_none,Option.isSome_some]at he
          subst he
          have EN:=dJ l
          have ES:=dJ m
          have E:Hid (FrS (fun k=>w.heap.size+2<=k) O an):=I.out.trans (aa.out.trans J)
          clear J l m)
       | (go_at_call 84
          have r:=RD.out.gr G7.out
          rw[<-Rn.insert_found X d H.out (by have:=ab.out;rw[<-M.out]at this;simpa using this),<-HX.out]at r
          have aa:Hid (FrS (fun k=>w.heap.size+2<=k) wr K):=FR.out.trans (FrS.of_gr G7.out)
          have CN:=dJ (jL ro hf L.out ad.out ac.out H.out N.out Z aq.out r ar.out)
          (with_reducible refine CN.out.mono ?_)
          rintro e an ⟨he,J,l,m⟩
          simp only[Option.isSome_none,Option.isSome_some]at he
          subst he
          have EN:=dJ l
          have ES:=dJ m
          have E:Hid (FrS (fun k=>w.heap.size+2<=k) O an):=I.out.trans (aa.out.trans J)
          clear J l m r))
    ·go_ret2;obtain⟨t,e1,e2,e3,e4⟩:=EN.out trivial;exact⟨.inr (.inr ⟨L.out,t,HR.out.trans e1,e2,e3,_,_,_,rfl,e4⟩),lm (G.out.trans y.out) E.out (fun k A=>by omega)⟩
    ·exact⟨⟨n+1,by omega,by omega,by go_num,ES.out rfl,E⟩,by simp[intOf];omega⟩
    ·go_ret2;obtain⟨t,e1,e2,e3,e4⟩:=EN.out trivial;exact⟨.inr (.inr ⟨L.out,t,HR.out.trans e1,e2,e3,_,_,_,rfl,e4⟩),lm (G.out.trans y.out) E.out (fun k A=>by omega)⟩
    ·exact⟨⟨n+1,by omega,by omega,by go_num,ES.out rfl,E⟩,by simp[intOf];omega⟩
 ·go_enter func52, ntmps52
  go_wp2_with (go_at_call 78;refine CV.out.mono ?_;rintro e C ⟨rfl,g1⟩);go_ret2;exact⟨.inl ⟨by rw[L.out];exact aL,by rw[L.out];rfl⟩,G.out.trans g1⟩
namespace Rf
def like1 (x y:Int):Bool:=decide (x=-1) || decide (x=y)
theorem likeL_len:∀{a b:List Int},likeL a b=true->a.length=b.length
 | [],[],_=>rfl
 | [],_::_,h=>by simp[likeL]at h
 | _::_,[],h=>by simp[likeL]at h
 | x::a,y::b,h=>by
  simp only[likeL,tD]at h
  simp[likeL_len h.2]
theorem likeM_len:∀{a b:List (List Int)},likeM a b=true->a.length=b.length
 | [],[],_=>rfl
 | [],_::_,h=>by simp[likeM]at h
 | _::_,[],h=>by simp[likeM]at h
 | x::a,y::b,h=>by
  simp only[likeM,tD]at h
  simp[likeM_len h.2]
theorem likeL_step {a b:List Int}{k:Nat}{x y:Int}(hx:a[k]?=some x)(hy:b[k]?=some y):likeL (a.drop k) (b.drop k)=(like1 x y && likeL (a.drop (k+1)) (b.drop (k+1))):=by obtain⟨j,d⟩:=sR.1 hx;obtain⟨l,g⟩:=sR.1 hy;rw[tl j,tl l,d,g];rfl
theorem likeM_step {a b:List (List Int)}{k:Nat}{x y:List Int}(hx:a[k]?=some x)(hy:b[k]?=some y):likeM (a.drop k) (b.drop k)=(likeL x y && likeM (a.drop (k+1)) (b.drop (k+1))):=by obtain⟨j,d⟩:=sR.1 hx;obtain⟨l,g⟩:=sR.1 hy;rw[tl j,tl l,d,g];rfl
theorem likeL_end {a b:List Int}(h:a.length=b.length):likeL (a.drop a.length) (b.drop a.length)=true:=by rw[List.drop_length,h,List.drop_length];rfl
theorem likeM_end {a b:List (List Int)}(h:a.length=b.length):likeM (a.drop a.length) (b.drop a.length)=true:=by rw[List.drop_length,h,List.drop_length];rfl
end Rf
theorem jI (x y:Int)(w:World):Calls prog 34 #[.int .i64 x,.int .i64 y] w (RG (.bool (Rf.like1 x y)) w):=by
 by_cases d:x=-1
 ·have j:(x == -1)=true:=by simp[d]
  have g:Hid (Rf.like1 x y=true):=by show _=_;simp[Rf.like1,d]
  clear d
  go_enter func34, ntmps34
  go_wp2;go_ret;exact⟨cZ g.out.symm,tX _⟩
 ·have j:(x == -1)=false:=by simp[d]
  have g:Hid (Rf.like1 x y=(x == y)):=by show _=_;simp[Rf.like1,d];rfl
  clear d
  go_enter func34, ntmps34
  go_wp2;go_ret;exact⟨cZ g.out.symm,tX _⟩
theorem qz (va vb:Value)(a b:List Int)(w:World)(ha:IntsAt w.heap.size w va a)(hb:IntsAt w.heap.size w vb b) :
  Calls prog 58 #[va,vb,.func (.func 34) #[] #[]] w (RG (.bool (Rf.likeL a b)) w):=by
 obtain⟨A,ca,rfl,K,L,g⟩:=ha;obtain⟨O,U,rfl,M,N,j⟩:=hb;by_cases hlen:a.length=b.length
 ·have G:((a.length:Int) != (b.length:Int))=false:=by rw[hlen];simp
  have u:Hid (a.length=b.length):=hlen;clear hlen
  go_enter func58, ntmps58
  go_wp2
  go_loopw [7,8,9,17] (fun _ _ _ i wr=>∃k:Nat,k<=a.length/\i=.int .i64 k/\Hid (Rf.likeL a b=Rf.likeL (a.drop k) (b.drop k))/\Gr w wr) (fun _ _ _ i _=>a.length-(intOf i).toNat)
  case atStart=>exact⟨0,tR _,rfl,rfl,tX _⟩
  case round =>
   obtain⟨k,W,rfl,d,r⟩:=hrel;by_cases t:k<a.length
   ·have l:k<b.length:=by have:=u.out;omega
    obtain⟨Q,X,rfl,E,m⟩:=g (by omega);obtain⟨R,Y,rfl,F,p⟩:=j (by omega);obtain⟨x,H⟩:∃x,a[k]?=some x:=⟨_,sQ t⟩;obtain⟨y,I⟩:∃y,b[k]?=some y:=⟨_,sQ l⟩;have S:=(r.cell _ _ E).trans (m k x H);have T:=(r.cell _ _ F).trans (p k y I);have C:Hid (Rf.likeL a b=(Rf.like1 x y && Rf.likeL (a.drop (k+1)) (b.drop (k+1)))):=d.out.trans (Rf.likeL_step H I);have B:Hid (∀z,Calls prog 34 #[.int .i64 x,.int .i64 y] z (RG (.bool (Rf.like1 x y)) z)):=jI x y;obtain⟨J,q⟩:=xJ (Rf.like1 x y);rw[q]at B C;have Z:(k:Int)<(a.length:Int):=by omega
    have z3:(k:Int)<(b.length:Int):=by omega
    clear H I m p q t l g j
    cases J with
    | true =>
     go_wp2_with (go_at_call 34;refine(B.out _).mono ?_;rintro e z ⟨rfl,D⟩);go_roundw;case rel=>exact⟨k+1,by omega,by go_num,C.out.trans (Bool.true_and _),r.trans D⟩
     case measure=>simp[intOf];omega
    | false =>
     go_wp2_with (go_at_call 34;refine(B.out _).mono ?_;rintro e z ⟨rfl,D⟩);go_ret;exact⟨cZ (C.out.trans (Bool.false_and _)).symm,r.trans D⟩
   ·obtain rfl:k=a.length:=by omega
    clear g j;go_wp2;go_ret;exact⟨cZ (d.out.trans (Rf.likeL_end u.out)).symm,r⟩
 ·have G:((a.length:Int) != (b.length:Int))=true:=by simp;omega
  have u:Hid (Rf.likeL a b=false):=by
   show _=_
   cases h:Rf.likeL a b with
   | false=>rfl
   | true=>exact absurd (Rf.likeL_len h) hlen
  clear hlen g j
  go_enter func58, ntmps58
  go_wp2;go_ret;exact⟨cZ u.out.symm,tX _⟩
theorem mp (va vb:Value)(a b:List Int)(B:Nat)(w:World)(ha:IntsAt w.heap.size w va a)(hb:IntsAt w.heap.size w vb b)(hB:w.cell? ⟨B,0,none⟩=some (.func (.func 34) #[] #[])) :
  Calls prog 57 #[va,vb,.pointer (some ⟨B,0,none⟩)] w (RG (.bool (Rf.likeL a b)) w):=by
 have d:=dJ (qz va vb a b w ha hb);obtain⟨A,ca,rfl,-,-,-⟩:=ha;obtain⟨j,l,rfl,-,-,-⟩:=hb
 go_enter func57, ntmps57
 go_wp2_with (go_at_call 58;refine d.out.mono ?_;rintro e m ⟨rfl,g⟩);go_ret;exact⟨rfl,g⟩
theorem qA (va vb:Value)(a b:List (List Int))(B:Nat)(w:World)(ha:TabAt w.heap.size w va a)(hb:TabAt w.heap.size w vb b)(hB:B<w.heap.size)(hBc:w.cell? ⟨B,0,none⟩=some (.func (.func 34) #[] #[])) :
  Calls prog 56 #[va,vb,.func (.func 57) #[] #[.pointer (some ⟨B,0,none⟩)]] w (RG (.bool (Rf.likeM a b)) w):=by
 obtain⟨A,ca,rfl,T,U,g⟩:=ha;obtain⟨Y,cb,rfl,W,X,j⟩:=hb;by_cases hlen:a.length=b.length
 ·have I:((a.length:Int) != (b.length:Int))=false:=by rw[hlen];simp
  have C:Hid (a.length=b.length):=hlen;clear hlen
  go_enter func56, ntmps56
  go_wp2
  go_loopw [7,8,9,17] (fun _ _ _ i wr=>∃k:Nat,k<=a.length/\i=.int .i64 k/\Hid (Rf.likeM a b=Rf.likeM (a.drop k) (b.drop k))/\Gr w wr) (fun _ _ _ i _=>a.length-(intOf i).toNat)
  case atStart=>exact⟨0,tR _,rfl,rfl,tX _⟩
  case round =>
   obtain⟨k,hk,rfl,d,m⟩:=hrel;by_cases z:k<a.length
   ·have l:k<b.length:=by have:=C.out;omega
    obtain⟨Z,oa,rfl,G,r⟩:=g (by omega);obtain⟨bb,ob,rfl,H,t⟩:=j (by omega);obtain⟨x,J⟩:∃x,a[k]?=some x:=⟨_,sQ z⟩;obtain⟨y,K⟩:∃y,b[k]?=some y:=⟨_,sQ l⟩;obtain⟨Q,L,N⟩:=r k x J;obtain⟨R,M,O⟩:=t k y K;replace L:=(m.cell _ _ G).trans L;replace M:=(m.cell _ _ H).trans M;have E:Hid (Rf.likeM a b=(Rf.likeL x y && Rf.likeM (a.drop (k+1)) (b.drop (k+1)))):=d.out.trans (Rf.likeM_step J K)
    have D:Hid (∀p,Gr w p->Calls prog 57 #[Q,R,.pointer (some ⟨B,0,none⟩)] p (RG (.bool (Rf.likeL x y)) p)) :=
     fun p q=>mp Q R x y B p (N.gr q) (O.gr q) ((q.cell _ _ hB).trans hBc)
    obtain⟨S,u⟩:=xJ (Rf.likeL x y);rw[u]at D E;have z2:(k:Int)<(a.length:Int):=by omega
    have z3:(k:Int)<(b.length:Int):=by omega
    clear J K r t u z l g j N O
    cases S with
    | true =>
     go_wp2_with (go_at_call 57;refine(D.out _ m).mono ?_;rintro e p ⟨rfl,F⟩);go_roundw;case rel=>exact⟨k+1,by omega,by go_num,E.out.trans (Bool.true_and _),m.trans F⟩
     case measure=>simp[intOf];omega
    | false =>
     go_wp2_with (go_at_call 57;refine(D.out _ m).mono ?_;rintro e p ⟨rfl,F⟩);go_ret;exact⟨cZ (E.out.trans (Bool.false_and _)).symm,m.trans F⟩
   ·obtain rfl:k=a.length:=by omega
    clear g j;go_wp2;go_ret;exact⟨cZ (d.out.trans (Rf.likeM_end C.out)).symm,m⟩
 ·have I:((a.length:Int) != (b.length:Int))=true:=by simp;omega
  have C:Hid (Rf.likeM a b=false):=by
   show _=_
   cases h:Rf.likeM a b with
   | false=>rfl
   | true=>exact absurd (Rf.likeM_len h) hlen
  clear hlen g j
  go_enter func56, ntmps56
  go_wp2;go_ret;exact⟨cZ C.out.symm,tX _⟩
theorem nT (va vb:Value)(a b:List (List Int))(w:World)(ha:TabAt w.heap.size w va a)(hb:TabAt w.heap.size w vb b) :
  Calls prog 33 #[va,vb,.func (.func 34) #[] #[]] w (RG (.bool (Rf.likeM a b)) w):=by
 obtain⟨W,g⟩:=xJ (w.alloc (.cells #[.func (.func 34) #[] #[]] 63));have d:Gr w W:=by rw[<-g];exact(tX w).alloc _
 have j:=dJ (qA va vb a b w.heap.size W (ha.gr d) (hb.gr d) (by rw[<-g];simp) (by rw[<-g];exact da _ _ 0 (tX _) rfl));have l:=dJ d;obtain⟨A,ca,rfl,-,-,-⟩:=ha;obtain⟨p,q,rfl,-,-,-⟩:=hb;clear d
 go_enter func33, ntmps33
 go_wp2_with (go_at_call 56;refine j.out.mono ?_;rintro e r ⟨rfl,m⟩);go_ret;exact⟨rfl,l.out.trans m⟩
theorem kJ {w:World}{s t:Rn.Out}{vs vt:Value}(hs:TabAt w.heap.size w vs s.mem)(ht:TabAt w.heap.size w vt t.mem) :
  Calls prog 12 #[gG s vs,gG t vt] w (RG (.bool (Rf.permits s t)) w):=by
 obtain⟨C,u⟩:=xJ (jD w s vs);obtain⟨W,Q⟩:=xJ (jD C t vt);have y:Gr w C:=by rw[<-u];exact(tX w).alloc _
 have O:Gr C W:=by rw[<-Q];exact(tX C).alloc _
 have K:=y.trans O;obtain⟨a0,a1,a2,a3,a4⟩:=dK (w:=w) (o:=s) (vm:=vs) (w':=W) (by rw[u];exact O);obtain⟨b0,b1,b2,b3,b4⟩:=dK (w:=C) (o:=t) (vm:=vt) (w':=W) (by rw[Q];exact tX _);have N:=dJ (nT vs vt s.mem t.mem W (hs.gr K) (ht.gr K));have r:=dJ K;have j:Hid (Rf.permits s t=if s.kind=1 then true else if s.kind=2 then decide (t.kind=2) else if s.kind≠0\/t.kind≠0 then false else if s.ret.p=false/\s.ret≠t.ret then false else Rf.likeM s.mem t.mem):=by show _=_;rfl
 obtain⟨q,⟨M,F,E⟩,S⟩:=s;obtain⟨G,⟨I,J,H⟩,T⟩:=t;obtain⟨A,ca,rfl,-⟩:=id hs;obtain⟨A',cb,rfl,-⟩:=id ht;dsimp only at *;obtain⟨R,X⟩:=xJ (Rf.permits ⟨q,⟨M,F,E⟩,S⟩ ⟨G,⟨I,J,H⟩,T⟩);rw[X]at j ⊢;clear hs ht y O K X;unfold jD at u Q;unfold gG;dsimp only at *;by_cases g:q=1
 ·have q1:(q == 1)=true:=by simp[g]
  have d:Hid (R=true):=by show _=_;rw[j.out,tB g]
  clear j g
  go_enter func12, ntmps12
  go_wp2;go_ret;exact⟨cZ d.out.symm,r.out⟩
 have q1:(q == 1)=false:=by simp[g]
 by_cases m:q=2
 ·have q2:(q == 2)=true:=by simp[m]
  have d:Hid (R=(G == 2)):=by show _=_;rw[j.out,tC g,tB m];rfl
  clear j g m
  go_enter func12, ntmps12
  go_wp2;go_ret;exact⟨cZ d.out.symm,r.out⟩
 have q2:(q == 2)=false:=by simp[m]
 by_cases z:q=0
 ·have q3:(q != 0)=false:=by simp[z]
  by_cases D:G=0
  ·have q4:(G != 0)=false:=by simp[D]
   have d:Hid (R=if M=false/\(⟨M,F,E⟩:Rn.V)≠⟨I,J,H⟩ then false else Rf.likeM S T):=by show _=_;rw[j.out,tC g,tC m,tC (by omega)]
   clear j g m z D;obtain⟨L,U⟩:=xJ (Rf.likeM S T);rw[U]at d N;clear U
   cases M with
   | true =>
    have l:Hid (R=L):=by show _=_;rw[d.out,tC (by simp)]
    clear d
    go_enter func12, ntmps12
    go_wp2_with (go_at_call 33;refine N.out.mono ?_;rintro e w1 ⟨rfl,y⟩);go_ret;exact⟨cZ l.out.symm,r.out.trans y⟩
   | false =>
    by_cases B:(⟨false,F,E⟩:Rn.V)=⟨I,J,H⟩
    ·have l:Hid (R=L):=by show _=_;rw[d.out,tC (by simp[B])]
     have Y:∀w',(binOp .neq 24 (.agg #[.bool false,.int .i64 F,.int .u32 E]) (.agg #[.bool I,.int .i64 J,.int .u32 H])).run prog w'=.ok (.bool false) w':=by intro w';injection B with Z e2 e3;subst Z;subst e2;subst e3;simp[go_sem]
     clear d B
     go_enter func12, ntmps12
     go_wp2_with (go_at_call 33;refine N.out.mono ?_;rintro e w1 ⟨rfl,y⟩);go_ret;exact⟨cZ l.out.symm,r.out.trans y⟩
    ·have l:Hid (R=false):=by show _=_;rw[d.out,tB ⟨rfl,B⟩]
     have Y:∀w',(binOp .neq 24 (.agg #[.bool false,.int .i64 F,.int .u32 E]) (.agg #[.bool I,.int .i64 J,.int .u32 H])).run prog w'=.ok (.bool true) w':=by intro w';simp[go_sem];rintro rfl rfl rfl;exact B rfl
     clear d B
     go_enter func12, ntmps12
     go_wp2;go_ret;exact⟨cZ l.out.symm,r.out⟩
  ·have q4:(G != 0)=true:=by simp[D]
   have d:Hid (R=false):=by show _=_;rw[j.out,tC g,tC m,tB (.inr D)]
   clear j g m z D
   go_enter func12, ntmps12
   go_wp2;go_ret;exact⟨cZ d.out.symm,r.out⟩
 ·have q3:(q != 0)=true:=by simp[z]
  have d:Hid (R=false):=by show _=_;rw[j.out,tC g,tC m,tB (.inl z)]
  clear j g m z
  go_enter func12, ntmps12
  go_wp2;go_ret;exact⟨cZ d.out.symm,r.out⟩
namespace Rf
def findO (p:Rn.Out->Bool):List Rn.Out->Int->Int
 | [],_=>-1
 | o::r,k=>if p o=true then k else findO p r (k+1)
theorem findO_any (p:Rn.Out->Bool):∀(l:List Rn.Out)(k:Int),0<=k->decide (0<=findO p l k)=l.any p
 | [],k,_=>rfl
 | o::r,k,h=>by
  rw[findO,List.any_cons]
  split
  next e=>rw[e,Bool.true_or];exact decide_eq_true h
  next e=>rw[findO_any p r (k+1) (by omega)];simp[e]
end Rf
def OutAt (B:Nat)(w:World)(b off:Nat)(o:Rn.Out):Prop :=
 ∃vm,w.cell? ⟨b,off,none⟩=some (.int .i64 o.kind)/\w.cell? ⟨b,off+1,none⟩=some (.bool o.ret.p)/\w.cell? ⟨b,off+2,none⟩=some (.int .i64 o.ret.s)/\w.cell? ⟨b,off+3,none⟩=some (.int .u32 o.ret.n)/\w.cell? ⟨b,off+4,none⟩=some vm/\TabAt B w vm o.mem
def OL (B:Nat)(w:World)(v:Value)(os:List Rn.Out):Prop:=SlAt B v os.length fun b off=>∀j o,os[j]?=some o->OutAt B w b (off+j*5) o
theorem OutAt.gr {w w':World}{b off:Nat}{o:Rn.Out}(h:OutAt w.heap.size w b off o)(hb:b<w.heap.size)(g:Gr w w'):OutAt w'.heap.size w' b off o:=by obtain⟨vm,d,j,l,m,p,q⟩:=h;exact⟨vm,(g.cell _ _ hb).trans d,(g.cell _ _ hb).trans j,(g.cell _ _ hb).trans l,(g.cell _ _ hb).trans m,(g.cell _ _ hb).trans p,q.gr g⟩
theorem OL.gr {w w':World}{v:Value}{os:List Rn.Out}(h:OL w.heap.size w v os)(g:Gr w w'):OL w'.heap.size w' v os :=
 SlAt.mono (SlAt.imp h fun b off d u j o y=>by
   obtain⟨vm,l,m,p,q,r,t⟩:=u j o y
   exact⟨vm,(g.cell _ _ d).trans l,(g.cell _ _ d).trans m,(g.cell _ _ d).trans p,(g.cell _ _ d).trans q,(g.cell _ _ d).trans r,t.gr g⟩) g.size
theorem OutsAt.ol {D:Nat->Prop}{B:Nat}{w:World}{v:Value}{outs:List Rn.Out}{vms:List Value}(h:OutsAt D B w v outs vms)(hn:outs.length<=1000):OL w.heap.size w v outs:=by obtain⟨A,c,rfl,r,-,-⟩:=dE h.own;refine⟨A,c,rfl,r,by omega,fun y=>?_⟩;obtain⟨b,rfl,l,-,d⟩:=dq h.own rfl y;refine⟨b,0,rfl,l,fun j o m=>?_⟩;have p:=(sR.1 m).1;obtain⟨vm,g⟩:∃vm,vms[j]?=some vm:=⟨_,sQ (by rw[h.len];exact p)⟩;have u:=h.at_ j o vm m g;have q:=fun t (ht:t<5)=>(d (j*5+t) (by omega)).trans (gv outs vms j t o vm m g ht);rw[Nat.zero_add];exact⟨vm,q 0 (by decide),q 1 (by decide),q 2 (by decide),q 3 (by decide),q 4 (by decide),u.tab⟩
theorem lI (g:Nat)(lb:Array Value)(eg:∀args w,(callFunc g args).run prog w=.ok (.enter g args) w)(p:Rn.Out->Bool)(v:Value)(os:List Rn.Out)(w:World)(ho:OL w.heap.size w v os)
  (hp:Hid (∀o∈os,∀(vm:Value)(W:World),Gr w W->TabAt W.heap.size W vm o.mem->Calls prog g (#[gG o vm]++lb) W (RG (.bool (p o)) W))) :
  Calls prog 59 #[v,.func (.func g) #[] lb] w (RG (.int .i64 (Rf.findO p os 0)) w):=by
 obtain⟨A,c,rfl,S,T,K⟩:=ho
 go_enter func59, ntmps59
 go_wp2
 go_loopw [5,8] (fun _ i wr=>∃k:Nat,k<=os.length/\i=.int .i64 k/\Gr w wr/\Hid (Rf.findO p os 0=Rf.findO p (os.drop k) k)) (fun _ i _=>os.length-(intOf i).toNat)
 case atStart=>exact⟨0,tR _,rfl,tX _,rfl⟩
 case round =>
  obtain⟨k,O,rfl,d,j⟩:=hrel;obtain⟨E,rfl⟩:∃E:World,E=wr:=⟨_,rfl⟩;rcases hr:os.drop k with _|⟨o,r⟩
  ·have B:=dm hr O;have N:Hid (Rf.findO p os 0=-1):=by show _=_;rw[j.out,hr];rfl
   subst B;clear hr j;go_wp2;go_ret;exact⟨dc (by rw[N.out]),d⟩
  ·obtain⟨Q,D,t⟩:=di hr;obtain⟨b,off,rfl,m,L⟩:=K (by omega);obtain⟨vm,F,G,H,I,J,C⟩:=L k o D;replace F:=(d.cell _ _ m).trans F;replace G:=(d.cell _ _ m).trans G;replace H:=(d.cell _ _ m).trans H;replace I:=(d.cell _ _ m).trans I;replace J:=(d.cell _ _ m).trans J;have u:Hid (Rf.findO p os 0=if p o=true then (k:Int) else Rf.findO p r (k+1)):=by show _=_;rw[j.out,hr];rfl
   have y:Hid (os.drop (k+1)=r):=t;have l:=dJ (hp.out o (sS D) vm E d (C.gr d));obtain⟨Am,cm,rfl,-⟩:=id C;clear hr D t j L K C;obtain⟨q,M⟩:=xJ (p o);rw[M]at u l;clear M;unfold gG at l
   cases q with
   | true =>
    go_wp2_with (go_at_fn g;refine l.out.mono ?_;rintro e R ⟨rfl,z⟩);go_ret;exact⟨dc (by rw[u.out];simp),d.trans z⟩
   | false =>
    go_wp2_with (go_at_fn g;refine l.out.mono ?_;rintro e R ⟨rfl,z⟩);go_roundw;case rel=>exact⟨k+1,by omega,by go_num,d.trans z,by (show _=_;rw[u.out,y.out];simp)⟩
    case measure=>simp[intOf];omega
theorem ew (g:Nat)(lb:Array Value)(eg:∀args w,(callFunc g args).run prog w=.ok (.enter g args) w)(p:Rn.Out->Bool)(v:Value)(os:List Rn.Out)(w:World)(ho:OL w.heap.size w v os)
  (hp:Hid (∀o∈os,∀(vm:Value)(W:World),Gr w W->TabAt W.heap.size W vm o.mem->Calls prog g (#[gG o vm]++lb) W (RG (.bool (p o)) W))) :
  Calls prog 36 #[v,.func (.func g) #[] lb] w (RG (.bool (os.any p)) w):=by
 have C:=dJ (lI g lb eg p v os w ho hp);have d:Hid (decide (0<=Rf.findO p os 0)=os.any p):=Rf.findO_any p os 0 (Int.le_refl 0);obtain⟨i,l⟩:=xJ (Rf.findO p os 0);rw[l]at C d;obtain⟨A,c,rfl,-⟩:=id ho;clear l hp ho eg;by_cases h:0<=i
 ·go_enter func36, ntmps36
  go_wp2_with (go_at_call 59;refine C.out.mono ?_;rintro e m ⟨rfl,j⟩);go_ret;exact⟨cZ (by rw[<-d.out];try simp[h]),j⟩
 ·go_enter func36, ntmps36
  go_wp2_with (go_at_call 59;refine C.out.mono ?_;rintro e m ⟨rfl,j⟩);go_ret;exact⟨cZ (by rw[<-d.out];try simp[h]),j⟩
theorem nh {w:World}{o:Rn.Out}{vm:Value}(hm:TabAt w.heap.size w vm o.mem):Calls prog 37 #[gG o vm] w (RG (.bool (decide (o.kind=1))) w):=by
 obtain⟨W,d⟩:=xJ (jD w o vm);have g:Gr w W:=by rw[<-d];exact(tX w).alloc _
 obtain⟨a0,j,l,a3,a4⟩:=dK (w:=w) (o:=o) (vm:=vm) (w':=W) (by rw[d];exact tX _);obtain⟨A,c,rfl,-⟩:=hm;unfold jD at d;unfold gG
 go_enter func37, ntmps37
 go_wp2;go_ret;exact⟨cZ (by first|rfl|(simp;rfl)),g⟩
theorem ni {w:World}{x y:Rn.Out}{vx:Value}{By:Nat}(hx:TabAt w.heap.size w vx x.mem)(hy:OutAt w.heap.size w By 0 y)(hB:By<w.heap.size) :
  Calls prog 39 #[gG x vx,.pointer (some ⟨By,0,none⟩)] w (RG (.bool (Rf.permits x y)) w):=by
 obtain⟨W,j⟩:=xJ (jD w x vx);have d:Gr w W:=by rw[<-j];exact(tX w).alloc _
 obtain⟨a0,q,r,a3,a4⟩:=dK (w:=w) (o:=x) (vm:=vx) (w':=W) (by rw[j];exact tX _);obtain⟨F,u,z,B,C,D,g⟩:=hy.gr hB d;have l:=dJ (kJ (w:=W) (s:=x) (t:=y) (hx.gr d) g);have m:=dJ d;obtain⟨A,c,rfl,-⟩:=hx;obtain⟨p,E,rfl,-⟩:=g;clear d;unfold jD at j;unfold gG at *
 go_enter func39, ntmps39
 go_wp2_with (go_at_call 12;refine l.out.mono ?_;rintro e G ⟨rfl,d⟩);go_ret;exact⟨rfl,m.out.trans d⟩
theorem pl {w:World}{y:Rn.Out}{vy vs:Value}{Bs:Nat}{ss:List Rn.Out}(hy:TabAt w.heap.size w vy y.mem)(hs:OL w.heap.size w vs ss)(hB:Bs<w.heap.size)(hBs:w.cell? ⟨Bs,0,none⟩=some vs) :
  Calls prog 38 #[gG y vy,.pointer (some ⟨Bs,0,none⟩)] w (RG (.bool (!ss.any fun x=>Rf.permits x y)) w):=by
 obtain⟨W,j⟩:=xJ (jD w y vy);have d:Gr w W:=by rw[<-j];exact(tX w).alloc _
 have g:OutAt W.heap.size W w.heap.size 0 y:=by obtain⟨a0,t,u,a3,a4⟩:=dK (w:=w) (o:=y) (vm:=vy) (w':=W) (by rw[j];exact tX _);exact⟨vy,a0,t,u,a3,a4,hy.gr d⟩
 have l:w.heap.size<W.heap.size:=by rw[<-j];unfold jD;simp
 have m:=dJ (ew 39 #[.pointer (some ⟨w.heap.size,0,none⟩)] (enters_of func39 (by kernel_rfl) rfl) (fun x=>Rf.permits x y) vs ss W (hs.gr d)
   (dJ fun o _ vm V p z=>ni z (g.gr l p) (by have:=p.size;omega)))
 have D:=(d.cell _ 0 hB).trans hBs;have r:=dJ d;obtain⟨b,q⟩:=xJ ((ss.any fun x=>Rf.permits x y));rw[q]at m ⊢;obtain⟨A,c,rfl,-⟩:=hy;obtain⟨B,C,rfl,-⟩:=hs;clear d g q;unfold jD at j;unfold gG
 go_enter func38, ntmps38
 go_wp2_with (go_at_call 36;refine m.out.mono ?_;rintro e E ⟨rfl,d⟩);go_ret;exact⟨rfl,r.out.trans d⟩
theorem dQ {w:World}{vs vt:Value}{ss ts:List Rn.Out}(hs:OL w.heap.size w vs ss)(ht:OL w.heap.size w vt ts) :
  Calls prog 14 #[vs,vt] w (RG (.bool (Rf.permitsAll ss ts)) w):=by
 obtain⟨W,B⟩:=xJ (w.alloc (.cells #[vs] 31));have d:Gr w W:=by rw[<-B];exact(tX w).alloc _
 have C:w.heap.size<W.heap.size:=by rw[<-B];simp
 have G:W.cell? ⟨w.heap.size,0,none⟩=some vs:=by rw[<-B];exact da _ _ 0 (tX _) rfl
 have E:Hid (∀u,Gr W u->u.cell? ⟨w.heap.size,0,none⟩=some vs):=fun u g=>(g.cell _ 0 C).trans G
 have j:Hid (∀u,Gr W u->Calls prog 36 #[vs,.func (.func 37) #[] #[]] u (RG (.bool (ss.any fun x=>decide (x.kind=1))) u)):=fun u g =>
  ew 37 #[] (enters_of func37 (by kernel_rfl) rfl) (fun x=>decide (x.kind=1)) vs ss u (hs.gr (d.trans g)) (dJ fun o _ vm V r z=>nh z)
 have l:Hid (∀u,Gr W u->Calls prog 36 #[vt,.func (.func 38) #[] #[.pointer (some ⟨w.heap.size,0,none⟩)]] u (RG (.bool (ts.any fun y=>!ss.any fun x=>Rf.permits x y)) u)):=fun u g =>
  ew 38 #[.pointer (some ⟨w.heap.size,0,none⟩)] (enters_of func38 (by kernel_rfl) rfl) (fun y=>!ss.any fun x=>Rf.permits x y) vt ts u (ht.gr (d.trans g))
   (dJ fun o _ vm V r z=>pl z (hs.gr ((d.trans g).trans r)) (by have:=(g.trans r).size;omega) (E.out V (g.trans r)))
 have q:Hid (Rf.permitsAll ss ts=((ss.any fun x=>decide (x.kind=1)) || !(ts.any fun y=>!ss.any fun x=>Rf.permits x y))):=by show _=_;unfold Rf.permitsAll;rw[Ir.any_not,Bool.not_not]
 have D:=dJ d;obtain⟨F,m⟩:∃b,(ss.any fun x=>decide (x.kind=1))=b:=⟨_,rfl⟩;obtain⟨J,p⟩:=xJ ((ts.any fun y=>!ss.any fun x=>Rf.permits x y));rw[m]at j q;rw[p]at l q;obtain⟨A,c,rfl,-⟩:=hs;obtain⟨I,K,rfl,-⟩:=ht;clear d m p;cases F
 all_goals
  go_enter func14, ntmps14
  go_wp2_with (first|(go_at_call 36;(with_reducible refine(j.out _ (tX W)).mono ?_);rintro e L ⟨rfl,d⟩;have t:=dJ d)|(go_at_call 36;(with_reducible refine(l.out _ t.out).mono ?_);rintro e M ⟨rfl,H⟩))
  go_ret
 ·exact⟨cZ (by rw[q.out];rfl),D.out.trans (t.out.trans H)⟩
 ·exact⟨cZ (by rw[q.out];rfl),D.out.trans t.out⟩
theorem gi (f g:Fn)(a b:Int)(ha:Ref.validate f=a)(hb:Ref.validate g=b) :
  (a≠0->Ref.alikeE f g=a/\Ref.alikeR f g=false)/\(a=0->b≠0->Ref.alikeE f g=b/\Ref.alikeR f g=false)/\(a=0->b=0->Ref.alikeE f g=0/\Ref.alikeR f g=Ref.alikeB f g):=by
 subst ha;subst hb;have d:Ref.alikeE f g=if Ref.validate f=0 then Ref.validate g else Ref.validate f:=rfl
 have j:Ref.alikeR f g=if Ref.alikeE f g=0 then Ref.alikeB f g else false:=rfl
 refine⟨fun h=>?_,fun h h'=>?_,fun h h'=>?_⟩
 ·rw[tC h]at d;rw[d,tC h]at j;exact⟨d,j⟩
 ·rw[tB h]at d;rw[d,tC h']at j;exact⟨d,j⟩
 ·rw[tB h]at d;rw[d,tB h']at j;exact⟨d.trans h',j⟩
theorem lY (vf vg:Value)(f g:Fn)(w:World)(hf:FnAt w.heap.size w vf f)(hg:FnAt w.heap.size w vg g)(hnf:fH f)(hng:fH g) :
  Calls prog 75 #[vf,vg] w (RG (.tuple #[.bool (Ref.alikeR f g),.int .i64 (Ref.alikeE f g)]) w):=by
 have m:Hid (∀d,Gr w d->Calls prog 42 #[vf] d (RG (.int .i64 (Ref.validate f)) d)):=fun d q=>fB vf f d (hf.gr q) hnf;have u:Hid (∀d,Gr w d->Calls prog 42 #[vg] d (RG (.int .i64 (Ref.validate g)) d)):=fun d q=>fB vg g d (hg.gr q) hng;obtain⟨vp,vs,vb,rfl,hp,E,hb⟩:=hf;obtain⟨up,us,ub,rfl,gp,D,gb⟩:=hg;have B:Hid (∀d,Gr w d->Calls prog 99 #[vp,up] d (RG (.bool (decide (f.params=g.params))) d)):=fun d q=>gh vp up _ _ d (hp.gr q) (gp.gr q);have C:Hid (∀d,Gr w d->Calls prog 99 #[vs,us] d (RG (.bool (decide (f.slots=g.slots))) d)):=fun d q=>gh vs us _ _ d (E.gr q) (D.gr q);have L:Hid (Ref.alikeB f g=(decide (f.params=g.params) && (f.ret == g.ret) && decide (f.slots=g.slots))):=by show _=_;rfl
 obtain⟨S,cp,rfl,-,-,-⟩:=hp;obtain⟨T,cs,rfl,-,-,-⟩:=E;obtain⟨R,Z,rfl,-,-,-⟩:=hb;obtain⟨X,dp,rfl,-,-,-⟩:=gp;obtain⟨Y,ds,rfl,-,-,-⟩:=D;obtain⟨U,db,rfl,-,-,-⟩:=gb;obtain⟨W,J⟩:=xJ ((w.alloc (.cells #[.slice S f.params.length cp,.int .i64 f.ret,.slice T f.slots.length cs,.slice R f.blocks.length Z] 36)).alloc (.cells #[.slice X g.params.length dp,.int .i64 g.ret,.slice Y g.slots.length ds,.slice U g.blocks.length db] 36));have j:Gr w W:=by rw[<-J];exact((tX w).alloc _).alloc _
 have aa:W.heap.size=w.heap.size+2:=by rw[<-J];simp
 have B0:Hid (∀w',Gr W w'->FBox w.heap.size w' f S T R cp cs Z/\FBox (w.heap.size+1) w' g X Y U dp ds db):=by intro w' q;refine⟨(FBox.new (V:=w) (by rw[<-J];exact(tX _).alloc _) rfl).gr (by omega) q,(FBox.new (V:=w.alloc _) (by rw[J];exact tX _) (by simp)).gr (by omega) q⟩
 obtain⟨⟨c0,c1,c2,c3⟩,⟨d0,d1,d2,d3⟩⟩:=B0.out W (tX _);obtain⟨G,O⟩:∃b,decide (f.params=g.params)=b:=⟨_,rfl⟩;obtain⟨M,h2⟩:∃b,(f.ret == g.ret)=b:=⟨_,rfl⟩;obtain⟨b3,Q⟩:∃b,decide (f.slots=g.slots)=b:=⟨_,rfl⟩;obtain⟨H,y⟩:=xJ (Ref.validate f);obtain⟨I,z⟩:=xJ (Ref.validate g);have t:=dJ (gi f g H I y z);rw[O,h2,Q]at L;rw[O]at B;rw[Q]at C;rw[y]at m;rw[z]at u;clear O Q y z;by_cases r:H=0
 ·have n1:(H != 0)=false:=by simp[r]
  by_cases A:I=0
  ·have n2:(I != 0)=false:=by simp[A]
   have l:=dJ (t.out.2.2 r A);clear r A;rcases (by cases G<;>cases M<;>simp:G=false\/(G=true/\M=false)\/(G=true/\M=true)) with rfl|⟨rfl,rfl⟩|⟨rfl,rfl⟩
   all_goals
    go_enter func75, ntmps75
    go_wp2_with (first|(go_at_call 42;with_reducible refine(m.out _ j).mono ?_;rintro e d ⟨rfl,p⟩;obtain⟨⟨k0,k1,k2,k3⟩,⟨m0,m1,m2,m3⟩⟩:=B0.out _ p)|(go_at_call 42;with_reducible refine(u.out _ (j.trans p)).mono ?_;rintro e w2 ⟨rfl,N⟩;have F:=p.trans N;obtain⟨⟨i0,i1,i2,i3⟩,⟨j0,j1,j2,j3⟩⟩:=B0.out _ F)|(go_at_call 99;with_reducible refine(B.out _ (j.trans F)).mono ?_;rintro e w3 ⟨rfl,g3⟩;have K:=F.trans g3;obtain⟨⟨s0,s1,s2,s3⟩,⟨t0,t1,t2,t3⟩⟩:=B0.out _ K)|(go_at_call 99;with_reducible refine(C.out _ (j.trans K)).mono ?_;rintro e w4 ⟨rfl,g4⟩;have q4:=K.trans g4))
    go_ret2
    first
     | exact⟨by rw[l.out.1,l.out.2,L.out];simp,j.trans q4⟩
     | exact⟨by rw[l.out.1,l.out.2,L.out];simp,j.trans K⟩
  ·have n2:(I != 0)=true:=by simp[A]
   have l:=dJ (t.out.2.1 r A);clear r A
   go_enter func75, ntmps75
   go_wp2_with (first|(go_at_call 42;with_reducible refine(m.out _ j).mono ?_;rintro e d ⟨rfl,p⟩;obtain⟨⟨k0,k1,k2,k3⟩,⟨m0,m1,m2,m3⟩⟩:=B0.out _ p)|(go_at_call 42;with_reducible refine(u.out _ (j.trans p)).mono ?_;rintro e w2 ⟨rfl,N⟩;have F:=p.trans N))
   go_ret2;exact⟨by rw[l.out.1,l.out.2];rfl,j.trans F⟩
 ·have n1:(H != 0)=true:=by simp[r]
  have l:=dJ (t.out.1 r);clear r
  go_enter func75, ntmps75
  go_wp2_with (go_at_call 42;with_reducible refine(m.out _ j).mono ?_;rintro e d ⟨rfl,p⟩);go_ret2;exact⟨by rw[l.out.1,l.out.2];rfl,j.trans p⟩
theorem rB (vf vg:Value)(f g:Fn)(w:World)(hf:FnAt w.heap.size w vf f)(hg:FnAt w.heap.size w vg g)(hnf:fH f)(hng:fH g) :
  Calls prog 77 #[vf,vg] w (RG (.tuple #[.bool (Ref.alikeR f g),.int .i64 (Ref.alikeE f g)]) w):=by
 have m:Hid (∀d,Gr w d->Calls prog 44 #[vf] d (RG (.int .i64 (Ref.validate f)) d)):=fun d q=>fF vf f d (hf.gr q) hnf;have u:Hid (∀d,Gr w d->Calls prog 44 #[vg] d (RG (.int .i64 (Ref.validate g)) d)):=fun d q=>fF vg g d (hg.gr q) hng;obtain⟨vp,vs,vb,rfl,hp,E,hb⟩:=hf;obtain⟨up,us,ub,rfl,gp,D,gb⟩:=hg;have B:Hid (∀d,Gr w d->Calls prog 112 #[vp,up] d (RG (.bool (decide (f.params=g.params))) d)):=fun d q=>eE vp up _ _ d (hp.gr q) (gp.gr q);have C:Hid (∀d,Gr w d->Calls prog 112 #[vs,us] d (RG (.bool (decide (f.slots=g.slots))) d)):=fun d q=>eE vs us _ _ d (E.gr q) (D.gr q);have L:Hid (Ref.alikeB f g=(decide (f.params=g.params) && (f.ret == g.ret) && decide (f.slots=g.slots))):=by show _=_;rfl
 obtain⟨S,cp,rfl,-,-,-⟩:=hp;obtain⟨T,cs,rfl,-,-,-⟩:=E;obtain⟨R,Z,rfl,-,-,-⟩:=hb;obtain⟨X,dp,rfl,-,-,-⟩:=gp;obtain⟨Y,ds,rfl,-,-,-⟩:=D;obtain⟨U,db,rfl,-,-,-⟩:=gb;obtain⟨W,J⟩:=xJ ((w.alloc (.cells #[.slice S f.params.length cp,.int .i64 f.ret,.slice T f.slots.length cs,.slice R f.blocks.length Z] 36)).alloc (.cells #[.slice X g.params.length dp,.int .i64 g.ret,.slice Y g.slots.length ds,.slice U g.blocks.length db] 36));have j:Gr w W:=by rw[<-J];exact((tX w).alloc _).alloc _
 have aa:W.heap.size=w.heap.size+2:=by rw[<-J];simp
 have B0:Hid (∀w',Gr W w'->FBox w.heap.size w' f S T R cp cs Z/\FBox (w.heap.size+1) w' g X Y U dp ds db):=by intro w' q;refine⟨(FBox.new (V:=w) (by rw[<-J];exact(tX _).alloc _) rfl).gr (by omega) q,(FBox.new (V:=w.alloc _) (by rw[J];exact tX _) (by simp)).gr (by omega) q⟩
 obtain⟨⟨c0,c1,c2,c3⟩,⟨d0,d1,d2,d3⟩⟩:=B0.out W (tX _);obtain⟨G,O⟩:∃b,decide (f.params=g.params)=b:=⟨_,rfl⟩;obtain⟨M,h2⟩:∃b,(f.ret == g.ret)=b:=⟨_,rfl⟩;obtain⟨b3,Q⟩:∃b,decide (f.slots=g.slots)=b:=⟨_,rfl⟩;obtain⟨H,y⟩:=xJ (Ref.validate f);obtain⟨I,z⟩:=xJ (Ref.validate g);have t:=dJ (gi f g H I y z);rw[O,h2,Q]at L;rw[O]at B;rw[Q]at C;rw[y]at m;rw[z]at u;clear O Q y z;by_cases r:H=0
 ·have n1:(H != 0)=false:=by simp[r]
  by_cases A:I=0
  ·have n2:(I != 0)=false:=by simp[A]
   have l:=dJ (t.out.2.2 r A);clear r A;rcases (by cases G<;>cases M<;>simp:G=false\/(G=true/\M=false)\/(G=true/\M=true)) with rfl|⟨rfl,rfl⟩|⟨rfl,rfl⟩
   all_goals
    go_enter func77, ntmps77
    go_wp2_with (first|(go_at_call 44;with_reducible refine(m.out _ j).mono ?_;rintro e d ⟨rfl,p⟩;obtain⟨⟨k0,k1,k2,k3⟩,⟨m0,m1,m2,m3⟩⟩:=B0.out _ p)|(go_at_call 44;with_reducible refine(u.out _ (j.trans p)).mono ?_;rintro e w2 ⟨rfl,N⟩;have F:=p.trans N;obtain⟨⟨i0,i1,i2,i3⟩,⟨j0,j1,j2,j3⟩⟩:=B0.out _ F)|(go_at_call 112;with_reducible refine(B.out _ (j.trans F)).mono ?_;rintro e w3 ⟨rfl,g3⟩;have K:=F.trans g3;obtain⟨⟨s0,s1,s2,s3⟩,⟨t0,t1,t2,t3⟩⟩:=B0.out _ K)|(go_at_call 112;with_reducible refine(C.out _ (j.trans K)).mono ?_;rintro e w4 ⟨rfl,g4⟩;have q4:=K.trans g4))
    go_ret2
    first
     | exact⟨by rw[l.out.1,l.out.2,L.out];simp,j.trans q4⟩
     | exact⟨by rw[l.out.1,l.out.2,L.out];simp,j.trans K⟩
  ·have n2:(I != 0)=true:=by simp[A]
   have l:=dJ (t.out.2.1 r A);clear r A
   go_enter func77, ntmps77
   go_wp2_with (first|(go_at_call 44;with_reducible refine(m.out _ j).mono ?_;rintro e d ⟨rfl,p⟩;obtain⟨⟨k0,k1,k2,k3⟩,⟨m0,m1,m2,m3⟩⟩:=B0.out _ p)|(go_at_call 44;with_reducible refine(u.out _ (j.trans p)).mono ?_;rintro e w2 ⟨rfl,N⟩;have F:=p.trans N))
   go_ret2;exact⟨by rw[l.out.1,l.out.2];rfl,j.trans F⟩
 ·have n1:(H != 0)=true:=by simp[r]
  have l:=dJ (t.out.1 r);clear r
  go_enter func77, ntmps77
  go_wp2_with (go_at_call 44;with_reducible refine(m.out _ j).mono ?_;rintro e d ⟨rfl,p⟩);go_ret2;exact⟨by rw[l.out.1,l.out.2];rfl,j.trans p⟩
theorem jc {w:World}{vf vg:Value}{f g:Fn}(hf:FnAt w.heap.size w vf f)(hg:FnAt w.heap.size w vg g)(hnf:fH f)(hng:fH g) :
  Calls prog 49 #[vf,vg] w (RG (.int .i64 (Rf.alikeX f g)) w):=by
 have d:Hid (∀u,Gr w u->Calls prog 75 #[vf,vg] u (RG (.tuple #[.bool (Ref.alikeR f g),.int .i64 (Ref.alikeE f g)]) u)):=fun u q=>lY vf vg f g u (hf.gr q) (hg.gr q) hnf hng;have p:Hid (Rf.alikeX f g=if Ref.alikeE f g≠0 then Ref.alikeE f g else if Ref.alikeB f g=false then 5 else 0):=by show _=_;rfl
 have r:Hid (Ref.alikeR f g=if Ref.alikeE f g=0 then Ref.alikeB f g else false):=by show _=_;rfl
 obtain⟨vp,vs,vb,rfl,J,D,I⟩:=hf;obtain⟨up,us,ub,rfl,H,A,G⟩:=hg;obtain⟨N,W,rfl,-⟩:=J;obtain⟨O,cs,rfl,-⟩:=D;obtain⟨M,U,rfl,-⟩:=I;obtain⟨S,Z,rfl,-⟩:=H;obtain⟨T,ds,rfl,-⟩:=A;obtain⟨Q,Y,rfl,-⟩:=G;obtain⟨X,C⟩:=xJ (Rf.alikeX f g);obtain⟨E,t⟩:=xJ (Ref.alikeE f g);obtain⟨R,B⟩:=xJ (Ref.alikeR f g);obtain⟨F,m⟩:=xJ (Ref.alikeB f g);rw[C,t,m]at p;rw[t,B,m]at r;rw[t,B]at d;rw[C];clear C t B m;by_cases l:E=0
 ·have K:(E != 0)=false:=by simp[l]
  have y:Hid (R=F):=by show _=_;rw[r.out,tB l]
  have j:Hid (X=if R=false then 5 else 0):=by show _=_;rw[p.out,tC (by simp[l]),y.out]
  clear l r p;cases R
  all_goals
   go_enter func49, ntmps49
   go_wp2_with (go_at_call 75;(with_reducible refine(d.out _ (((tX w).alloc _).alloc _)).mono ?_);rintro e L ⟨rfl,z⟩);go_ret;exact⟨dc (by rw[j.out];rfl),(((tX w).alloc _).alloc _).trans z⟩
 ·have K:(E != 0)=true:=by simp[l]
  have j:Hid (X=E):=by show _=_;rw[p.out,tB l]
  clear l r p
  go_enter func49, ntmps49
  go_wp2_with (go_at_call 75;(with_reducible refine(d.out _ (((tX w).alloc _).alloc _)).mono ?_);rintro e L ⟨rfl,z⟩);go_ret;exact⟨dc (by rw[j.out]),(((tX w).alloc _).alloc _).trans z⟩
def InpAt (B:Nat)(w:World)(va vm:Value)(i:Rn.Inp):Prop:=U32At B w va i.args/\TabAt B w vm i.mem/\∀a∈i.args,0<=a
theorem InpAt.gr {w w':World}{va vm:Value}{i:Rn.Inp}(h:InpAt w.heap.size w va vm i)(g:Gr w w'):InpAt w'.heap.size w' va vm i :=
 ⟨SlAt.mono (U32At.below h.1 g) g.size,h.2.1.gr g,h.2.2⟩
def rS (f:Fn)(i:Rn.Inp)(e:Ending)(w':World):Prop :=
 ∃(A:Option Addr)(n c:Nat),e=.returned (.tuple #[.slice A n c,.int .i64 (Rf.allE f i)])/\(Rf.allE f i=0->OL w'.heap.size w' (.slice A n c) (Rf.outsOf f i))
theorem li {w:World}{f:Fn}{vf:Value}(hfn:FnAt w.heap.size w vf f)(hnice:fH f)(him:Rn.Im f){i:Rn.Inp}{va vm:Value}(hi:InpAt w.heap.size w va vm i) :
  Calls prog 52 #[vf,.agg #[va,vm]] w fun e w'=>rS f i e w'/\Gr w w':=by
 refine(qG hfn hnice him hi.1 hi.2.1 hi.2.2).mono fun e w' ⟨h,g⟩=>⟨?_,g⟩;rcases h with ⟨h,j⟩|⟨h,p,j⟩|⟨h,d,m,y,u,v,D,t,j,l⟩
 ·have q:Rf.allE f i=Rn.validInput f i:=by unfold Rf.allE;rw[tB h]
  exact⟨none,0,0,by rw[q];exact j,fun z=>absurd (q ▸ z) h⟩
 ·have q:Rf.allE f i=3:=by unfold Rf.allE;rw[tC (by simp[h]),tB p]
  exact⟨none,0,0,by rw[q];exact j,fun z=>absurd (q ▸ z) (by decide)⟩
 ·have q:Rf.allE f i=0:=by unfold Rf.allE;rw[tC (by simp[h]),tC (by simp[m])]
  have r:Rf.outsOf f i=d:=by unfold Rf.outsOf;rw[m];rfl
  obtain⟨A,c,rfl,-⟩:=dE l.own;refine⟨A,d.length,c,by rw[q];exact j,fun _=>?_⟩;rw[r];exact l.ol (by omega)
def qx (f g:Fn)(i:Rn.Inp)(e:Ending)(w':World):Prop :=
 ∃(A:Option Addr)(n c:Nat)(A':Option Addr)(n' c':Nat),e=.returned (.tuple #[.slice A n c,.slice A' n' c',.int .i64 (Rf.bothE f g i)])/\(Rf.bothE f g i=0->OL w'.heap.size w' (.slice A n c) (Rf.outsOf f i)/\OL w'.heap.size w' (.slice A' n' c') (Rf.outsOf g i))
structure Arg3 (w:World)(vf vg va vm:Value)(f g:Fn)(i:Rn.Inp):Prop where
 f:FnAt w.heap.size w vf f
 g:FnAt w.heap.size w vg g
 i:InpAt w.heap.size w va vm i
theorem Arg3.gr {w w':World}{vf vg va vm:Value}{f g:Fn}{i:Rn.Inp}(h:Arg3 w vf vg va vm f g i)(q:Gr w w'):Arg3 w' vf vg va vm f g i:=⟨h.f.gr q,h.g.gr q,h.i.gr q⟩
theorem rZ {w W:World}{cf cg ci:Array Value}{tf tg ti:TypeId}(h:((w.alloc (.cells cf tf)).alloc (.cells cg tg)).alloc (.cells ci ti)=W) :
  Gr w W/\∀u,Gr W u->(∀o,u.cell? ⟨w.heap.size,o,none⟩=cf[o]?)/\(∀o,u.cell? ⟨w.heap.size+1,o,none⟩=cg[o]?)/\∀o,u.cell? ⟨w.heap.size+1+1,o,none⟩=ci[o]?:=by
 subst h;refine⟨(((tX w).alloc _).alloc _).alloc _,fun u g=>⟨fun o=>?_,fun o=>?_,fun o=>?_⟩⟩
 ·exact da (V:=w) _ _ o ((((tX _).alloc _).alloc _).trans g) rfl
 ·exact da (V:=w.alloc (.cells cf tf)) _ _ o (((tX _).alloc _).trans g) (by simp)
 ·exact da (V:=(w.alloc (.cells cf tf)).alloc (.cells cg tg)) _ _ o g (by simp)
abbrev C10 (u:World)(k:Nat)(a0 a1 a2 a3 b0 b1 b2 b3 c0 c1:Value):Prop :=
 (u.cell? ⟨k,0,none⟩=some a0/\u.cell? ⟨k,1,none⟩=some a1/\u.cell? ⟨k,2,none⟩=some a2/\u.cell? ⟨k,3,none⟩=some a3) /\
 (u.cell? ⟨k+1,0,none⟩=some b0/\u.cell? ⟨k+1,1,none⟩=some b1/\u.cell? ⟨k+1,2,none⟩=some b2/\u.cell? ⟨k+1,3,none⟩=some b3) /\
 u.cell? ⟨k+1+1,0,none⟩=some c0/\u.cell? ⟨k+1+1,1,none⟩=some c1
theorem qI {w W:World}{a0 a1 a2 a3 b0 b1 b2 b3 c0 c1:Value}{tf tg ti:TypeId}(h:((w.alloc (.cells #[a0,a1,a2,a3] tf)).alloc (.cells #[b0,b1,b2,b3] tg)).alloc (.cells #[c0,c1] ti)=W) :
  Gr w W/\∀u,Gr W u->C10 u w.heap.size a0 a1 a2 a3 b0 b1 b2 b3 c0 c1:=by
 obtain⟨d,j⟩:=rZ h;refine⟨d,fun u g=>?_⟩;obtain⟨k,l,m⟩:=j u g;exact⟨⟨k 0,k 1,k 2,k 3⟩,⟨l 0,l 1,l 2,l 3⟩,m 0,m 1⟩
theorem lk {w:World}{vf vg va vm:Value}{f g:Fn}{i:Rn.Inp}(h:Arg3 w vf vg va vm f g i)(hnf:fH f)(hng:fH g)(hif:Rn.Im f)(hig:Rn.Im g) :
  Calls prog 40 #[vf,vg,.agg #[va,vm]] w fun e w'=>qx f g i e w'/\Gr w w':=by
 have F:Hid (∀u,Gr w u->Calls prog 49 #[vf,vg] u (RG (.int .i64 (Rf.alikeX f g)) u)):=fun u q=>jc (h.f.gr q) (h.g.gr q) hnf hng;have G:Hid (∀u,Gr w u->Calls prog 52 #[vf,.agg #[va,vm]] u fun e w'=>rS f i e w'/\Gr u w'):=fun u q=>li (h.f.gr q) hnf hif (h.i.gr q);have J:Hid (∀u,Gr w u->Calls prog 52 #[vg,.agg #[va,vm]] u fun e w'=>rS g i e w'/\Gr u w'):=fun u q=>li (h.g.gr q) hng hig (h.i.gr q);have r:Hid (Rf.bothE f g i=if Rf.alikeX f g≠0 then Rf.alikeX f g else if Rf.allE f i≠0 then Rf.allE f i else Rf.allE g i):=by show _=_;rfl
 obtain⟨⟨vp,vs,vb,rfl,hp,O,hb⟩,⟨up,us,ub,rfl,gp,M,gb⟩,⟨ha,hm,-⟩⟩:=h;obtain⟨S,Y,rfl,-⟩:=hp;obtain⟨T,cs,rfl,-⟩:=O;obtain⟨R,U,rfl,-⟩:=hb;obtain⟨Dp,dp,rfl,-⟩:=gp;obtain⟨Ds,ds,rfl,-⟩:=M;obtain⟨Db,db,rfl,-⟩:=gb;obtain⟨Q,ca,rfl,-⟩:=ha;obtain⟨Am,cm,rfl,-⟩:=hm;obtain⟨W,hW⟩:=xJ (((w.alloc (.cells #[.slice S f.params.length Y,.int .i64 f.ret,.slice T f.slots.length cs,.slice R f.blocks.length U] 36)).alloc (.cells #[.slice Dp g.params.length dp,.int .i64 g.ret,.slice Ds g.slots.length ds,.slice Db g.blocks.length db] 36)).alloc (.cells #[.slice Q i.args.length ca,.slice Am i.mem.length cm] 41));obtain⟨hG,N⟩:=qI hW;have d:=dJ hG;have K:=dJ N;obtain⟨⟨k0,k1,k2,k3⟩,⟨l0,l1,l2,l3⟩,m0,m1⟩:=N W (tX W);obtain⟨X,hX⟩:=xJ (Rf.alikeX f g);rw[hX]at r F;clear hG N hX;by_cases j:X=0
 ·have q0:(X != 0)=false:=by simp[j]
  by_cases m:Rf.allE f i=0
  ·have l:Hid (Rf.bothE f g i=Rf.allE g i):=by show _=_;rw[r.out,tC (by simp[j]),tC (by simp[m])]
   have I:Hid (∀u,Gr w u->Calls prog 52 #[.agg #[.slice S f.params.length Y,.int .i64 f.ret,.slice T f.slots.length cs,.slice R f.blocks.length U],.agg #[.slice Q i.args.length ca,.slice Am i.mem.length cm]] u fun e w'=>∃A n c,e=.returned (.tuple #[.slice A n c,.int .i64 0])/\OL w'.heap.size w' (.slice A n c) (Rf.outsOf f i)/\Gr u w'):=fun u q=>(G.out u q).mono fun e w' ⟨⟨A,n,c,he,y⟩,g'⟩=>⟨A,n,c,by rw[m]at he;exact he,y m,g'⟩;clear G r j m
   go_enter func40, ntmps40
   go_wp2_with (first|(go_at_call 49;refine(F.out _ d.out).mono ?_;rintro e z ⟨rfl,t⟩;have p:Hid (Gr W z):=t;clear t;obtain⟨⟨k0,k1,k2,k3⟩,⟨l0,l1,l2,l3⟩,m0,m1⟩:=K.out z p.out)|(go_at_call 52;(with_reducible refine(I.out _ (d.out.trans p.out)).mono ?_);rintro e H ⟨A,n,c,rfl,y,C⟩;have B:Hid (Gr W H):=p.out.trans C;have HO:=dJ y;clear C y;obtain⟨⟨i0,i1,i2,i3⟩,⟨j0,j1,j2,j3⟩,n0,n1⟩:=K.out H B.out)|(go_at_call 52;(with_reducible refine(J.out _ (d.out.trans B.out)).mono ?_);rintro e w3 ⟨⟨A',n',c',rfl,D⟩,Z⟩;have L:=dJ D;clear D))
   go_ret3
   exact⟨⟨A,n,c,A',n',c',by rw[l.out];rfl,fun E=>⟨HO.out.gr Z,L.out (l.out ▸ E)⟩⟩,d.out.trans (B.out.trans Z)⟩
  ·have q1:(Rf.allE f i != 0)=true:=by simp[m]
   have l:Hid (Rf.bothE f g i=Rf.allE f i):=by show _=_;rw[r.out,tC (by simp[j]),tB m]
   have H1:Hid (Rf.allE f i≠0):=m;clear r j m J
   go_enter func40, ntmps40
   go_wp2_with (first|(go_at_call 49;refine(F.out _ d.out).mono ?_;rintro e z ⟨rfl,t⟩;have p:Hid (Gr W z):=t;clear t;obtain⟨⟨k0,k1,k2,k3⟩,⟨l0,l1,l2,l3⟩,m0,m1⟩:=K.out z p.out)|(go_at_call 52;refine(G.out _ (d.out.trans p.out)).mono ?_;rintro e H ⟨⟨A,n,c,rfl,y⟩,C⟩;have B:Hid (Gr W H):=p.out.trans C;clear C y))
   go_ret3
   exact⟨⟨none,0,0,none,0,0,by rw[l.out];rfl,fun E=>absurd (l.out ▸ E) H1.out⟩,d.out.trans B.out⟩
 ·have q0:(X != 0)=true:=by simp[j]
  have l:Hid (Rf.bothE f g i=X):=by show _=_;rw[r.out,tB j]
  have H0:Hid (X≠0):=j;clear r j G J
  go_enter func40, ntmps40
  go_wp2_with (go_at_call 49;refine(F.out _ d.out).mono ?_;rintro e z ⟨rfl,t⟩)
  go_ret3
  exact⟨⟨none,0,0,none,0,0,by rw[l.out];rfl,fun E=>absurd (l.out ▸ E) H0.out⟩,d.out.trans t⟩
def atV (f g:Fn)(i:Rn.Inp):Value:=.tuple #[.bool (if Rf.bothE f g i=0 then Rf.atB f g i else false),.int .i64 (Rf.bothE f g i)]
def jm (f g:Fn)(i:Rn.Inp):Value:=.tuple #[.bool (if Rf.bothE f g i=0 then Rf.atB f g i && Rf.atB g f i else false),.int .i64 (Rf.bothE f g i)]
theorem rD {w:World}{vf vg va vm:Value}{f g:Fn}{i:Rn.Inp}(h:Arg3 w vf vg va vm f g i)(hnf:fH f)(hng:fH g)(hif:Rn.Im f)(hig:Rn.Im g) :
  Calls prog 18 #[vf,vg,.agg #[va,vm]] w (RG (atV f g i) w):=by
 have G:Hid (∀u,Gr w u->Calls prog 40 #[vf,vg,.agg #[va,vm]] u fun e w'=>qx f g i e w'/\Gr u w'):=fun u q=>lk (h.gr q) hnf hng hif hig;obtain⟨⟨vp,vs,vb,rfl,hp,M,hb⟩,⟨up,us,ub,rfl,gp,L,gb⟩,⟨ha,hm,-⟩⟩:=h;obtain⟨Q,cp,rfl,-⟩:=hp;obtain⟨R,cs,rfl,-⟩:=M;obtain⟨O,cb,rfl,-⟩:=hb;obtain⟨X,dp,rfl,-⟩:=gp;obtain⟨Y,ds,rfl,-⟩:=L;obtain⟨U,db,rfl,-⟩:=gb;obtain⟨N,ca,rfl,-⟩:=ha;obtain⟨Am,cm,rfl,-⟩:=hm;obtain⟨W,hW⟩:=xJ (((w.alloc (.cells #[.slice Q f.params.length cp,.int .i64 f.ret,.slice R f.slots.length cs,.slice O f.blocks.length cb] 36)).alloc (.cells #[.slice X g.params.length dp,.int .i64 g.ret,.slice Y g.slots.length ds,.slice U g.blocks.length db] 36)).alloc (.cells #[.slice N i.args.length ca,.slice Am i.mem.length cm] 41));obtain⟨hG,hK⟩:=qI hW;have D:=dJ hG;obtain⟨⟨k0,k1,k2,k3⟩,⟨l0,l1,l2,l3⟩,m0,m1⟩:=hK W (tX W);clear hG hK;by_cases j:Rf.bothE f g i=0
 ·have H:Hid (∀u,Gr w u->Calls prog 40 #[.agg #[.slice Q f.params.length cp,.int .i64 f.ret,.slice R f.slots.length cs,.slice O f.blocks.length cb],.agg #[.slice X g.params.length dp,.int .i64 g.ret,.slice Y g.slots.length ds,.slice U g.blocks.length db],.agg #[.slice N i.args.length ca,.slice Am i.mem.length cm]] u fun e w'=>∃A n c t z y,e=.returned (.tuple #[.slice A n c,.slice t z y,.int .i64 0])/\OL w'.heap.size w' (.slice A n c) (Rf.outsOf f i)/\OL w'.heap.size w' (.slice t z y) (Rf.outsOf g i)/\Gr u w'):=fun u q=>(G.out u q).mono fun e w' ⟨⟨A,n,c,t,z,y,he,p⟩,g'⟩=>⟨A,n,c,t,z,y,by rw[j]at he;exact he,(p j).1,(p j).2,g'⟩;have m:Hid (atV f g i=.tuple #[.bool (Rf.atB f g i),.int .i64 0]):=by show _=_;unfold atV;rw[j];rfl
  obtain⟨b1,d⟩:=xJ (Rf.atB f g i);obtain⟨b2,r⟩:=xJ (Rf.atB g f i);have J:Hid (Rf.permitsAll (Rf.outsOf f i) (Rf.outsOf g i)=b1):=d;have K:Hid (Rf.permitsAll (Rf.outsOf g i) (Rf.outsOf f i)=b2):=r
  first|rw[d,r]at m|rw[d]at m
  clear G j d r;cases b1
  all_goals
   go_enter func18, ntmps18
   go_wp2_with (first|(go_at_call 40;refine(H.out _ D.out).mono ?_;rintro e w1 ⟨A,n,c,t,z,y,rfl,p,C,E⟩;have G1:Hid (Gr W w1):=E;have Z:=dJ p;have B:=dJ C;clear E p C;have S:=dJ (dQ Z.out B.out);rw[J.out]at S;have l:=trivial)|(have _t:=l;go_at_call 14;(with_reducible refine S.out.mono ?_);rintro e w2 ⟨rfl,F⟩;have I:Hid (Gr W w2):=G1.out.trans F;clear l;have T:=dJ (dQ (B.out.gr F) (Z.out.gr F));rw[K.out]at T;clear F)|(go_at_call 14;(with_reducible refine T.out.mono ?_);rintro e w3 ⟨rfl,g3⟩;have I:Hid (Gr W w3):=I.out.trans g3;clear g3))
   go_ret2;exact⟨dk (by rw[m.out];try simp),D.out.trans I.out⟩
 ·have q1:(Rf.bothE f g i != 0)=true:=by simp[j]
  have HR:Hid (atV f g i=.tuple #[.bool false,.int .i64 (Rf.bothE f g i)]):=by show _=_;unfold atV;rw[tC j]
  clear j
  go_enter func18, ntmps18
  go_wp2_with (go_at_call 40;refine(G.out _ D.out).mono ?_;rintro e w1 ⟨⟨A,n,c,t,z,y,rfl,p⟩,E⟩;clear p);go_ret2;exact⟨dk HR.out.symm,D.out.trans E⟩
theorem rF {w:World}{vf vg va vm:Value}{f g:Fn}{i:Rn.Inp}(h:Arg3 w vf vg va vm f g i)(hnf:fH f)(hng:fH g)(hif:Rn.Im f)(hig:Rn.Im g) :
  Calls prog 20 #[vf,vg,.agg #[va,vm]] w (RG (jm f g i) w):=by
 have G:Hid (∀u,Gr w u->Calls prog 40 #[vf,vg,.agg #[va,vm]] u fun e w'=>qx f g i e w'/\Gr u w'):=fun u q=>lk (h.gr q) hnf hng hif hig;obtain⟨⟨vp,vs,vb,rfl,hp,M,hb⟩,⟨up,us,ub,rfl,gp,L,gb⟩,⟨ha,hm,-⟩⟩:=h;obtain⟨Q,cp,rfl,-⟩:=hp;obtain⟨R,cs,rfl,-⟩:=M;obtain⟨O,cb,rfl,-⟩:=hb;obtain⟨X,dp,rfl,-⟩:=gp;obtain⟨Y,ds,rfl,-⟩:=L;obtain⟨U,db,rfl,-⟩:=gb;obtain⟨N,ca,rfl,-⟩:=ha;obtain⟨Am,cm,rfl,-⟩:=hm;obtain⟨W,hW⟩:=xJ (((w.alloc (.cells #[.slice Q f.params.length cp,.int .i64 f.ret,.slice R f.slots.length cs,.slice O f.blocks.length cb] 36)).alloc (.cells #[.slice X g.params.length dp,.int .i64 g.ret,.slice Y g.slots.length ds,.slice U g.blocks.length db] 36)).alloc (.cells #[.slice N i.args.length ca,.slice Am i.mem.length cm] 41));obtain⟨hG,hK⟩:=qI hW;have D:=dJ hG;obtain⟨⟨k0,k1,k2,k3⟩,⟨l0,l1,l2,l3⟩,m0,m1⟩:=hK W (tX W);clear hG hK;by_cases j:Rf.bothE f g i=0
 ·have H:Hid (∀u,Gr w u->Calls prog 40 #[.agg #[.slice Q f.params.length cp,.int .i64 f.ret,.slice R f.slots.length cs,.slice O f.blocks.length cb],.agg #[.slice X g.params.length dp,.int .i64 g.ret,.slice Y g.slots.length ds,.slice U g.blocks.length db],.agg #[.slice N i.args.length ca,.slice Am i.mem.length cm]] u fun e w'=>∃A n c t z y,e=.returned (.tuple #[.slice A n c,.slice t z y,.int .i64 0])/\OL w'.heap.size w' (.slice A n c) (Rf.outsOf f i)/\OL w'.heap.size w' (.slice t z y) (Rf.outsOf g i)/\Gr u w'):=fun u q=>(G.out u q).mono fun e w' ⟨⟨A,n,c,t,z,y,he,p⟩,g'⟩=>⟨A,n,c,t,z,y,by rw[j]at he;exact he,(p j).1,(p j).2,g'⟩;have m:Hid (jm f g i=.tuple #[.bool (Rf.atB f g i && Rf.atB g f i),.int .i64 0]):=by show _=_;unfold jm;rw[j];rfl
  obtain⟨b1,d⟩:=xJ (Rf.atB f g i);obtain⟨b2,r⟩:=xJ (Rf.atB g f i);have J:Hid (Rf.permitsAll (Rf.outsOf f i) (Rf.outsOf g i)=b1):=d;have K:Hid (Rf.permitsAll (Rf.outsOf g i) (Rf.outsOf f i)=b2):=r
  first|rw[d,r]at m|rw[d]at m
  clear G j d r;cases b1
  all_goals
   go_enter func20, ntmps20
   go_wp2_with (first|(go_at_call 40;refine(H.out _ D.out).mono ?_;rintro e w1 ⟨A,n,c,t,z,y,rfl,p,C,E⟩;have G1:Hid (Gr W w1):=E;have Z:=dJ p;have B:=dJ C;clear E p C;have S:=dJ (dQ Z.out B.out);rw[J.out]at S;have l:=trivial)|(have _t:=l;go_at_call 14;(with_reducible refine S.out.mono ?_);rintro e w2 ⟨rfl,F⟩;have I:Hid (Gr W w2):=G1.out.trans F;clear l;have T:=dJ (dQ (B.out.gr F) (Z.out.gr F));rw[K.out]at T;clear F)|(go_at_call 14;(with_reducible refine T.out.mono ?_);rintro e w3 ⟨rfl,g3⟩;have I:Hid (Gr W w3):=I.out.trans g3;clear g3))
   go_ret2;exact⟨dk (by rw[m.out];try simp),D.out.trans I.out⟩
 ·have q1:(Rf.bothE f g i != 0)=true:=by simp[j]
  have HR:Hid (jm f g i=.tuple #[.bool false,.int .i64 (Rf.bothE f g i)]):=by show _=_;unfold jm;rw[tC j]
  clear j
  go_enter func20, ntmps20
  go_wp2_with (go_at_call 40;refine(G.out _ D.out).mono ?_;rintro e w1 ⟨⟨A,n,c,t,z,y,rfl,p⟩,E⟩;clear p);go_ret2;exact⟨dk HR.out.symm,D.out.trans E⟩

/- Parts: Dv Eo Ep Cy Kn La Oc. -/
import Derived.Test.YthfhamagopbgcaaGreatH45
set_option linter.unusedSimpArgs false
set_option linter.unusedVariables false
set_option maxRecDepth 100000
set_option maxHeartbeats 16000000
open Go.Proofs.Tryz
namespace Go.Proofs.YthfhamagopbgcaaGreat
section
open Go.RowKit
theorem Rn.widB_of {n:Int}(h:Wd.Wid n):Wd.widB n=true:=by
 unfold Wd.widB;have d:=h.1;have g:=h.2;simp[d,g]
theorem fR {w:World}{f:Fn}{vf:Value}(hfn:FnAt w.heap.size w vf f)(hnice:jF f){i:Rn.Inp}{va vm:Value}(ha:U32At w.heap.size w va i.args)(hm:TabAt w.heap.size w vm i.mem)(hnn:∀a∈i.args,0<=a/\a<4294967296) :
  Calls prog 14 #[vf,.agg #[va,vm]] w fun e w'=>e=.returned (.int .i64 (Rn.validInput f i))/\Gr w w':=by
 have aD:=dJ hnn;clear hnn;obtain⟨vp,vs,vb,rfl,hp,hs,hb⟩:=hfn;obtain⟨W,hW⟩:=xJ ((w.alloc (.cells #[vp,.int .i64 f.ret,vs,vb] 25)).alloc (.cells #[va,vm] 29));have G:Gr w W:=by rw[<-hW];exact((wL w).alloc _).alloc _
 have au:(w.alloc (.cells #[vp,.int .i64 f.ret,vs,vb] 25)).heap.size=w.heap.size+1:=by simp
 have ac:W.heap[w.heap.size]?=some (.cells #[vp,.int .i64 f.ret,vs,vb] 25 (0,0)):=by
  rw[<-hW];exact(((wL (w.alloc (.cells #[vp,.int .i64 f.ret,vs,vb] 25))).alloc _).heap _ (by simp)).trans (heap_alloc_new w _)
 have ad:W.heap[w.heap.size+1]?=some (.cells #[va,vm] 29 (0,0)):=by rw[<-hW,<-au];exact heap_alloc_new _ _
 have CV:=dJ (qx (.agg #[vp,.int .i64 f.ret,vs,vb]) f W ⟨vp,vs,vb,rfl,(hp.below G).mono G.size,(hs.below G).mono G.size,(hb.below G).mono G.size⟩ hnice);have HF:Hid (∀wr,Gr W wr->wr.heap[w.heap.size]?=some (.cells #[vp,.int .i64 f.ret,vs,vb] 25 (0,0))/\wr.heap[w.heap.size+1]?=some (.cells #[va,vm] 29 (0,0))):=fun wr g=>⟨(g.heap _ (cY ac)).trans ac,(g.heap _ (cY ad)).trans ad⟩;obtain⟨Ap,cp,rfl,p1,p2,p3⟩:=hp;obtain⟨As,cs,rfl,s1,s2,s3⟩:=hs;obtain⟨Ab,cb,rfl,-,-,-⟩:=id hb;obtain⟨Aa,ca,rfl,a1,a2,a3⟩:=ha;obtain⟨Am,cm,rfl,m1,m2,m3⟩:=hm
 have al:Hid (∀wr,Gr W wr->∀j z,f.params[j]?=some z->∃b o,Ap=some ⟨b,o,none⟩/\wr.cell? ⟨b,o+j,none⟩=some (.int .i64 z)):=fun wr g j z r=>by
  obtain⟨b,o,e,hb,h4⟩:=p3 (by have:=(vy.1 r).1;omega);exact⟨b,o,e,((G.trans g).cell _ _ (by omega)).trans (h4 j z r)⟩
 have ao:Hid (∀wr,Gr W wr->∀j z,f.slots[j]?=some z->∃b o,As=some ⟨b,o,none⟩/\wr.cell? ⟨b,o+j,none⟩=some (.int .i64 z)):=fun wr g j z r=>by
  obtain⟨b,o,e,hb,h4⟩:=s3 (by have:=(vy.1 r).1;omega);exact⟨b,o,e,((G.trans g).cell _ _ (by omega)).trans (h4 j z r)⟩
 have ah:Hid (∀wr,Gr W wr->∀j z,i.args[j]?=some z->∃b o,Aa=some ⟨b,o,none⟩/\wr.cell? ⟨b,o+j,none⟩=some (.int .u32 z)):=fun wr g j z r=>by
  obtain⟨b,o,e,hb,h4⟩:=a3 (by have:=(vy.1 r).1;omega);exact⟨b,o,e,((G.trans g).cell _ _ (by omega)).trans (h4 j z r)⟩
 have az:Hid (∀j l,i.mem[j]?=some l->∃b o Al cl,Am=some ⟨b,o,none⟩/\l.length<=17592186044416/\∀wq,Gr W wq->wq.cell? ⟨b,o+j,none⟩=some (.slice Al l.length cl)/\∀t x,l[t]?=some x->∃b' o',Al=some ⟨b',o',none⟩/\wq.cell? ⟨b',o'+t,none⟩=some (.int .i64 x)):=fun j l hl=>by
  obtain⟨b,o,e,hb,h4⟩:=m3 (by have:=(vy.1 hl).1;omega);obtain⟨u,hu,Al,cl,rfl,-,h6,h7⟩:=h4 j l hl;refine⟨b,o,Al,cl,e,h6,fun wq g=>⟨((G.trans g).cell _ _ (by omega)).trans hu,fun t x E=>?_⟩⟩;obtain⟨b',o',F,aH,h8⟩:=h7 (by have:=(vy.1 E).1;omega);exact⟨b',o',F,((G.trans g).cell _ _ aH).trans (h8 t x E)⟩
 have C:=dJ G;obtain⟨R,hR⟩:=xJ (Rn.validInput f i);rw[hR];unfold Rn.validInput at hR;have HR:=dJ hR;obtain⟨V,hV⟩:=xJ (Ref.validate f);rw[hV] at CV HR;have HV:=dJ hV
 have aa:∀wr,Gr W wr->wr.cell? ⟨w.heap.size,0,none⟩=some (.slice Ap f.params.length cp)/\wr.cell? ⟨w.heap.size,1,none⟩=some (.int .i64 f.ret)/\wr.cell? ⟨w.heap.size,2,none⟩=some (.slice As f.slots.length cs)/\wr.cell? ⟨w.heap.size,3,none⟩=some (.slice Ab f.blocks.length cb)/\wr.cell? ⟨w.heap.size+1,0,none⟩=some (.slice Aa i.args.length ca)/\wr.cell? ⟨w.heap.size+1,1,none⟩=some (.slice Am i.mem.length cm):=fun wr g=>by
  obtain⟨q1,q2⟩:=HF.out wr g;exact⟨vX _ _ 0 _ _ _ q1,vX _ _ 1 _ _ _ q1,vX _ _ 2 _ _ _ q1,vX _ _ 3 _ _ _ q1,vX _ _ 0 _ _ _ q2,vX _ _ 1 _ _ _ q2⟩
 have HC:=dJ aa;obtain⟨k0,k1,k2,k3,k4,k5⟩:=aa W (wL _);clear G ac ad p3 s3 a3 m3 hR hV aa au hb;by_cases av:V=0
 ·subst av
  have HW:Hid (∀j z,f.params[j]?=some z->Wd.Wid z):=fun j z r=>by
   have hv:Ref.Val f:=(Ref.val_iff f).1 HV.out;exact Rn.wid_of (vT.1 hv.head.1 z (vz r))
  by_cases y:i.args.length=f.params.length
  ·by_cases p:i.mem.length=f.slots.length
   ·have am:Hid ((if (f.params.zip i.args).any (fun q=>decide (Wd.sz q.1<=q.2))=true then 1 else if (f.slots.zip i.mem).any (fun q=>decide ((q.2.length:Int)≠q.1) || q.2.any (fun b=>decide (b < -1) || decide (255<b)))=true then 1 else 0)=R):=by
     have:=HR.out;rw[wb (by decide),wb (by omega)] at this;exact this
    obtain⟨n,hn⟩:=xJ f.params.length;obtain⟨m,hm⟩:=xJ f.slots.length;rw[hn] at y p1 p2 k0;rw[hm] at p s1 s2 k2;rw[y] at a1 a2 k4;rw[p] at m1 m2 k5
    have B:Hid (∀wr,Gr W wr->wr.cell? ⟨w.heap.size,0,none⟩=some (.slice Ap n cp)/\wr.cell? ⟨w.heap.size,2,none⟩=some (.slice As m cs)/\wr.cell? ⟨w.heap.size+1,0,none⟩=some (.slice Aa n ca)/\wr.cell? ⟨w.heap.size+1,1,none⟩=some (.slice Am m cm)):=fun wr g=>by
     obtain⟨q0,q1,q2,q3,q4,q5⟩:=HC.out wr g;rw[hn] at q0;rw[hm] at q2;rw[y] at q4;rw[p] at q5;exact⟨q0,q2,q4,q5⟩
    have aj:=dJ hn;have ak:=dJ hm;have aA:=dJ y;have aB:=dJ p;rw[hn,hm,y,p] at hW;rw[hn,hm] at CV;rw[hn,hm,y,p];clear y p hn hm
    go_enter func14, ntmps14
    go_wp2_with (go_at_call 42;refine CV.out.mono ?_;rintro e w1 ⟨rfl,Q⟩;obtain⟨j0,j2,j4,j5⟩:=B.out w1 Q;have N:=dJ Q)
    have aC:Hid (∀k z x,f.params[k]?=some z->i.args[k]?=some x->Wd.sz z<=x->R=1):=fun k z x d D H=>by
     rw[<-am.out,wa (Rn.zip_any_at d D (by simpa using H))]
    as_aux_lemma =>
     go_loopw [6] (fun s6 wr=>∃k:Nat,k<=n/\s6=.int .i64 (k:Int)/\Hid (Gr W wr)/\Hid (∀j z x,j<k->f.params[j]?=some z->i.args[j]?=some x->x<Wd.sz z)) (fun s6 _=>n-(intOf s6).toNat)
     case atStart=>exact⟨0,vU _,rfl,N,(fun j z x h=>absurd h (Nat.not_lt_zero _))⟩
     case round =>
      obtain⟨k,hk,rfl,A,K⟩:=hrel;obtain⟨q0,q2,q4,q5⟩:=B.out wr A.out;have U0:=fun u:GrW wr=>(B.out u.val (A.out.trans u.gr)).1;have U4:=fun u:GrW wr=>(B.out u.val (A.out.trans u.gr)).2.2.1;by_cases ae:k<n
      ·obtain⟨z,r⟩:∃z,f.params[k]?=some z:=⟨_,vu (by have:=aj.out;omega)⟩;obtain⟨x,E⟩:∃x,i.args[k]?=some x:=⟨_,vu (by have:=aA.out;omega)⟩;obtain⟨bp,op,rfl,cz⟩:=al.out wr A.out k z r;obtain⟨ba,oa,rfl,cx⟩:=ah.out wr A.out k x E
       have UZ:∀u:GrW wr,u.val.cell? ⟨bp,op+k,none⟩=some (.int .i64 z):=fun u=>by
        obtain⟨b',o',F,h'⟩:=al.out u.val (A.out.trans u.gr) k z r;injection F with F;injection F with e1 e2;subst e1;subst e2;exact h'
       have UX:∀u:GrW wr,u.val.cell? ⟨ba,oa+k,none⟩=some (.int .u32 x):=fun u=>by
        obtain⟨b',o',F,h'⟩:=ah.out u.val (A.out.trans u.gr) k x E;injection F with F;injection F with e1 e2;subst e1;subst e2;exact h'
       have ag:=aD.out x (vz E);have CM:Hid (∀u:GrW wr,Calls prog 43 #[.int .i64 z,.int .u32 x] u.val fun e w'=>e=.returned (.bool (decide (x<Wd.sz z)))/\Gr u.val w'):=fun u=>(ep z x u.val ag.1 ag.2).mono fun e w' h=>⟨by rw[h.1,Wd.wordB,Rn.widB_of (HW.out k z r),Bool.true_and],by rw[<-h.2];exact wL _⟩;have U:=dJ (aC.out k z x r E)
       have S:Hid (x<Wd.sz z->∀j z x,j<k+1->f.params[j]?=some z->i.args[j]?=some x->x<Wd.sz z):=fun h j z' x' hj d D=>by
        rcases wh j k with q|q
        ·exact K.out j z' x' q d D
        ·obtain rfl:j=k:=by omega
         rw[r] at d;rw[E] at D;injection d with d;injection D with D;subst d;subst D;exact h
       obtain⟨s,hs⟩:=xJ (Wd.sz z);rw[hs] at CM U S;clear r E hs ag cz cx;obtain⟨bd,I⟩:∃bd,decide (x<s)=bd:=⟨_,rfl⟩;rw[I] at CM;have L:=dJ I;clear I;cases bd
       all_goals
        go_wp2;refine dc (by kernel_rfl) (by kernel_rfl) ?_;repeat (go_big_quiet_step ((rename_i u;go_at_call 43;exact di u (CM.out u))))
        refine wpQuiet_nil ?_;intro w9 af;obtain⟨u9,rfl⟩:=af;have G9:=dJ (A.out.trans u9.gr);clear U0 U4 UZ UX;go_wp2
       ·go_ret;have H:=L.out;simp at H;exact⟨de (U.out H).symm,C.out.trans G9.out⟩
       ·have H:=L.out;simp at H;have O:=dJ (S.out H);refine⟨⟨k+1,by omega,by go_num,G9,O⟩,by simp[intOf];omega⟩
      ·obtain rfl:n=k:=by omega
       have an:Hid ((if (f.slots.zip i.mem).any (fun q=>decide ((q.2.length:Int)≠q.1) || q.2.any (fun b=>decide (b < -1) || decide (255<b)))=true then 1 else 0)=R):=by
        show _=_;have h:=am.out
        rw[Rn.zip_any_none (fun j a b d D=>by
          have hj:=(vy.1 d).1
          have:=K.out j a b (by have:=aj.out;omega) d D
          simpa using this)] at h
        simpa using h
       have aw:=A;clear K ae hk U0 U4;go_wp2
       as_aux_lemma =>
        go_loopw [7] (fun s7 wr=>∃k:Nat,k<=m/\s7=.int .i64 (k:Int)/\Hid (Gr W wr)/\Hid (∀j z l,j<k->f.slots[j]?=some z->i.mem[j]?=some l->(decide ((l.length:Int)≠z) || l.any (fun b=>decide (b < -1) || decide (255<b)))=false)) (fun s7 _=>m-(intOf s7).toNat)
        case atStart=>exact⟨0,vU _,rfl,aw,(fun j z x h=>absurd h (Nat.not_lt_zero _))⟩
        case round =>
         obtain⟨k,hk,rfl,A,K⟩:=hrel;obtain⟨q0,q2,q4,q5⟩:=B.out wr A.out;have U2:=fun u:GrW wr=>(B.out u.val (A.out.trans u.gr)).2.1;have U5:=fun u:GrW wr=>(B.out u.val (A.out.trans u.gr)).2.2.2;by_cases ae:k<m
         ·obtain⟨z,r⟩:∃z,f.slots[k]?=some z:=⟨_,vu (by have:=ak.out;omega)⟩;obtain⟨l,hl⟩:∃l,i.mem[k]?=some l:=⟨_,vu (by have:=aB.out;omega)⟩;obtain⟨bs,os,rfl,-⟩:=ao.out wr A.out k z r;obtain⟨bm,om,Al,cl,rfl,aq,p⟩:=az.out k l hl
          have UZ:∀u:GrW wr,u.val.cell? ⟨bs,os+k,none⟩=some (.int .i64 z):=fun u=>by
           obtain⟨b',o',F,h'⟩:=ao.out u.val (A.out.trans u.gr) k z r;injection F with F;injection F with e1 e2;subst e1;subst e2;exact h'
          have ai:=dJ p;have UL:=fun u:GrW wr=>(ai.out u.val (A.out.trans u.gr)).1
          have T:Hid ((decide ((l.length:Int)≠z) || l.any (fun b=>decide (b < -1) || decide (255<b)))=true->R=1):=fun h=>by
           rw[<-an.out,wa (Rn.zip_any_at r hl h)]
          have S:Hid ((decide ((l.length:Int)≠z) || l.any (fun b=>decide (b < -1) || decide (255<b)))=false->∀j z l,j<k+1->f.slots[j]?=some z->i.mem[j]?=some l->(decide ((l.length:Int)≠z) || l.any (fun b=>decide (b < -1) || decide (255<b)))=false):=fun h j z' l' hj d D=>by
           rcases wh j k with q|q
           ·exact K.out j z' l' q d D
           ·obtain rfl:j=k:=by omega
            rw[r] at d;rw[hl] at D;injection d with d;injection D with D;subst d;subst D;exact h
          have ay:=dJ aq;have ax:Hid (k<m):=ae;clear r hl aq p;obtain⟨bd,I⟩:∃bd,((l.length:Int) != z)=bd:=⟨_,rfl⟩;have L:=dJ I;cases bd
          all_goals
           go_wp2;refine dc (by kernel_rfl) (by kernel_rfl) ?_;repeat (go_big_quiet_step (fail))
           refine wpQuiet_nil ?_;intro w9 af;obtain⟨u9,rfl⟩:=af;have G9:=dJ (A.out.trans u9.gr);clear U2 U5 UZ UL
          ·clear I;go_wp2
           as_aux_lemma =>
            go_loopw [8] (fun s8 wq=>∃t:Nat,t<=l.length/\s8=.int .i64 (t:Int)/\Hid (Gr W wq)/\Hid (∀j x,j<t->l[j]?=some x->(decide (x < -1) || decide (255<x))=false)) (fun s8 _=>l.length-(intOf s8).toNat)
            case atStart=>exact⟨0,vU _,rfl,G9,(fun j x h=>absurd h (Nat.not_lt_zero _))⟩
            case round =>
             obtain⟨t,ht,rfl,J,Z⟩:=hrel;have aL:=ay.out;obtain⟨r0,r2,r4,r5⟩:=B.out wr J.out;obtain⟨aN,ab⟩:=ai.out wr J.out;by_cases Y:t<l.length
             ·obtain⟨x,E⟩:∃x,l[t]?=some x:=⟨_,vu Y⟩;obtain⟨be,oe,rfl,ce⟩:=ab t x E
              have ap:Hid ((decide (x < -1) || decide (255<x))=true->R=1):=fun h=>T.out (by
                rw[show l.any (fun b=>decide (b < -1) || decide (255<b))=true from wC.2 ⟨x,vz E,h⟩,Bool.or_true])
              have aG:Hid ((decide (x < -1) || decide (255<x))=false->∀j x,j<t+1->l[j]?=some x->(decide (x < -1) || decide (255<x))=false):=fun h j x' hj d=>by
               rcases wh j t with q|q
               ·exact Z.out j x' q d
               ·obtain rfl:j=t:=by omega
                rw[E] at d;injection d with d;subst d;exact h
              have aF:Hid (t<l.length):=Y;clear E ab;by_cases aI:x < -1
              ·have M:Hid (R=1):=ap.out (by simp[aI]);go_wp2;go_ret;exact⟨de M.out.symm,C.out.trans J.out⟩
              ·by_cases aJ:255<x
               ·have M:Hid (R=1):=ap.out (by simp[aJ]);go_wp2;go_ret;exact⟨de M.out.symm,C.out.trans J.out⟩
               ·have aE:=dJ (aG.out (by simp;omega));go_wp2;have aP:=aF.out;refine⟨⟨t+1,by omega,by go_num,J,aE⟩,by simp[intOf];omega⟩
             ·obtain rfl:t=l.length:=by omega
              have O:=dJ (S.out (by
                have H:=L.out
                simp only[bne_eq_false_iff_eq] at H
                rw[List.any_eq_false.2 (fun x E=>by
                  obtain⟨j,hj⟩:=List.getElem?_of_mem E
                  have:=Z.out j x (vy.1 hj).1 hj
                  rw[this];exact Bool.false_ne_true)]
                simp[H]))
              clear ab;go_wp2;have aO:=ax.out;refine⟨⟨k+1,by omega,by go_num,J,O⟩,by simp[intOf];omega⟩
          ·go_wp2;go_ret;exact⟨de (T.out (by have H:=L.out;simp at H;simp[H])).symm,C.out.trans G9.out⟩
         ·obtain rfl:m=k:=by omega
          have M:Hid (R=0):=by
           show _=_
           rw[<-an.out,Rn.zip_any_none (fun j a b d D=>by
             have hj:=(vy.1 d).1
             exact K.out j a b (by have:=ak.out;omega) d D)]
           rfl
          clear U2 U5;go_wp2;go_ret;exact⟨de M.out.symm,C.out.trans A.out⟩
   ·have M:Hid (R=1):=by show _=_;rw[<-HR.out,wb (by decide),wa (.inr p)]
    have ar:¬((i.mem.length:Int)=(f.slots.length:Int)):=by omega
    have X:(i.args.length:Int)=(f.params.length:Int):=by omega
    have aK:((i.args.length:Int) != (f.params.length:Int))=false:=by simp[y]
    have aM:((i.mem.length:Int) != (f.slots.length:Int))=true:=by simp;omega
    clear y X ar
    go_enter func14, ntmps14
    go_wp2_with (go_at_call 42;refine CV.out.mono ?_;rintro e w1 ⟨rfl,Q⟩;obtain⟨j0,j1,j2,j3,j4,j5⟩:=HC.out w1 Q;have N:=dJ Q);go_ret;exact⟨de M.out.symm,C.out.trans N.out⟩
  ·have M:Hid (R=1):=by show _=_;rw[<-HR.out,wb (by decide),wa (.inl y)]
   have X:¬((i.args.length:Int)=(f.params.length:Int)):=by omega
   go_enter func14, ntmps14
   go_wp2_with (go_at_call 42;refine CV.out.mono ?_;rintro e w1 ⟨rfl,Q⟩;obtain⟨j0,j1,j2,j3,j4,j5⟩:=HC.out w1 Q;have N:=dJ Q);go_ret;exact⟨de M.out.symm,C.out.trans N.out⟩
 ·have M:Hid (R=V):=by show _=_;rw[<-HR.out,wa av]
  go_enter func14, ntmps14
  go_wp2_with (go_at_call 42;refine CV.out.mono ?_;rintro e w1 ⟨rfl,Q⟩);go_ret;exact⟨de M.out.symm,C.out.trans Q⟩
@[go_sem] theorem sE (v0 v1 v2 v3 v4 v5 v7 v8 v9:Value)(A:Option Addr)(n c:Nat)(w:World):(Instr.field 81 (.agg #[v0,v1,v2,v3,v4,v5,.slice A n c,v7,v8,v9]) 2).run prog w=.ok (.slice A n c) w:=by kernel_rfl
@[go_sem] theorem sU (v0 v1 v2 v3 v4 v5 v6 v8 v9:Value)(z:Int)(w:World):(Instr.field 81 (.agg #[v0,v1,v2,v3,v4,v5,v6,.int .i64 z,v8,v9]) 3).run prog w=.ok (.int .i64 z) w:=by kernel_rfl
@[go_sem] theorem xv (z1 z2 z3:Int)(b:Bool)(A:Option Addr)(n c:Nat)(v1 v2 v3 v4 v5:Value)(w:World):(Instr.field 81 (.agg #[.int .i64 z1,.bool b,.int .i64 z2,.int .u32 z3,.slice A n c,v1,v2,v3,v4,v5]) 0).run prog w=.ok (.agg #[.int .i64 z1,.bool b,.int .i64 z2,.int .u32 z3,.slice A n c]) w:=by kernel_rfl
@[go_sem] theorem xx (v0 v1 v2 v3 v4 v6 v7 v8 v9:Value)(A:Option Addr)(n c:Nat)(w:World):(Instr.field 81 (.agg #[v0,v1,v2,v3,v4,.slice A n c,v6,v7,v8,v9]) 1).run prog w=.ok (.slice A n c) w:=by kernel_rfl
theorem xu {w:World}{f:Fn}{vf:Value}(hfn:FnAt w.heap.size w vf f)(hf:VFn f){i:Rn.Inp}(hin:Rn.validInput f i=0){va vm:Value}(ha:U32At w.heap.size w va i.args)(hm:TabAt w.heap.size w vm i.mem)(hnn:∀a∈i.args,0<=a)
  {vpk:Value} {picks:List Int} (hpk:U32At w.heap.size w vpk picks) (hr:∀z∈picks,0<=z/\z<4294967296) (hpl:picks.length<=1000) :
  Calls prog 45 #[vf,.agg #[va,vm],vpk] w fun e w'=>∃(cw cx n6 c6 n8 c8 c9:Nat) (Aw Ax A6 A8 A9:Option Addr) (z7:Int),e=.returned (.agg #[.int .i64 (Rn.run f (Rn.given picks) i).1.kind,.bool (Rn.run f (Rn.given picks) i).1.ret.p,.int .i64 (Rn.run f (Rn.given picks) i).1.ret.s,.int .u32 (Rn.run f (Rn.given picks) i).1.ret.n,.slice Ax (Rn.run f (Rn.given picks) i).1.mem.length cx,.slice Aw (Rn.run f (Rn.given picks) i).2.1.widths.length cw,.slice A6 n6 c6,.int .i64 z7,.slice A8 n8 c8,.slice A9 n8 c9]) /\
   (∃D:Nat->Prop,Keeps D w' (.slice Ax (Rn.run f (Rn.given picks) i).1.mem.length cx) (Rn.run f (Rn.given picks) i).1.mem/\∀k,D k->w.heap.size<=k)/\Gr w w':=by
 obtain⟨-,-,K,L⟩:=Rn.run_ok mr hf.val hf.im hin hnn picks;refine(rp mr hfn hf ha hm hin hnn hpk hr hpl).mono ?_;rintro e w' ⟨⟨c,N,M,rfl,rfl,p,t,m,d⟩,g⟩;obtain⟨Aw,cw,F⟩:=p.wid.form;obtain⟨A6,c6,E⟩:=p.blk.form;rw[vS] at F E;subst F;subst E
 have A:∃Ax cx,pV c (Rn.run c.f (Rn.given picks) i).1=.slice Ax (Rn.run c.f (Rn.given picks) i).1.mem.length cx/\∃D:Nat->Prop,Keeps D w' (.slice Ax (Rn.run c.f (Rn.given picks) i).1.mem.length cx) (Rn.run c.f (Rn.given picks) i).1.mem/\∀k,D k->w.heap.size<=k:=by
  unfold pV ef;rcases L with ⟨H,I,-⟩|h|h
  ·rw[wa H,I]
   have r:∀k,Dc c k->k<w'.heap.size/\w.heap.size<=k:=fun k q=>by
    rcases q with ⟨-,rfl⟩|⟨j,B,y⟩
    ·exact⟨d,m⟩
    ·obtain⟨l,hl⟩:∃l,(Rn.run c.f (Rn.given picks) i).2.1.mem[j]?=some l:=⟨_,vu (by rw[p.mem.1];exact(vy.1 y).1)⟩;obtain⟨-,-,G,J,-⟩:=p.mem.2 j k B l y hl;exact⟨cY J,t k (.inl (.inr (.inr (.inr ⟨j,B,y⟩))))⟩
   have u:=wS p.mem p.slots (fun k q=>(r k q).1) d hf.val K.mem;have C:c.mv=.slice c.Am (Rn.run c.f (Rn.given picks) i).2.1.mem.length c.cm:=by unfold Cfg.mv;rw[p.mem.1]
   exact⟨c.Am,c.cm,C,Dc c,C ▸ u,fun k q=>(r k q).2⟩
  all_goals
   rw[h];exact⟨none,0,rfl,fun _=>False,kS _ _ (fun _ h=>h.elim),fun _ h=>h.elim⟩
 obtain⟨Ax,cx,A,u⟩:=A;exact⟨cw,cx,_,c6,_,_,_,Aw,Ax,A6,_,_,_,by unfold pR;rw[A],u,g⟩
def DRunR (f:Fn)(i:Rn.Inp)(picks:List Int)(e:Ending)(w':World):Prop :=
 (Rn.validInput f i≠0/\e=.returned (.tuple #[gS ⟨0,⟨false,0,0⟩,[]⟩ (.slice none 0 0),.int .i64 0,.int .i64 (Rn.validInput f i)])) \/
 (Rn.validInput f i=0/\∃vx:Value,e=.returned (.tuple #[gS (Rn.run f (Rn.given picks) i).1 vx,.int .i64 (Rn.wids f i picks).length,.int .i64 0])/\TabAt w'.heap.size w' vx (Rn.run f (Rn.given picks) i).1.mem)
theorem xn {w:World}{f:Fn}{vf:Value}(hfn:FnAt w.heap.size w vf f)(hnice:jF f)(him:Rn.Im f){i:Rn.Inp}{va vm:Value}(ha:U32At w.heap.size w va i.args)(hm:TabAt w.heap.size w vm i.mem)(hnn:∀a∈i.args,0<=a/\a<4294967296)
  {vpk:Value} {picks:List Int} (hpk:U32At w.heap.size w vpk picks) (hr:∀z∈picks,0<=z/\z<4294967296) (hpl:picks.length<=1000) :
  Calls prog 17 #[vf,.agg #[va,vm],vpk] w fun e w'=>DRunR f i picks e w'/\Gr w w':=by
 obtain⟨vp,vs,vb,rfl,Z,hs,Y⟩:=hfn;have B:Hid (FnAt w.heap.size w (.agg #[vp,.int .i64 f.ret,vs,vb]) f):=⟨vp,vs,vb,rfl,Z,hs,Y⟩;obtain⟨W0,T⟩:=xJ ((w.alloc (.cells #[vp,.int .i64 f.ret,vs,vb] 25)).alloc (.cells #[va,vm] 29));obtain⟨g0,s0,hc⟩:=gJ T;obtain⟨W,hW⟩:=xJ (W0.alloc (.cells #[.int .i64 0,.bool false,.int .i64 0,.int .u32 0,.slice none 0 0] 39));have l:Gr W0 W:=by rw[<-hW];exact(wL _).alloc _
 have HC:=dJ fun(wr:World) (g:Gr W wr)=>hc wr (l.trans g);have C:W.heap[w.heap.size+2]?=some (.cells #[.int .i64 0,.bool false,.int .i64 0,.int .u32 0,.slice none 0 0] 39 (0,0)):=by rw[<-hW,<-s0];exact heap_alloc_new _ _
 have d:Hid (∀wr,Gr W wr->wr.heap[w.heap.size+2]?=some (.cells #[.int .i64 0,.bool false,.int .i64 0,.int .u32 0,.slice none 0 0] 39 (0,0))):=fun wr g=>(g.heap _ (cY C)).trans C;have u:=g0.trans l;have L:=dJ (fR (w:=W) (f:=f) (vf:=.agg #[vp,.int .i64 f.ret,vs,vb]) (i:=i) (va:=va) (vm:=vm) ((B.out.below u).mono u.size) hnice (SlAt.mono (U32At.below ha u) u.size) ((hm.below u).mono u.size) hnn);have HA:=dJ ha;have HM:=dJ hm;have M:=dJ hnn;have N:=dJ hpk;have O:=dJ hr;have t:=dJ u;obtain⟨k0,k1,k2,k3,k4,k5⟩:=HC.out W (wL _);have G:=dJ fun(h0:Rn.validInput f i=0) (A:World) (l:Gr W A)=>xu (w:=A) (f:=f) (i:=i) (vf:=.agg #[vp,.int .i64 f.ret,vs,vb]) (va:=va) (vm:=vm) (vpk:=vpk) (picks:=picks) ((B.out.below (t.out.trans l)).mono (t.out.trans l).size) ⟨(Rn.valid_input h0).1,him⟩ h0 (SlAt.mono (U32At.below HA.out (t.out.trans l)) (t.out.trans l).size) ((HM.out.below (t.out.trans l)).mono (t.out.trans l).size) (fun a ha=>(M.out a ha).1) (SlAt.mono (U32At.below N.out (t.out.trans l)) (t.out.trans l).size) O.out hpl;obtain⟨X,U⟩:=xJ (Rn.run f (Rn.given picks) i);have HX:=dJ U;obtain⟨V,I⟩:=xJ (Rn.validInput f i);have Q:=dJ I;rw[U,I] at G;rw[I] at L;obtain⟨Ap,cp,rfl,-⟩:=id Z;obtain⟨As,cs,rfl,-⟩:=id hs;obtain⟨Ab,cb,rfl,-⟩:=id Y;obtain⟨Aa,ca,rfl,-⟩:=id ha;obtain⟨Am,cm,rfl,-⟩:=id hm;obtain⟨Ak,ck,rfl,-⟩:=id hpk;clear Z hs Y ha hm hnn hpk hr U I g0 u hc;by_cases E:V=0
 ·subst E;have C2:=dJ (G.out rfl);clear G
  go_enter func17, ntmps17
  go_wp2_with (first|(go_at_call 14;refine L.out.mono ?_;rintro e A ⟨rfl,l⟩;obtain⟨j0,j1,j2,j3,j4,j5⟩:=HC.out A l;have m:=dJ l;have CO:=dJ (C2.out A l);clear l C2)|(go_at_call 45;refine CO.out.mono ?_;rintro e r ⟨cw,H,n6,c6,K,c8,c9,Aw,F,A6,A8,A9,z7,rfl,ht,R⟩;have HT:=dJ ht;have G6:=dJ (t.out.trans (m.out.trans R));have j:=dJ (m.out.trans R);clear ht R;have e0:=fun o=>vX _ _ 0 _ _ _ (d.out (r.alloc o) (j.out.alloc o));have z0:=fun o=>vY _ _ 0 _ _ (d.out (r.alloc o) (j.out.alloc o));have e1:=fun o=>vX _ _ 1 _ _ _ (d.out (r.alloc o) (j.out.alloc o));have z1:=fun o=>vY _ _ 1 _ _ (d.out (r.alloc o) (j.out.alloc o));have e2:=fun o=>vX _ _ 2 _ _ _ (d.out (r.alloc o) (j.out.alloc o));have z2:=fun o=>vY _ _ 2 _ _ (d.out (r.alloc o) (j.out.alloc o));have e3:=fun o=>vX _ _ 3 _ _ _ (d.out (r.alloc o) (j.out.alloc o));have z3:=fun o=>vY _ _ 3 _ _ (d.out (r.alloc o) (j.out.alloc o));have e4:=fun o=>vX _ _ 4 _ _ _ (d.out (r.alloc o) (j.out.alloc o));have z4:=fun o=>vY _ _ 4 _ _ (d.out (r.alloc o) (j.out.alloc o))))
  go_region_with (fail)
  all_goals go_wp2
  all_goals
   refine vZ (v:=.tuple #[.agg #[.int .i64 X.1.kind,.bool X.1.ret.p,.int .i64 X.1.ret.s,.int .u32 X.1.ret.n,.slice F X.1.mem.length H],.int .i64 X.2.1.widths.length,.int .i64 0]) (by simp[results,results17,go_sem, *]) rfl ?_;have aa:=cY (d.out _ m.out);refine⟨.inr ⟨Q.out,.slice F X.1.mem.length H,by unfold Rn.wids;rw[HX.out];rfl,?_⟩,?_⟩
   ·rw[HX.out];obtain⟨D,J,hD⟩:=HT.out;refine(Keeps.frs (S:=fun k=>k=w.heap.size+2) (J.gr ((wL r).alloc (.cells #[.int .i64 X.1.kind,.bool X.1.ret.p,.int .i64 X.1.ret.s,.int .u32 X.1.ret.n,.slice F X.1.mem.length H,.slice Aw X.2.1.widths.length cw,.slice A6 n6 c6,.int .i64 z7,.slice A8 K c8,.slice A9 K c9] 81))) ?_ (fun k J q=>by have:=hD k J;omega)).tab;(try refine FrS.drew ?_)
    iterate 5 refine FrS.setCell (S:=fun k=>k=w.heap.size+2) ?_ (Eq.refl (w.heap.size+2)) _
    exact FrS.refl _ _
   ·refine iA (S:=fun k=>k=w.heap.size+2) (G6.out.alloc (.cells #[.int .i64 X.1.kind,.bool X.1.ret.p,.int .i64 X.1.ret.s,.int .u32 X.1.ret.n,.slice F X.1.mem.length H,.slice Aw X.2.1.widths.length cw,.slice A6 n6 c6,.int .i64 z7,.slice A8 K c8,.slice A9 K c9] 81)) ?_ (fun k J=>by omega);(try refine FrS.drew ?_)
    iterate 5 refine FrS.setCell (S:=fun k=>k=w.heap.size+2) ?_ (Eq.refl (w.heap.size+2)) _
    exact FrS.refl _ _
 ·clear G
  go_enter func17, ntmps17
  go_wp2_with (go_at_call 14;refine L.out.mono ?_;rintro e A ⟨rfl,l⟩;have m:=dJ (t.out.trans l);have y:=dJ (d.out A l);clear l;obtain⟨e0,e1,e2,e3,e4⟩:=crw5 y.out 0 1 2 3 4;obtain⟨z0,z1,z2,z3⟩:=frw4 y.out 0 1 2 3;have z4:=vY _ _ 4 _ _ y.out);refine vZ (v:=.tuple #[.agg #[.int .i64 0,.bool false,.int .i64 0,.int .u32 0,.slice none 0 0],.int .i64 0,.int .i64 V]) (by simp[results,results17,go_sem, *]) rfl ?_;refine⟨.inl ⟨by rw[Q.out];exact E,by rw[Q.out];rfl⟩,?_⟩
  iterate 5 refine Gr.setCell ?_ (Nat.le_add_right _ _) _
  exact m.out
def RowOf (B:Nat)(e:TypeId)(w:World)(v:Value)(ys:List Value):Prop:=∃A c,v=.slice A ys.length c/\ys.length<=c/\(0<ys.length->Own1 B e w v ys)
section
variable {P:Program}{w:World}
theorem xt {o:Oper}{a:Act}{K:Act->World->Prop}{Q:Exit->Act->World->Prop}{t e:TypeId}{i:TypeInfo}{z:Value}
  (ht:P.underlying t=some (.slice e)) (hi:P.info? e=some i) (hz:i.zero=some z) (hsize:i.size=1) (hby:i.bytes<=8) (hzs:z.cells.size=1)
  (s x:Operand) (ho:o.op=.call { callee:=.builtin .append,args:=#[s,x],argTypes:=#[t,t] }) {g:Nat} (hs:a.eval s=.slice (some ⟨g,0,none⟩) 0 0) {u:Value} {ys:List Value} {n:Nat} (hu:Src w u 1 n ys) (hl:ys.length=n) (hn:n<=17592186044416) (h1:∀y∈ys,y.oneCell'=true) (hx:a.eval x=u)
  (h:∀A c w',RowOf w.heap.size e w' (.slice A n c) ys->Gr w w'->K (a.put o.dst (.slice A n c)) w'):o.wp P a w K Q:=by
 subst hl;obtain⟨A,c,w',d,j,l,m⟩:=gU (P:=P) (w:=w) t o.type e i z ht hi hz hsize hzs g u ys hu hn (Nat.le_trans (Nat.mul_le_mul_left _ hby) (by omega)) h1;unfold Oper.wp execOp;simp only[ho,resolve,invoke,builtin,Sem.run_bind,Sem.run_pure,Result.andThen_ok,List.map_toArray,List.map_cons,List.map_nil,hs,hx,d];exact h A c w' ⟨A,c,rfl,l,m⟩ j
theorem xf {ops:Array Oper}{rest:List Oper}{o:Oper}{a:Act}{Q:Exit->Act->World->Prop}{t e:TypeId}{i:TypeInfo}{z:Value}
  (ht:P.underlying t=some (.slice e)) (hi:P.info? e=some i) (hz:i.zero=some z) (hsize:i.size=1) (hby:i.bytes<=8) (hzs:z.cells.size=1) (hgd:o.guard=none)
  (s x:Operand) (ho:o.op=.call { callee:=.builtin .append,args:=#[s,x],argTypes:=#[t,t] }) {g:Nat} (hs:a.eval s=.slice (some ⟨g,0,none⟩) 0 0) {u:Value} {ys:List Value} {n:Nat} (hu:Src w u 1 n ys) (hl:ys.length=n) (hn:n<=17592186044416) (h1:∀y∈ys,y.oneCell'=true) (hx:a.eval x=u)
  (h:∀A c w',RowOf w.heap.size e w' (.slice A n c) ys->Gr w w'->wpList P ops Q rest (a.put o.dst (.slice A n c)) w'):wpList P ops Q (o::rest) a w :=
 wpList_plain hgd fun _ d=>xt ht hi hz hsize hby hzs s x ho hs hu hl hn h1 hx fun A c w' h1 h2=>d _ _ (h A c w' h1 h2)
theorem xq {ops:Array Oper}{o:Oper}{a:Act}{K:Act->World->Prop}{Q:Exit->Act->World->Prop}{F:Prop}{t e:TypeId}{i:TypeInfo}{z:Value}
  (ht:P.underlying t=some (.slice e)) (hi:P.info? e=some i) (hz:i.zero=some z) (hsize:i.size=1) (hby:i.bytes<=8) (hzs:z.cells.size=1) (hgd:o.guard=none)
  (s x:Operand) (ho:o.op=.call { callee:=.builtin .append,args:=#[s,x],argTypes:=#[t,t] }) {g:Nat} (hs:a.eval s=.slice (some ⟨g,0,none⟩) 0 0) {u:Value} {ys:List Value} {n:Nat} (hu:Src w u 1 n ys) (hl:ys.length=n) (hn:n<=17592186044416) (h1:∀y∈ys,y.oneCell'=true) (hx:a.eval x=u)
  (h:∀A c w',RowOf w.heap.size e w' (.slice A n c) ys->Gr w w'->K (a.put o.dst (.slice A n c)) w'):if Region.wanted o (yielded ops a.tmps)=true then Oper.wp P o a w K Q else F:=by
 rw[wa (by simp[Region.wanted,hgd])];exact xt ht hi hz hsize hby hzs s x ho hs hu hl hn h1 hx h
end
section
variable {w w':World}{B:Nat}{e:TypeId}{v:Value}{ys:List Value}
theorem RowOf.same (h:RowOf B e w v ys)(hw:∀(k:Nat) (cur:Array Value),B<=k->w.heap[k]?=some (.cells cur e (0,0))->w'.heap[k]?=w.heap[k]?):RowOf B e w' v ys:=by
 obtain⟨A,c,rfl,j,d⟩:=h;refine⟨A,c,rfl,j,fun g=>dr (d g) fun k hk=>?_⟩;obtain⟨l,-,cur,m⟩:=dg (d g) hk;exact hw k cur l m
theorem RowOf.less {B':Nat}(h:RowOf B e w v ys)(hB:B'<=B):RowOf B' e w v ys:=by
 obtain⟨A,c,rfl,p,q⟩:=h;refine⟨A,c,rfl,p,fun t=>?_⟩;obtain⟨u,y⟩:=q t;refine⟨u,y.elim .inl fun⟨g,d,j,l,m,r⟩=>.inr ⟨g,d,j,l,Nat.le_trans hB m,r⟩⟩
theorem RowOf.sl {n:Nat}(h:RowOf B e w v ys)(hl:ys.length=n)(hn:n<=17592186044416):SlAt w.heap.size v n fun b off=>∀j z,ys[j]?=some z->w.cell? ⟨b,off+j,none⟩=some z:=by
 subst hl;obtain⟨A,c,rfl,l,m⟩:=h;refine⟨A,c,rfl,l,hn,fun d=>?_⟩;obtain⟨b,rfl,p,-,q⟩:=dz (m d) rfl d;exact⟨b,0,rfl,p,fun j z g=>by rw[Nat.zero_add,q j (by have:=(vy.1 g).1;omega)];exact g⟩
theorem RowOf.ints {zs:List Int}(h:RowOf B e w v (zs.map (Value.int .i64)))(hn:zs.length<=17592186044416):IntsAt w.heap.size w v zs :=
 SlAt.imp (h.sl (vS _) hn) fun b off _ d j z g=>d j _ (by rw[vH,g];rfl)
theorem RowOf.u32 {zs:List Int}(h:RowOf B e w v (zs.map (Value.int .u32)))(hn:zs.length<=17592186044416):U32At w.heap.size w v zs :=
 SlAt.imp (h.sl (vS _) hn) fun b off _ d j z g=>d j _ (by rw[vH,g];rfl)
theorem Src.u32 {u:Value}{zs:List Int}(h:U32At B w u zs):Src w u 1 zs.length (zs.map (Value.int .u32)):=by
 obtain⟨A,c,rfl,_,_,g⟩:=h;refine⟨A,c,rfl,by simp,fun m=>?_⟩;obtain⟨b,off,rfl,_,l⟩:=g m;refine⟨_,rfl,fun j x d=>?_⟩;rw[vH] at d;obtain⟨z,p,rfl⟩:=Option.map_eq_some_iff.1 d;rw[eP];exact l j z p
end
structure CS (Bo:Nat)(W w:World)(va:Value)(mem:List (List Int))(k:Nat)(us:List Value)(A8:Option Addr)(c8:Nat):Prop where
 fr:FrS (·=Bo) W w
 st:w.heap[Bo]?=some (.cells #[va,.slice A8 k c8] 29 (0,0))
 len:us.length=k
 own:Own1 (Bo+1) 22 w (.slice A8 k c8) us
 rows:∀(j:Nat) (u:Value) (l:List Int),us[j]?=some u->mem[j]?=some l->RowOf (Bo+1) 3 w u (l.map (Value.int .i64))
section
variable {Bo k c8 c2:Nat}{W w w1 w2:World}{va:Value}{mem:List (List Int)}{us:List Value}{A8 A2:Option Addr}{tmp:Obj}{u:Value}{l:List Int}
theorem CS.grow (hW:W.heap.size=Bo+1)(h:CS Bo W w va mem k us A8 c8)(g:Gr w w1):CS Bo W w1 va mem k us A8 c8 where
 fr:=h.fr.trans (FrS.of_gr g)
 st:=(g.heap _ (cY h.st)).trans h.st
 len:=h.len
 own:=h.own.gr g
 rows:=fun j u l d m=>(h.rows j u l d m).same fun q cur _ hq=>g.heap _ (cY hq)
theorem CS.push (hW:W.heap.size=Bo+1)(h:CS Bo W w va mem k us A8 c8)(hl:mem[k]?=some l)(g1:Gr w w1)(hu:RowOf w.heap.size 3 w1 u (l.map (Value.int .i64)))(hg:(w1.alloc tmp).grownBy w2 (Value.slice A8 k c8).ownBlock)(ho2:Own1 (Bo+1) 22 w2 (.slice A2 (k+1) c2) (us++[u])) :
  (w2.cell? ⟨Bo,1,none⟩=some (.slice A8 k c8)/\w2.frozen? ⟨Bo,1,none⟩=false)/\CS Bo W (w2.setCell ⟨Bo,1,none⟩ (.slice A2 (k+1) c2)) va mem (k+1) (us++[u]) A2 c2:=by
 have y:=h.own.gr g1;have A:FrS (fun q=>(Value.slice A8 k c8).ownBlock=some q) w1 w2:=((FrS.refl _ w1).alloc tmp).grown hg (fun q d=>.inl d);have I:w.heap.size<=w1.heap.size:=g1.size;have H:W.heap.size<=w.heap.size:=h.fr.size;have B:=(g1.heap _ (cY h.st)).trans h.st;have C:w2.heap[Bo]?=some (.cells #[va,.slice A8 k c8] 29 (0,0)):=(A.block _ (cY B) (fun q=>by have:=(dg y q).1;omega)).trans B;have G:FrS (fun q=>(Value.slice A8 k c8).ownBlock=some q\/q=Bo) w1 (w2.setCell ⟨Bo,1,none⟩ (.slice A2 (k+1) c2)):=(A.mono fun q d=>.inl d).setCell (p:=⟨Bo,1,none⟩) (.inr rfl) _
 have r:∀(q:Nat) (t:Array Value),Bo+1<=q->w1.heap[q]?=some (.cells t 3 (0,0))->(w2.setCell ⟨Bo,1,none⟩ (.slice A2 (k+1) c2)).heap[q]?=w1.heap[q]?:=fun q t d hc=>G.block _ (cY hc) (by
   rintro (e|e)
   · obtain⟨-,-,F,E⟩:=dg y e
     exact hE hc E (by decide) rfl
   · omega)
 refine⟨⟨vX _ _ 1 _ _ _ C,vY _ _ 1 _ _ C⟩,?_,?_,by simp[h.len],dr ho2 fun q d=>wk _ _ _ _ (by have:=(dg ho2 d).1;show q≠Bo;omega),fun j v m g z=>?_⟩
 ·refine FrS.weaken (S:=fun q=>q=Bo\/W.heap.size<=q) ((h.fr.mono fun q d=>.inl d).trans ((FrS.of_gr g1).trans (G.mono fun q d=>?_))) fun q d e=>e.elim (fun e=>e) (fun e=>by omega);rcases d with e|e
  ·right;have:=(dg y e).1;omega
  ·exact .inl e
 ·have:=cX (i:=1) (.slice A2 (k+1) c2) C;exact this
 ·rcases wh j us.length with D|D
  ·rw[vJ D] at g;exact((h.rows j v m g z).same fun q t _ d=>g1.heap _ (cY d)).same r
  ·rw[vK D] at g
   obtain rfl:j=us.length:=by
    rcases wh us.length j with q|q
    ·rw[vP (by simp;omega)] at g;cases g
    ·omega
   rw[Nat.sub_self] at g;simp at g;subst g;rw[h.len,hl] at z;injection z with z;subst z;exact(hu.less (by omega)).same r
theorem xz (hlen:us.length=mem.length)(hown:Own1 (Bo+1) 22 w (.slice A8 mem.length c8) us)(hrows:∀(j:Nat) (u:Value) (l:List Int),us[j]?=some u->mem[j]?=some l->RowOf (Bo+1) 3 w u (l.map (Value.int .i64)))(hm:mem.length<=1000)(hr:∀l∈mem,l.length<=1000):TabAt w.heap.size w (.slice A8 mem.length c8) mem:=by
 have d:RowOf (Bo+1) 22 w (.slice A8 mem.length c8) us:=by
  obtain⟨-,hr⟩:=id hown;refine⟨A8,c8,by rw[hlen],?_,fun _=>hown⟩;rcases hr with ⟨e,d⟩|⟨g,p,q,e,-,-,z,-⟩
  ·injection e with _ r t;omega
  ·injection e with _ r t;omega
 refine SlAt.imp (d.sl hlen (by omega)) fun b off _ y j l hl=>?_;obtain⟨u,m⟩:∃u,us[j]?=some u:=⟨_,vu (by have:=(vy.1 hl).1;have:=hlen;omega)⟩;exact⟨u,y j u m,(hrows j u l m hl).ints (by have:=hr l (vz hl);omega)⟩
end
theorem xc {w:World}{i:Rn.Inp}{va vm:Value}(ha:U32At w.heap.size w va i.args)(hm:TabAt w.heap.size w vm i.mem)(hal:i.args.length<=1000)(hml:i.mem.length<=1000)(hmr:∀l∈i.mem,l.length<=1000) :
  Calls prog 15 #[.agg #[va,vm]] w fun e w'=>(∃A c A2 c2,e=.returned (.agg #[.slice A i.args.length c,.slice A2 i.mem.length c2])/\U32At w'.heap.size w' (.slice A i.args.length c) i.args/\TabAt w'.heap.size w' (.slice A2 i.mem.length c2) i.mem)/\Gr w w':=by
 obtain⟨i0,ax,aH,aI,aL⟩:=info_parts dR;obtain⟨i1,ay,aE,aF,aG⟩:=info_parts nN;obtain⟨i2,az,aC,aD,aK⟩:=info_parts rz;have ak:(Value.int .u32 0).cells.size=1:=rfl;have al:(Value.int .i64 0).cells.size=1:=rfl;obtain⟨t,Q⟩:=xJ (w.alloc (.cells #[va,vm] 29));obtain⟨W,hW⟩:=xJ (t.alloc (.cells #[.slice none 0 0,.slice none 0 0] 29));have s0:t.heap.size=w.heap.size+1:=by rw[<-Q];simp
 have s1:W.heap.size=w.heap.size+2:=by rw[<-hW];simp[s0]
 have g0:Gr w t:=by rw[<-Q];exact(wL _).alloc _
 have F:Gr t W:=by rw[<-hW];exact(wL _).alloc _
 have q0:t.heap[w.heap.size]?=some (.cells #[va,vm] 29 (0,0)):=by rw[<-Q];exact heap_alloc_new _ _
 have q1:W.heap[t.heap.size]?=some (.cells #[.slice none 0 0,.slice none 0 0] 29 (0,0)):=by rw[<-hW];exact heap_alloc_new _ _
 have HG:=dJ (g0.trans F)
 have HC:Hid (∀wr,Gr W wr->wr.cell? ⟨w.heap.size,0,none⟩=some va/\wr.cell? ⟨w.heap.size,1,none⟩=some vm):=fun wr g=>by
  have:=(g.heap _ (by omega)).trans ((F.heap _ (cY q0)).trans q0);exact⟨vX _ _ 0 _ _ _ this,vX _ _ 1 _ _ _ this⟩
 have HR:Hid (∀wr,Gr W wr->wr.heap[t.heap.size]?=some (.cells #[.slice none 0 0,.slice none 0 0] 29 (0,0))):=fun wr g=>(g.heap _ (by omega)).trans q1;have HA:Hid (∀wr,Gr W wr->U32At w.heap.size wr va i.args):=fun wr g=>SlAt.imp ha fun b off R hR j z hz=>(((g0.trans F).trans g).cell _ _ R).trans (hR j z hz)
 have ar:Hid (∀(k:Nat) (l:List Int),i.mem[k]?=some l->∃bm om vl,vm=.slice (some ⟨bm,om,none⟩) i.mem.length (match vm with|.slice _ _ c=>c|_=>0)/\IntsAt w.heap.size w vl l/\∀wr,Gr w wr->wr.cell? ⟨bm,om+k,none⟩=some vl):=fun k l hl=>by
  obtain⟨A,c,rfl,-,-,h3⟩:=hm;obtain⟨b,o,rfl,hb,h4⟩:=h3 (by have:=(vy.1 hl).1;omega);obtain⟨u,hu,h5⟩:=h4 k l hl;exact⟨b,o,u,rfl,h5,fun wr g=>(g.cell _ _ (by omega)).trans hu⟩
 have aa:Hid (i.mem.length<=1000):=hml;have ab:Hid (∀l∈i.mem,l.length<=1000):=hmr;have HS:=dJ s1;have E:=dJ s0;obtain⟨Aa,ca,rfl,-⟩:=id ha;obtain⟨Am,cm,rfl,-⟩:=id hm;have k0:=fun o=>(HC.out (W.alloc o) ((wL W).alloc o)).1;clear ha hm g0 F q0 q1 s0 hml hmr
 go_enter func15, ntmps15
 go_wp2_with (refine xf (ys:=i.args.map (Value.int .u32)) (n:=i.args.length) underlying26 az aC aD (by omega) ak rfl (.tmp 5) (.tmp 7) rfl rfl (Src.u32 (HA.out _ ((wL W).alloc _))) (vS _) (by omega) (by simp[Value.oneCell']) rfl ?_;intro I J m ah F;have ac:=dJ ah;have Z:=dJ (((wL W).alloc (.cells #[] 35)).trans F);clear ah F);obtain⟨V,hV⟩:=xJ (m.alloc (.cells #[.slice I i.args.length J,.slice none 0 0] 29));rw[hV];obtain⟨D,B⟩:=xJ m.heap.size;rw[B];have GV:Gr m V:=by rw[<-hV];exact(wL _).alloc _
 have HV:Hid (V.heap.size=D+1):=by show _=_;rw[<-hV,<-B];simp
 have X:Hid (CS D V V (.slice I i.args.length J) i.mem 0 [] none 0):=⟨FrS.refl _ _,by rw[<-hV,<-B];exact heap_alloc_new _ _,rfl,Own1.nil _ _ _,fun j u l h=>by simp at h⟩;have L:Hid (w.heap.size+2<=D):=by show _<=_;rw[<-B,<-HS.out];exact Z.out.size
 have ap:=dJ (Z.out.trans GV);have aq:Hid (∀(wr:World) (k:Nat) (us:List Value) (r:Option Addr) (y:Nat),CS D V wr (.slice I i.args.length J) i.mem k us r y->Gr W wr):=fun wr k us r y h=>gr_frs' ap.out h.fr (fun k C=>by have:=L.out;have:=HS.out;omega);have ad:=dJ (ac.out.same fun k cur _ C=>GV.heap k (cY C));clear GV hV B ac k0;go_wp2
 go_loopw [4] (fun s4 wr=>∃(k:Nat) (us:List Value) (r:Option Addr) (y:Nat),k<=i.mem.length/\s4=.int .i64 (k:Int) /\
     Hid (CS D V wr (.slice I i.args.length J) i.mem k us r y)) (fun s4 _=>i.mem.length-(intOf s4).toNat)
 case atStart=>exact⟨0,[],none,0,vU _,rfl,X⟩
 case round =>
  obtain⟨k,us,r,y,C,rfl,d⟩:=hrel;have O:=aq.out _ _ _ _ _ d.out;obtain⟨-,x1⟩:=HC.out wr O;by_cases R:k<i.mem.length
  ·obtain⟨l,hl⟩:∃l,i.mem[k]?=some l:=⟨_,vu R⟩;obtain⟨bm,om,vl,U,T,af⟩:=ar.out k l hl;injection U with U _ _;subst U;obtain⟨Al,cl,rfl,-⟩:=id T
   have q:Hid (∀m,Gr wr m->m.cell? ⟨D,1,none⟩=some (.slice r k y)/\m.cell? ⟨w.heap.size,1,none⟩=some (.slice (some ⟨bm,om,none⟩) i.mem.length cm)/\m.cell? ⟨bm,om+k,none⟩=some (.slice Al l.length cl)/\m.frozen? ⟨D,1,none⟩=false /\
       Src m (.slice Al l.length cl) 1 l.length (l.map (Value.int .i64))/\Own1 (D+1) 22 m (.slice r k y) us/\D+1<=m.heap.size):=fun K g2=>by
    have G:=d.out.grow HV.out g2;exact⟨vX _ _ 1 _ _ _ G.st,(HC.out K (O.trans g2)).2,af K (HG.out.trans (O.trans g2)),vY _ _ 1 _ _ G.st,Src.ints (T.below (HG.out.trans (O.trans g2))),G.own,by have:=G.fr.size;have:=HV.out;omega⟩
   have Y:Hid (∀(m K:World) (am:Obj) (u:Value) (A2:Option Addr) (c2:Nat),Gr wr m->RowOf wr.heap.size 3 m u (l.map (Value.int .i64))->(m.alloc am).grownBy K (Value.slice r k y).ownBlock->Own1 (D+1) 22 K (.slice A2 (k+1) c2) (us++[u])->_):=fun m K am u A2 c2 F hu hg H=>CS.push HV.out d.out hl F hu hg H;have av:Hid (us.length=k):=d.out.len;have an:k<1000000:=by have:=aa.out;omega
   have ao:l.length<=1000000:=by have:=ab.out l (vz hl);omega
   have mixed:(prog).follows .mixedOrders=true:=by kernel_rfl
   obtain⟨x4,-,xl,z4,-⟩:=q.out wr (wL _);have Q4:=fun o=>(q.out (wr.alloc o) ((wL wr).alloc o)).1;have Q1:=fun o=>(q.out (wr.alloc o) ((wL wr).alloc o)).2.1;have Ql:=fun o=>(q.out (wr.alloc o) ((wL wr).alloc o)).2.2.1;clear hl d T af O;go_wp2
   go_region_law_o (first|(refine xq (n:=l.length) (ys:=l.map (Value.int .i64)) underlying22 ax aH aI (by omega) al rfl (.tmp 19) (.tmp 24) rfl rfl (q.out _ ((wL wr).alloc _).drew).2.2.2.2.1 (vS _) (by omega) (by simp[Value.oneCell']) rfl ?_;intro A7 c7 w7 ai g7;have G7:Hid (Gr wr w7):=(((wL wr).alloc _).drew).trans g7;have au:Hid (RowOf wr.heap.size 3 w7 _ _):=ai.less (by simp);have N:=dJ (q.out w7 G7.out);have aM:=N.out.1;have aJ:=fun o=>(q.out (w7.alloc o) (G7.out.alloc o)).1;clear ai g7)|(refine gE (n:=k) (v:=.slice r k y) underlying27 ay aE aF aG rfl (by omega) rfl (.tmp 18) (.tmp 26) rfl av.out rfl N.out.2.2.2.2.2.1 rfl rfl (by omega) N.out.2.2.2.2.2.2 ?_;intro A2 c2 K H ag ae;have M:=dJ (Y.out w7 K _ _ A2 c2 G7.out au.out ag H);have aN:=M.out.1.1;have aO:=M.out.1.2;clear H ag ae))
   all_goals go_wp2
   all_goals
    exact⟨⟨k+1,_,A2,c2,by omega,by go_num,M.out.2⟩,by simp[intOf];omega⟩
  ·obtain rfl:k=i.mem.length:=by omega
   obtain⟨b0,b1⟩:=crw2 d.out.st 0 1;have S:=HR.out _ O;obtain⟨r0,r1⟩:=crw2 S 0 1;obtain⟨f0,f1⟩:=frw2 S 0 1;obtain⟨w9,aj⟩:=xJ ((wr.setCell ⟨t.heap.size,0,none⟩ (.slice I i.args.length J)).setCell ⟨t.heap.size,1,none⟩ (.slice r i.mem.length y));have hF:FrS (·=t.heap.size) wr w9:=by rw[<-aj];exact((FrS.refl (·=t.heap.size) wr).setCell (p:=⟨t.heap.size,0,none⟩) rfl _).setCell (p:=⟨t.heap.size,1,none⟩) rfl _
   have h9:=cX (i:=1) (.slice r i.mem.length y) (cX (i:=0) (.slice I i.args.length J) S);rw[aj] at h9;have aw:Gr w w9:=gr_frs' (HG.out.trans O) hF (fun k C=>by have:=E.out;omega);have aA:=xz d.out.len (w:=w9) (dr d.out.own fun k C=>hF.block _ (dg d.out.own C).2.1 (by have:=(dg d.out.own C).1;have:=E.out;have:=L.out;show k≠_;omega)) (fun j u l h1 h2=>(d.out.rows j u l h1 h2).same fun k cur C hc=>hF.block _ (cY hc) (by have:=E.out;have:=L.out;show k≠_;omega)) aa.out ab.out;have aB:=((ad.out.same fun k cur C hc=>d.out.fr.block k (cY hc) (fun e=>hE hc X.out.st (by decide) e)).same (w':=w9) fun k cur C hc=>hF.block _ (cY hc) (by have:=E.out;have:=HS.out;simp at C;show k≠_;omega)).u32 (by omega);obtain⟨z0,z1⟩:=crw2 h9 0 1;clear d hF h9;go_wp2;refine vZ (v:=.agg #[.slice I i.args.length J,.slice r i.mem.length y]) (by simp[results,results15,go_sem,z0,z1]) rfl ?_;exact⟨⟨I,J,r,y,rfl,aB,aA⟩,aw⟩
end
section
open Go.RowKit Go.Shelf
theorem sF:jF Rn.kFn where
 blocks:=by decide
 block:=by intro l hl;simp[Rn.kFn] at hl;subst hl;decide
 wf:=by
  intro l hl x d;simp[Rn.kFn] at hl;subst hl;simp at d;rcases d with rfl|rfl|rfl <;> (unfold WfI;refine⟨by decide,?_,by decide,by decide⟩;intro z g;simp[Rn.kAdd,Rn.kFreeze,Rn.kRet] at g;omega)
 flags:=by
  intro l hl x d;simp[Rn.kFn] at hl;subst hl;simp at d;rcases d with rfl|rfl|rfl <;> decide
theorem ut:Rn.Im Rn.kFn:=by
 intro l hl x d;simp[Rn.kFn] at hl;subst hl;simp at d;rcases d with rfl|rfl|rfl <;> decide
def ue (w:World):Value:=.agg #[.slice (some ⟨w.heap.size,0,none⟩) 2 2,.int .i64 8,.slice none 0 0,.slice (some ⟨w.heap.size+1+1+1+1+1,0,none⟩) 1 1]
theorem uQ (w:World){W:World}(hW:(((((((w.alloc (.cells #[.int .i64 8,.int .i64 8] 3)).alloc (.cells #[.int .i64 0,.int .i64 1] 3)).alloc (.cells #[.int .i64 2] 3)).alloc (.cells #[.int .i64 3] 3)).alloc (.cells #[.int .i64 1,.int .i64 8,.int .i64 2,.slice (some ⟨w.heap.size+1,0,none⟩) 2 2,.int .u32 0,.slice none 0 0,.int .i64 21,.int .i64 8,.int .i64 0,.slice (some ⟨w.heap.size+1+1,0,none⟩) 1 1,.int .u32 0,.slice none 0 0,.int .i64 31,.int .i64 0,.int .i64 0,.slice (some ⟨w.heap.size+1+1+1,0,none⟩) 1 1,.int .u32 0,.slice none 0 0] 67)).alloc (.cells #[.slice (some ⟨w.heap.size+1+1+1+1,0,none⟩) 3 3] 68)).alloc (.cells #[.slice (some ⟨w.heap.size,0,none⟩) 2 2,.int .i64 8,.slice none 0 0,.slice (some ⟨w.heap.size+1+1+1+1+1,0,none⟩) 1 1] 25))=W):FnAt W.heap.size W (ue w) Rn.kFn/\Gr w W/\W.heap.size=w.heap.size+7/\∀o,W.cell? ⟨w.heap.size+1+1+1+1+1+1,o,none⟩=(#[.slice (some ⟨w.heap.size,0,none⟩) 2 2,.int .i64 8,.slice none 0 0,.slice (some ⟨w.heap.size+1+1+1+1+1,0,none⟩) 1 1]:Array Value)[o]?:=by
 have l:Gr w W:=by rw[<-hW];exact((((((((wL _).alloc _).alloc _).alloc _).alloc _).alloc _).alloc _).alloc _)
 have m:W.heap.size=w.heap.size+7:=by rw[<-hW];simp
 have G:Gr (w.alloc (.cells #[.int .i64 8,.int .i64 8] 3)) W:=by rw[<-hW];exact(((((((wL _).alloc _).alloc _).alloc _).alloc _).alloc _).alloc _)
 have H:Gr ((w.alloc (.cells #[.int .i64 8,.int .i64 8] 3)).alloc (.cells #[.int .i64 0,.int .i64 1] 3)) W:=by rw[<-hW];exact((((((wL _).alloc _).alloc _).alloc _).alloc _).alloc _)
 have I:Gr (((w.alloc (.cells #[.int .i64 8,.int .i64 8] 3)).alloc (.cells #[.int .i64 0,.int .i64 1] 3)).alloc (.cells #[.int .i64 2] 3)) W:=by rw[<-hW];exact(((((wL _).alloc _).alloc _).alloc _).alloc _)
 have J:Gr ((((w.alloc (.cells #[.int .i64 8,.int .i64 8] 3)).alloc (.cells #[.int .i64 0,.int .i64 1] 3)).alloc (.cells #[.int .i64 2] 3)).alloc (.cells #[.int .i64 3] 3)) W:=by rw[<-hW];exact((((wL _).alloc _).alloc _).alloc _)
 have K:Gr (((((w.alloc (.cells #[.int .i64 8,.int .i64 8] 3)).alloc (.cells #[.int .i64 0,.int .i64 1] 3)).alloc (.cells #[.int .i64 2] 3)).alloc (.cells #[.int .i64 3] 3)).alloc (.cells #[.int .i64 1,.int .i64 8,.int .i64 2,.slice (some ⟨w.heap.size+1,0,none⟩) 2 2,.int .u32 0,.slice none 0 0,.int .i64 21,.int .i64 8,.int .i64 0,.slice (some ⟨w.heap.size+1+1,0,none⟩) 1 1,.int .u32 0,.slice none 0 0,.int .i64 31,.int .i64 0,.int .i64 0,.slice (some ⟨w.heap.size+1+1+1,0,none⟩) 1 1,.int .u32 0,.slice none 0 0] 67)) W:=by rw[<-hW];exact(((wL _).alloc _).alloc _)
 have L:Gr ((((((w.alloc (.cells #[.int .i64 8,.int .i64 8] 3)).alloc (.cells #[.int .i64 0,.int .i64 1] 3)).alloc (.cells #[.int .i64 2] 3)).alloc (.cells #[.int .i64 3] 3)).alloc (.cells #[.int .i64 1,.int .i64 8,.int .i64 2,.slice (some ⟨w.heap.size+1,0,none⟩) 2 2,.int .u32 0,.slice none 0 0,.int .i64 21,.int .i64 8,.int .i64 0,.slice (some ⟨w.heap.size+1+1,0,none⟩) 1 1,.int .u32 0,.slice none 0 0,.int .i64 31,.int .i64 0,.int .i64 0,.slice (some ⟨w.heap.size+1+1+1,0,none⟩) 1 1,.int .u32 0,.slice none 0 0] 67)).alloc (.cells #[.slice (some ⟨w.heap.size+1+1+1+1,0,none⟩) 3 3] 68)) W:=by rw[<-hW];exact((wL _).alloc _)
 have M:Gr (((((((w.alloc (.cells #[.int .i64 8,.int .i64 8] 3)).alloc (.cells #[.int .i64 0,.int .i64 1] 3)).alloc (.cells #[.int .i64 2] 3)).alloc (.cells #[.int .i64 3] 3)).alloc (.cells #[.int .i64 1,.int .i64 8,.int .i64 2,.slice (some ⟨w.heap.size+1,0,none⟩) 2 2,.int .u32 0,.slice none 0 0,.int .i64 21,.int .i64 8,.int .i64 0,.slice (some ⟨w.heap.size+1+1,0,none⟩) 1 1,.int .u32 0,.slice none 0 0,.int .i64 31,.int .i64 0,.int .i64 0,.slice (some ⟨w.heap.size+1+1+1,0,none⟩) 1 1,.int .u32 0,.slice none 0 0] 67)).alloc (.cells #[.slice (some ⟨w.heap.size+1+1+1+1,0,none⟩) 3 3] 68)).alloc (.cells #[.slice (some ⟨w.heap.size,0,none⟩) 2 2,.int .i64 8,.slice none 0 0,.slice (some ⟨w.heap.size+1+1+1+1+1,0,none⟩) 1 1] 25)) W:=by rw[hW];exact wL _
 have p:∀o,W.cell? ⟨w.heap.size,o,none⟩=(#[.int .i64 8,.int .i64 8]:Array Value)[o]?:=fun o=>nx _ _ o G (by simp);have q:∀o,W.cell? ⟨w.heap.size+1,o,none⟩=(#[.int .i64 0,.int .i64 1]:Array Value)[o]?:=fun o=>nx _ _ o H (by simp);have r:∀o,W.cell? ⟨w.heap.size+1+1,o,none⟩=(#[.int .i64 2]:Array Value)[o]?:=fun o=>nx _ _ o I (by simp);have t:∀o,W.cell? ⟨w.heap.size+1+1+1,o,none⟩=(#[.int .i64 3]:Array Value)[o]?:=fun o=>nx _ _ o J (by simp);have d:∀o,W.cell? ⟨w.heap.size+1+1+1+1,o,none⟩=(#[.int .i64 1,.int .i64 8,.int .i64 2,.slice (some ⟨w.heap.size+1,0,none⟩) 2 2,.int .u32 0,.slice none 0 0,.int .i64 21,.int .i64 8,.int .i64 0,.slice (some ⟨w.heap.size+1+1,0,none⟩) 1 1,.int .u32 0,.slice none 0 0,.int .i64 31,.int .i64 0,.int .i64 0,.slice (some ⟨w.heap.size+1+1+1,0,none⟩) 1 1,.int .u32 0,.slice none 0 0]:Array Value)[o]?:=fun o=>nx _ _ o K (by simp);have u:∀o,W.cell? ⟨w.heap.size+1+1+1+1+1,o,none⟩=(#[.slice (some ⟨w.heap.size+1+1+1+1,0,none⟩) 3 3]:Array Value)[o]?:=fun o=>nx _ _ o L (by simp);have z:∀o,W.cell? ⟨w.heap.size+1+1+1+1+1+1,o,none⟩=(#[.slice (some ⟨w.heap.size,0,none⟩) 2 2,.int .i64 8,.slice none 0 0,.slice (some ⟨w.heap.size+1+1+1+1+1,0,none⟩) 1 1]:Array Value)[o]?:=fun o=>nx _ _ o M (by simp);have g:IntsAt W.heap.size W (.slice none 0 0) []:=⟨none,0,rfl,vV _,by simp,fun h=>by simp at h⟩
 have A:IntsAt W.heap.size W (.slice (some ⟨w.heap.size,0,none⟩) 2 2) [8,8]:=by
  refine⟨_,_,rfl,vV _,by simp,fun _=>⟨_,_,rfl,by omega,fun j y hy=>?_⟩⟩;rw[Nat.zero_add,p]
  match j,hy with
  | 0,hy=>simp at hy;subst hy;rfl
  | 1,hy=>simp at hy;subst hy;rfl
 have B:IntsAt W.heap.size W (.slice (some ⟨w.heap.size+1,0,none⟩) 2 2) [0,1]:=by
  refine⟨_,_,rfl,vV _,by simp,fun _=>⟨_,_,rfl,by omega,fun j y hy=>?_⟩⟩;rw[Nat.zero_add,q]
  match j,hy with
  | 0,hy=>simp at hy;subst hy;rfl
  | 1,hy=>simp at hy;subst hy;rfl
 have C:IntsAt W.heap.size W (.slice (some ⟨w.heap.size+1+1,0,none⟩) 1 1) [2]:=by
  refine⟨_,_,rfl,vV _,by simp,fun _=>⟨_,_,rfl,by omega,fun j y hy=>?_⟩⟩;rw[Nat.zero_add,r]
  match j,hy with
  | 0,hy=>simp at hy;subst hy;rfl
 have D:IntsAt W.heap.size W (.slice (some ⟨w.heap.size+1+1+1,0,none⟩) 1 1) [3]:=by
  refine⟨_,_,rfl,vV _,by simp,fun _=>⟨_,_,rfl,by omega,fun j y hy=>?_⟩⟩;rw[Nat.zero_add,t]
  match j,hy with
  | 0,hy=>simp at hy;subst hy;rfl
 have E:BlkAt W.heap.size W (.slice (some ⟨w.heap.size+1+1+1+1,0,none⟩) 3 3) [Rn.kAdd,Rn.kFreeze,Rn.kRet]:=by
  refine⟨_,_,rfl,vV _,by simp,fun _=>⟨_,_,rfl,by omega,fun j y hy=>?_⟩⟩
  match j,hy with
  | 0,hy=>simp at hy;subst hy;exact⟨_,_,d 0,d 1,d 2,d 3,d 4,d 5,B,g⟩
  | 1,hy=>simp at hy;subst hy;exact⟨_,_,d 6,d 7,d 8,d 9,d 10,d 11,C,g⟩
  | 2,hy=>simp at hy;subst hy;exact⟨_,_,d 12,d 13,d 14,d 15,d 16,d 17,D,g⟩
 have F:BlksAt W.heap.size W (.slice (some ⟨w.heap.size+1+1+1+1+1,0,none⟩) 1 1) [[Rn.kAdd,Rn.kFreeze,Rn.kRet]]:=by
  refine⟨_,_,rfl,vV _,by simp,fun _=>⟨_,_,rfl,by omega,fun j y hy=>?_⟩⟩
  match j,hy with
  | 0,hy=>simp at hy;subst hy;exact⟨_,u 0,E⟩
 exact⟨⟨_,_,_,rfl,A,g,F⟩,l,m,z⟩
theorem tc {w W:World}{b:Nat}{t:TypeId}{zs:List Int}(h:W.heap[b]?=some (.cells (zs.map (Value.int .u32)).toArray t (0,0)))(hn:zs.length<=1000):U32At W.heap.size W (.slice (some ⟨b,0,none⟩) zs.length zs.length) zs :=
 ⟨_,_,rfl,vV _,by omega,fun _=>⟨_,_,rfl,cY h,fun j z hz=>by rw[vX _ _ _ _ _ _ h,Nat.zero_add];simp[hz]⟩⟩
theorem jt (w:World):Calls prog 12 #[] w fun e w'=>e=.returned (.bool true)/\Gr w w':=by
 obtain⟨W,hW⟩:=xJ ((((((((w.alloc (.cells #[.int .i64 8,.int .i64 8] 3)).alloc (.cells #[.int .i64 0,.int .i64 1] 3)).alloc (.cells #[.int .i64 2] 3)).alloc (.cells #[.int .i64 3] 3)).alloc (.cells #[.int .i64 1,.int .i64 8,.int .i64 2,.slice (some ⟨w.heap.size+1,0,none⟩) 2 2,.int .u32 0,.slice none 0 0,.int .i64 21,.int .i64 8,.int .i64 0,.slice (some ⟨w.heap.size+1+1,0,none⟩) 1 1,.int .u32 0,.slice none 0 0,.int .i64 31,.int .i64 0,.int .i64 0,.slice (some ⟨w.heap.size+1+1+1,0,none⟩) 1 1,.int .u32 0,.slice none 0 0] 67)).alloc (.cells #[.slice (some ⟨w.heap.size+1+1+1+1,0,none⟩) 3 3] 68)).alloc (.cells #[.slice (some ⟨w.heap.size,0,none⟩) 2 2,.int .i64 8,.slice none 0 0,.slice (some ⟨w.heap.size+1+1+1+1+1,0,none⟩) 1 1] 25)));obtain⟨X,Y,L,Z⟩:=uQ w hW;have R:=dJ X;have G:=dJ Y;have y:Hid (∀wr,Gr W wr->∀o,wr.cell? ⟨w.heap.size+1+1+1+1+1+1,o,none⟩=(#[.slice (some ⟨w.heap.size,0,none⟩) 2 2,.int .i64 8,.slice none 0 0,.slice (some ⟨w.heap.size+1+1+1+1+1,0,none⟩) 1 1]:Array Value)[o]?):=fun wr g o=>(g.cell _ _ (by omega)).trans (Z o)
 have Q:Hid (∀m,Gr W m->m.heap[W.heap.size]?=some (.cells #[.int .u32 127,.int .u32 1] 35 (0,0))->Calls prog 20 #[ue w,.agg #[.slice (some ⟨W.heap.size,0,none⟩) 2 2,.slice none 0 0]] m fun e w'=>∃A c,e=.returned (.tuple #[.slice A (256:Nat) c,.int .i64 0])/\Gr m w'):=fun m g h=>by
  refine(sN (f:=Rn.kFn) (i:=Rn.kInp) ((R.out.below g).mono g.size) sF ut (tc (zs:=[127,1]) (w:=w) h (by decide)) ⟨none,0,rfl,vV _,by decide,fun h=>absurd h (by decide)⟩ (by decide)).mono ?_;rintro e w' ⟨B,p⟩;rcases B with ⟨q,-⟩|⟨-,q,-⟩|⟨-,C,q,-,-,v,D,aa,rfl,ho⟩
  ·exact absurd Rn.k_valid q
  ·have:=Rn.k_all;rw[q] at this;cases this
  ·have hl:=Rn.k_all;rw[q] at hl;have M:C.length=256:=by simpa using hl
   obtain⟨A,c,rfl,-⟩:=dU ho.own;rw[M];exact⟨A,c,rfl,p⟩
 have S:Hid (∀j H I,Gr W j->j.heap[H]?=some (.cells #[.int .u32 127,.int .u32 1] 35 (0,0))->j.heap[I]?=some (.cells #[.int .u32 258] 35 (0,0))->Calls prog 16 #[ue w,.agg #[.slice (some ⟨H,0,none⟩) 2 2,.slice none 0 0],.slice (some ⟨I,0,none⟩) 1 1] j fun e w'=>∃A c,e=.returned (.tuple #[.agg #[.int .i64 0,.bool false,.int .i64 0,.int .u32 2,.slice A (0:Nat) c],.int .i64 1,.int .i64 0])/\Gr j w'):=fun j H I g h h'=>by
  refine(tH (f:=Rn.kFn) (i:=Rn.kInp) (picks:=[258]) ((R.out.below g).mono g.size) sF ut (tc (zs:=[127,1]) (w:=w) h (by decide)) ⟨none,0,rfl,vV _,by decide,fun h=>absurd h (by decide)⟩ (by decide) (tc (zs:=[258]) (w:=w) h' (by decide)) (by decide)).mono ?_;rintro e w' ⟨B,p⟩;rcases B with ⟨q,-⟩|⟨-,vx,D,rfl,hk,-⟩
  ·exact absurd Rn.k_valid q
  ·obtain⟨r1,r2⟩:=Rn.k_run;have r3:Rn.wids Rn.kFn Rn.kInp [258]=[8]:=r2;obtain⟨-,⟨A,c,rfl⟩,-⟩:=hk;rw[r1,r3];exact⟨A,c,rfl,p⟩
 unfold ue at Q S;obtain⟨k0,k1,k2,k3⟩:=And.intro (y.out W (wL _) 0) (And.intro (y.out W (wL _) 1) (And.intro (y.out W (wL _) 2) (y.out W (wL _) 3)));clear X Y L Z
 go_enter func12, ntmps12
 go_wp2_with (first
   | (go_at_call 20
      obtain⟨m,r⟩:=xJ (W.alloc (.cells #[.int .u32 127,.int .u32 1] 35))
      have J:Gr W m:=by rw[<-r];exact(wL _).alloc _
      have p:m.heap[W.heap.size]?=some (.cells #[.int .u32 127,.int .u32 1] 35 (0,0)):=by rw[<-r];exact heap_alloc_new _ _
      rw[r]
      have N:=Q.out m J p
      (with_reducible refine N.mono ?_)
      rintro e u ⟨A,c,rfl,T⟩
      have d:=dJ (J.trans T)
      have j0:=y.out u d.out 0
      have j1:=y.out u d.out 1
      have j2:=y.out u d.out 2
      have j3:=y.out u d.out 3
      clear J p N T r)
   | (go_at_call 16
      obtain⟨E,l⟩:=xJ (u.alloc (.cells #[.int .u32 127,.int .u32 1] 35))
      obtain⟨j,t⟩:=xJ (E.alloc (.cells #[.int .u32 258] 35))
      have K:Gr u E:=by rw[<-l];exact(wL _).alloc _
      have F:Gr E j:=by rw[<-t];exact(wL _).alloc _
      have s4:E.heap.size=u.heap.size+1:=by rw[<-l];simp
      have B:j.heap[u.heap.size]?=some (.cells #[.int .u32 127,.int .u32 1] 35 (0,0)):=(F.heap _ (by omega)).trans (by rw[<-l];exact heap_alloc_new _ _)
      have p:j.heap[u.heap.size+1]?=some (.cells #[.int .u32 258] 35 (0,0)):=by rw[<-t,<-s4];exact heap_alloc_new _ _
      rw[l,t]
      have O:=S.out j _ _ ((d.out.trans K).trans F) B p
      (with_reducible refine O.mono ?_)
      rintro e w6 ⟨A6,c6,rfl,U⟩
      have z:=dJ (((d.out.trans K).trans F).trans U)
      clear K F B p O U l t s4))
 go_ret
 first
  | exact⟨rfl,G.out.trans (z.out.alloc _)⟩
  | exact⟨rfl,G.out.trans ((z.out.alloc _).drew)⟩
  | exact⟨rfl,G.out.trans ((z.out.alloc _).drewN _)⟩
end
section
open Go.RowKit Go.Deep Go.ChangeShapes Go.WideShapes
section
variable {H:Type}{enc:TypeId × Value->H}{w:World}
theorem iU {fuel:Nat}{v:Value}{x:DataW H × List MemPlace}(h:DataW.trod enc prog w 0 (fun _=>true) true fuel 26 [v]=some x):∃zs,ArgsAt w v zs:=by
 rcases open_ints underlying26 underlying35 (by kernel_rfl) h with ⟨g,-⟩|⟨a,l,c,zs,g,-,hl,u,C,rfl,d,y⟩
 ·obtain rfl:v=.slice none 0 0:=by simpa using g
  exact⟨[],⟨none,0,rfl,by simp,by simp⟩,fun _=>⟨none,0,rfl,by simp,by simp,by simp⟩,by simp⟩
 ·obtain rfl:v=.slice (some a) l c:=by simpa using g
  simp only[if_true] at C;have hlen:(zs.take l).length=l:=by simp;omega
  have D:c<=9223372036854775807:=u;refine⟨zs.take l,⟨some a,c,by rw[hlen],by rw[hlen];exact hl,by rw[hlen];omega⟩,fun B=>⟨some a,c,by rw[hlen],by rw[hlen];exact hl,by omega,fun A=>?_⟩,fun z hz'=>by have:=bounds_u32 (y z (List.mem_of_mem_take hz'));omega⟩;rw[hlen] at A;have p:=d 0 (by omega);obtain⟨b,off,q⟩:=a;have m:q=none:=by simpa[Addr.add] using World.cell?_spot p
  subst m;refine⟨b,off,rfl,by simpa[Addr.add] using ij p,fun j z r=>?_⟩
  have t:j<l:=by
   have:=(vy.1 r).1;rw[hlen] at this;exact this
  rw[vL,wa t] at r;have:=d j (by omega);rw[add_plain] at this;simpa[List.getD,r] using this
theorem sn {fuel:Nat}{v:Value}{x:DataW H × List MemPlace}(h:DataW.trod enc prog w 0 (fun _=>true) true fuel 27 [v]=some x)
  (hw:∀m∈x.1.weights prog 27,m<=reachBytes):∃t,TabAt w.heap.size w v t:=by
 have C:Program.cellsOf prog 22=1:=by kernel_rfl
 have L:Program.bytesOf prog 22=24:=by kernel_rfl
 have M:reachBytes=0x7ffffffff000:=rfl;rcases open_slice1 underlying27 C h with ⟨g,-⟩|⟨a,l,c,m,n,V,D,N,g,-,hl,-,I,rfl,E⟩
 ·obtain rfl:v=.slice none 0 0:=by simpa using g
  exact⟨[],⟨none,0,rfl,by simp,by simp,by simp⟩⟩
 ·obtain rfl:v=.slice (some a) l c:=by simpa using g
  simp only[if_true] at I;subst I;have A:=hw _ (by simp only[DataW.weights,underlying27];exact List.mem_cons_self);simp only[vS,List.length_range] at A;rw[L,M] at A
  obtain⟨X,K⟩:=choose_lt (α:=List Int) (n:=l) (p:=fun i X=>IntsAt w.heap.size w (V i) X) (fun i hi=>by
    obtain⟨zs,F,-⟩:=fp (E i (by omega)).2 (fun k hk=>hw k (by
      simp only[DataW.weights,underlying27]
      refine List.mem_cons_of_mem _ (wl.2 (Or.inl (eC (d:=D i) (List.mem_map.2 ⟨i,List.mem_range.2 hi,rfl⟩) hk)))))
    exact⟨zs,F⟩)
  have hlen:((List.range l).map X).length=l:=by simp
  refine⟨(List.range l).map X,⟨some a,m,by rw[hlen],by rw[hlen];exact hl,by rw[hlen];omega,fun J=>?_⟩⟩;rw[hlen] at J;have u:=(E 0 (by omega)).1;obtain⟨b,off,B⟩:=a;have r:B=none:=by simpa[Addr.add] using World.cell?_spot u
  subst r;refine⟨b,off,rfl,by simpa[Addr.add] using ij u,fun j z G=>?_⟩
  have y:j<l:=by
   have:=(vy.1 G).1;rw[hlen] at this;exact this
  obtain rfl:X j=z:=by simpa[y] using G
  have q:=(E j (by omega)).1;rw[add_plain] at q;exact⟨V j,q,K j y⟩
theorem mL {v:Value}{d:DataW H}{p:List MemPlace}(hv:Value.okWide prog w .any 0 29 v)(h:DataW.Trod enc prog w 0 (fun _=>true) true 29 v d p)
  (hw:∀m∈d.weights prog 29,m<=reachBytes):∃(i:Rn.Inp) (va vm:Value),v=.agg #[va,vm]/\ArgsAt w va i.args/\TabAt w.heap.size w vm i.mem:=by
 obtain⟨v0,r,u,y,n,rfl,rfl,-,g,j⟩:=Go.Joins.open_agg2 underlying29 (by kernel_rfl) (by kernel_rfl) hv h;obtain⟨zs,l⟩:=iU g;obtain⟨t,q⟩:=sn j (fun m hm=>hw m (by simp[DataW.weights,underlying29,DataW.weightsEach,hm]));exact⟨⟨zs,t⟩,v0,r,rfl,l,q⟩
theorem tU {f:Fn}(hs:∀l∈f.blocks,∀z∈l,sC z):Rn.Im f:=fun l hl x d=>(hs l hl x d).1
end
end
section
open Go.RowKit
theorem wT (x y:Int)(w:World):Calls prog 84 #[.int .i64 x,.int .i64 y] w fun e w'=>e=.returned (.int .i64 (Rn.sgn x y))/\w'=w:=by
 have m:∀z,((x<y/\z=-1)\/(¬x<y/\y<x/\z=1)\/(¬x<y/\¬y<x/\z=0))->z=Rn.sgn x y:=by
  intro z h;unfold Rn.sgn;rcases h with ⟨g,d⟩|⟨g,d,l⟩|⟨g,d,l⟩
  ·rw[wa g];exact d
  ·rw[wb g,wa d];exact l
  ·rw[wb g,wb d];exact l
 have j:=dJ m;clear m;rcases Int.lt_trichotomy x y with h|h|h
 ·go_enter func84, ntmps84
  go_wp2;go_ret;exact⟨de (j.out _ (.inl ⟨h,rfl⟩)),rfl⟩
 ·subst h
  go_enter func84, ntmps84
  go_wp2;go_ret;exact⟨de (j.out _ (.inr (.inr ⟨by omega,by omega,rfl⟩))),rfl⟩
 ·have d:¬x<y:=by omega
  go_enter func84, ntmps84
  go_wp2;go_ret;exact⟨de (j.out _ (.inr (.inl ⟨d,h,rfl⟩))),rfl⟩
theorem xp (b:Bool)(w:World):Calls prog 83 #[.bool b] w fun e w'=>e=.returned (.int .i64 (Rn.bit b))/\w'=w:=by
 cases b
 all_goals
  go_enter func83, ntmps83
  go_wp2;go_ret;exact⟨de (by decide),rfl⟩
namespace Rn
theorem cmpInts_end {a b:List Int}{k:Nat}(ha:k<=a.length)(hb:k<=b.length)(h:k=a.length\/k=b.length):cmpInts (a.drop k) (b.drop k)=sgn a.length b.length:=by
 rcases h with rfl|rfl
 ·rw[vQ (vV a.length)];rcases wh a.length b.length with q|q
  ·rw[vM q,cmpInts];unfold sgn;rw[wa (by omega)]
  ·rw[vQ q,cmpInts];unfold sgn;rw[wb (by omega),wb (by omega)]
 ·rw[vQ (vV b.length)];rcases wh b.length a.length with q|q
  ·rw[vM q,cmpInts];unfold sgn;rw[wb (by omega),wa (by omega)]
  ·rw[vQ q,cmpInts];unfold sgn;rw[wb (by omega),wb (by omega)]
theorem cmpMem_end {a b:List (List Int)}{k:Nat}(ha:k<=a.length)(hb:k<=b.length)(h:k=a.length\/k=b.length):cmpMem (a.drop k) (b.drop k)=sgn a.length b.length:=by
 rcases h with rfl|rfl
 ·rw[vQ (vV a.length)];rcases wh a.length b.length with q|q
  ·rw[vM q,cmpMem];unfold sgn;rw[wa (by omega)]
  ·rw[vQ q,cmpMem];unfold sgn;rw[wb (by omega),wb (by omega)]
 ·rw[vQ (vV b.length)];rcases wh b.length a.length with q|q
  ·rw[vM q,cmpMem];unfold sgn;rw[wb (by omega),wa (by omega)]
  ·rw[vQ q,cmpMem];unfold sgn;rw[wb (by omega),wb (by omega)]
end Rn
theorem xb {B:Nat}{w:World}{v v':Value}{a b:List Int}(hv:IntsAt B w v a)(hv':IntsAt B w v' b)(hB:B<=w.heap.size) :
  Calls prog 82 #[v,v'] w fun e w'=>e=.returned (.int .i64 (Rn.cmpInts a b))/\Gr w w':=by
 obtain⟨A,ca,rfl,a1,a2,a3⟩:=hv;obtain⟨W,cb,rfl,b1,b2,O⟩:=hv';obtain⟨R,J⟩:=xJ (Rn.cmpInts a b);have X:=dJ J
 have Y:Hid (∀wr,Gr w wr->∀k x,a[k]?=some x->∃j m,A=some ⟨j,m,none⟩/\∀u:GrW wr,u.val.cell? ⟨j,m+k,none⟩=some (.int .i64 x)):=fun wr g k x l=>by
  obtain⟨j,m,e,hb,a4⟩:=a3 (by have:=(vy.1 l).1;omega);exact⟨j,m,e,fun u=>((g.trans u.gr).cell _ _ (by omega)).trans (a4 k x l)⟩
 have Z:Hid (∀wr,Gr w wr->∀k x,b[k]?=some x->∃j m,W=some ⟨j,m,none⟩/\∀u:GrW wr,u.val.cell? ⟨j,m+k,none⟩=some (.int .i64 x)):=fun wr g k x l=>by
  obtain⟨j,m,e,hb,b4⟩:=O (by have:=(vy.1 l).1;omega);exact⟨j,m,e,fun u=>((g.trans u.gr).cell _ _ (by omega)).trans (b4 k x l)⟩
 rw[J];clear J a3 O
 go_enter func82, ntmps82
 go_wp2
 go_loopw [5] (fun K wr=>∃k:Nat,k<=a.length/\k<=b.length/\K=.int .i64 (k:Int)/\Hid (Rn.cmpInts (a.drop k) (b.drop k)=R)/\Hid (Gr w wr)) (fun K _=>a.length-(intOf K).toNat)
 case atStart=>exact⟨0,vU _,vU _,rfl,X,wL w⟩
 case round =>
  obtain⟨k,E,F,rfl,C,z⟩:=hrel;by_cases r:k<a.length
  ·by_cases q:k<b.length
   ·obtain⟨x,l⟩:∃x,a[k]?=some x:=⟨_,vu r⟩;obtain⟨y,G⟩:∃y,b[k]?=some y:=⟨_,vu q⟩;obtain⟨j,m,rfl,M⟩:=Y.out wr z.out k x l;obtain⟨bb,ob,rfl,N⟩:=Z.out wr z.out k y G;have Q:a.drop k=x::a.drop (k+1):=by rw[vM r];congr 1;rw[vu r] at l;injection l
    have S:b.drop k=y::b.drop (k+1):=by rw[vM q];congr 1;rw[vu q] at G;injection G
    have p:=dJ fun(u:GrW wr)=>el (wT x y u.val)
    have I:Hid ((if Rn.sgn x y=0 then Rn.cmpInts (a.drop (k+1)) (b.drop (k+1)) else Rn.sgn x y)=R):=by
     show _=_;have:=C.out;rw[Q,S,Rn.cmpInts] at this;exact this
    obtain⟨d,U⟩:=xJ (Rn.sgn x y);rw[U] at p I;clear l G Q S U C;by_cases T:d=0
    ·subst T;go_wp2;refine dc (by kernel_rfl) (by kernel_rfl) ?_;repeat (go_big_quiet_step ((rename_i u;go_at_call 84;exact di u (p.out u))))
     refine wpQuiet_nil ?_;intro w9 t;obtain⟨L,rfl⟩:=t;have H:=dJ (z.out.trans L.gr);clear M N;go_wp2;go_roundw;case rel=>exact⟨k+1,by omega,by omega,by go_num,by (show _=_);have:=I.out;simpa using this,H.out⟩
     case measure=>simp[intOf];omega
    ·have D:Hid (R=d):=by show _=_;have:=I.out;rw[wb T] at this;exact this.symm
     go_wp2;refine dc (by kernel_rfl) (by kernel_rfl) ?_;repeat (go_big_quiet_step ((rename_i u;go_at_call 84;exact di u (p.out u))))
     refine wpQuiet_nil ?_;intro w9 t;obtain⟨L,rfl⟩:=t;have H:=dJ (z.out.trans L.gr);clear M N;go_wp2;go_ret;exact⟨de D.out.symm,H.out⟩
   ·obtain rfl:k=b.length:=by omega
    have D:Hid (R=Rn.sgn a.length b.length):=by show _=_;rw[<-C.out];exact Rn.cmpInts_end E F (.inr rfl)
    have p:=dJ (wT a.length b.length wr);clear C;go_wp2_with (go_at_call 84;refine p.out.mono ?_;rintro e w1 ⟨rfl,rfl⟩);go_ret;exact⟨de D.out.symm,z.out⟩
  ·obtain rfl:k=a.length:=by omega
   have D:Hid (R=Rn.sgn a.length b.length):=by show _=_;rw[<-C.out];exact Rn.cmpInts_end E F (.inl rfl)
   have p:=dJ (wT a.length b.length wr);clear C;go_wp2_with (go_at_call 84;refine p.out.mono ?_;rintro e w1 ⟨rfl,rfl⟩);go_ret;exact⟨de D.out.symm,z.out⟩
end
end Go.Proofs.YthfhamagopbgcaaGreat

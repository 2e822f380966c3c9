/- Parts. -/
import Derived.Test.YthfjdhanbegaoaaGreatDoorT46
set_option linter.unusedSimpArgs false
set_option linter.unusedVariables false
set_option maxRecDepth 100000
set_option maxHeartbeats 16000000
open Go.Proofs.Tryz
namespace Go.Proofs.YthfjdhanbegaoaaGreatDoor
open Go.RowKit
theorem nn:Tx.readP []=none:=rfl
theorem gZ {f:Fn}(hi:Tx.Im f):Tx.readP (di f)=if Ref.validate f=0 then some f else none:=by
 unfold di;by_cases h:Ref.validate f=0
 ·rw[pB h,pB h,Tx.readP_text h hi]
 ·rw[pC h,pC h,nn]
theorem iL {f g:Fn}(hf:Tx.Im f)(hg:Tx.Im g)(h:(Tx.differS (di f) (di g)).2.2=0):(Tx.differS (di f) (di g)).2.1=!decide (f=g):=by
 have d:=gZ hf;have j:=gZ hg;by_cases m:Ref.validate f=0
 ·by_cases l:Ref.validate g=0
  ·rw[pB m]at d;rw[pB l]at j;unfold Tx.differS;rw[d,j];simp only;by_cases e:f=g
   ·subst e;rw[Tx.diffP_self,decide_eq_true rfl];rfl
   ·have p:di f≠di g:=by
     unfold di;rw[pB m,pB l];exact fun q=>e (Tx.text_inj m hf l hg q)
    rw[(Tx.differ_ne d j p).2,decide_eq_false e];rfl
  ·rw[pC l]at j;unfold Tx.differS at h;rw[j]at h;cases hq:Tx.readP (di f)<;>rw[hq]at h<;>simp at h
 ·rw[pC m]at d;unfold Tx.differS at h;rw[d]at h;simp at h
theorem fB {f:Fn}(hi:Tx.Im f):(di f).length<=30000:=by
 unfold di;by_cases h:Ref.validate f=0
 ·rw[pB h];exact Tx.textS_len h hi
 ·rw[pC h];simp
theorem lawTextDiffers_any (vf vg:Value)(f g:Fn)(w:World)(hf:FnAt w.heap.size w vf f)(hg:FnAt w.heap.size w vg g)(hn:dA f=false->ia f)(hm:dA g=false->ia g)(hi:Tx.Im f)(hj:Tx.Im g)(ht:TabW w) :
  Calls prog 7 #[vf,vg] w (RG (.bool true) w):=by
 have J:=gn hf;have u:=gn hg;have Y:=eG ht;have K:Hid (dA f=false->∀d,Gr w d->Calls prog 12 #[vf] d (RG (.tuple #[.string (bs (di f)),.int .i64 (Ref.validate f)]) d)):=dJ fun h d q=>dW vf f d (hf.gr q) (hn h) hi (ht.gr q);have p:Hid (dA g=false->∀d,Gr w d->Calls prog 12 #[vg] d (RG (.tuple #[.string (bs (di g)),.int .i64 (Ref.validate g)]) d)):=dJ fun h d q=>dW vg g d (hg.gr q) (hm h) hj (ht.gr q);have D:Hid (∀d,Gr w d->Calls prog 21 #[.string (bs (di f)),.string (bs (di g))] d (RG (.tuple #[.int .i64 (Tx.differS (di f) (di g)).1,.bool (Tx.differS (di f) (di g)).2.1,.int .i64 (Tx.differS (di f) (di g)).2.2]) d)):=dJ fun d q=>gt _ _ (by have:=fB hi;omega) (by have:=fB hj;omega) d (ht.gr q);have l:Hid (∀d,Gr w d->Calls prog 22 #[.string (bs (di f)),.string (bs (di g))] d (RG (.tuple #[.int .i64 (Tx.differS (di f) (di g)).1,.bool (Tx.differS (di f) (di g)).2.1,.int .i64 (Tx.differS (di f) (di g)).2.2]) d)):=dJ fun d q=>gu _ _ (by have:=fB hi;omega) (by have:=fB hj;omega) d (ht.gr q);have z:Hid ((Tx.differS (di f) (di g)).2.2=0->(Tx.differS (di f) (di g)).2.1=!decide (f=g)):=dJ (iL hi hj);have M:Hid (∀d,Gr w d->Calls prog 15 #[vf,vg] d (RG (.bool (decide (f=g))) d)):=dJ fun d q=>gx vf vg f g d (hf.gr q) (hg.gr q);obtain⟨vp,vs,vb,rfl,hp,hs,hb⟩:=hf;obtain⟨Ap,cp,rfl,-⟩:=hp;obtain⟨As,cs,rfl,-⟩:=hs;obtain⟨Ab,cb,rfl,-⟩:=hb;obtain⟨up,us,ub,rfl,gp,gs,gb⟩:=hg;obtain⟨Dp,dp,rfl,-⟩:=gp;obtain⟨Ds,ds,rfl,-⟩:=gs;obtain⟨Db,db,rfl,-⟩:=gb;obtain⟨Wa,ae,ab,ac⟩:=dz w (.slice Ap f.params.length cp) (.int .i64 f.ret) (.slice As f.slots.length cs) (.slice Ab f.blocks.length cb);obtain⟨W,hW,I,m⟩:=dz Wa (.slice Dp g.params.length dp) (.int .i64 g.ret) (.slice Ds g.slots.length ds) (.slice Db g.blocks.length db);have j:Hid (Gr w W):=ab.out.trans I.out;have Z:Hid (∀w',Gr W w'->w'.cell? ⟨w.heap.size,0,none⟩=some (.slice Ap f.params.length cp)/\w'.cell? ⟨w.heap.size,1,none⟩=some (.int .i64 f.ret)/\w'.cell? ⟨w.heap.size,2,none⟩=some (.slice As f.slots.length cs)/\w'.cell? ⟨w.heap.size,3,none⟩=some (.slice Ab f.blocks.length cb)):=dJ fun w' q=>ac.out w' (I.out.trans q);obtain⟨k0,k1,k2,k3⟩:=Z.out W (qj _);obtain⟨j0,j1,j2,j3⟩:=m.out W (qj _);obtain⟨lf,U⟩:=xJ (dA f);obtain⟨lg,V⟩:=xJ (dA g);obtain⟨e,he⟩:=xJ (Ref.validate f);obtain⟨e',Q⟩:=xJ (Ref.validate g);obtain⟨S,hS⟩:=xJ (di f);obtain⟨T,hT⟩:=xJ (di g);obtain⟨q,hq⟩:∃q,decide (f=g)=q:=⟨_,rfl⟩;rw[U]at J K;rw[V]at u p;rw[he,hS]at K;rw[Q,hT]at p;rw[hS,hT]at D l z;rw[hq]at z M;obtain⟨⟨a,b,c⟩,hR⟩:∃R,Tx.differS S T=R:=⟨_,rfl⟩;rw[hR]at D l z;simp only at D l z;have c1:(a == a)=true:=by simp
 have c2:(b == b)=true:=by simp
 have c3:(c == c)=true:=by simp
 clear U V he Q hS hT hq hR hn hm hi hj ht;have r:=True.intro
 cases lf with
 | true =>
  clear K p D l z u
  go_enter func7, ntmps7
  go_wp2_with (first|(go_at_call 10;refine(J.out _ j.out).mono ?_;rintro e d ⟨rfl,g1⟩;have t:=dJ (j.out.trans g1);clear g1)|(go_at_call 11;refine(Y.out _ t.out).mono ?_;rintro e E ⟨rfl,g2⟩))
  go_ret;exact⟨rfl,t.out.trans g2⟩
 | false =>
  have L:=dJ (K.out rfl);clear K
  cases lg with
  | true =>
   clear p D l z
   go_enter func7, ntmps7
   go_wp2_with (first|(have _t:=r;go_at_call 10;(with_reducible refine(J.out _ j.out).mono ?_);rintro e d ⟨rfl,g1⟩;have t:=dJ (j.out.trans g1);obtain⟨y0,y1,y2,y3⟩:=m.out d g1;clear g1 r _t)|(go_at_call 10;(with_reducible refine(u.out _ t.out).mono ?_);rintro e E ⟨rfl,g2⟩;have y:=dJ (t.out.trans g2);clear g2)|(go_at_call 11;refine(Y.out _ y.out).mono ?_;rintro e F ⟨rfl,g3⟩))
   go_ret;exact⟨rfl,y.out.trans g3⟩
  | false =>
   have A:=dJ (p.out rfl);clear p;by_cases h0:c=0
   ·have aa:=dJ (z.out h0);subst h0;clear z
    go_enter func7, ntmps7
    go_wp2_with (first|(have _t:=r;go_at_call 10;(with_reducible refine(J.out _ j.out).mono ?_);rintro e d ⟨rfl,g1⟩;have t:Hid (Gr W d):=dJ g1;obtain⟨y0,y1,y2,y3⟩:=m.out d g1;clear g1 r _t)|(go_at_call 10;(with_reducible refine(u.out _ (j.out.trans t.out)).mono ?_);rintro e E ⟨rfl,g2⟩;have y:Hid (Gr W E):=dJ (t.out.trans g2);obtain⟨m0,m1,m2,m3⟩:=Z.out E y.out;have r:=True.intro;clear g2)|(have _t:=r;go_at_call 12;(with_reducible refine(L.out _ (j.out.trans y.out)).mono ?_);rintro e F ⟨rfl,g3⟩;have B:Hid (Gr W F):=dJ (y.out.trans g3);obtain⟨n0,n1,n2,n3⟩:=m.out F B.out;clear g3 r _t)|(go_at_call 12;(with_reducible refine(A.out _ (j.out.trans B.out)).mono ?_);rintro e w4 ⟨rfl,g4⟩;have G:Hid (Gr W w4):=dJ (B.out.trans g4);clear g4)|(go_at_call 21;refine(D.out _ (j.out.trans G.out)).mono ?_;rintro e w5 ⟨rfl,N⟩;have H:Hid (Gr W w5):=dJ (G.out.trans N);clear N)|(go_at_call 22;refine(l.out _ (j.out.trans H.out)).mono ?_;rintro e X ⟨rfl,O⟩;have C:Hid (Gr W X):=dJ (H.out.trans O);obtain⟨p0,p1,p2,p3⟩:=Z.out X C.out;obtain⟨r0,r1,r2,r3⟩:=m.out X C.out;clear O)|(go_at_call 15;refine(M.out _ (j.out.trans C.out)).mono ?_;rintro e w7 ⟨rfl,g7⟩;have G7:Hid (Gr W w7):=dJ (C.out.trans g7);have ad:=aa.out;subst ad;clear g7)|(go_at_call 11;refine(Y.out _ (j.out.trans G7.out)).mono ?_;rintro e w8 ⟨rfl,g8⟩))
    go_ret;exact⟨rfl,(j.out.trans G7.out).trans g8⟩
   ·have c4:(c != 0)=true:=by simpa using h0
    clear z h0
    go_enter func7, ntmps7
    go_wp2_with (first|(have _t:=r;go_at_call 10;(with_reducible refine(J.out _ j.out).mono ?_);rintro e d ⟨rfl,g1⟩;have t:Hid (Gr W d):=dJ g1;obtain⟨y0,y1,y2,y3⟩:=m.out d g1;clear g1 r _t)|(go_at_call 10;(with_reducible refine(u.out _ (j.out.trans t.out)).mono ?_);rintro e E ⟨rfl,g2⟩;have y:Hid (Gr W E):=dJ (t.out.trans g2);obtain⟨m0,m1,m2,m3⟩:=Z.out E y.out;have r:=True.intro;clear g2)|(have _t:=r;go_at_call 12;(with_reducible refine(L.out _ (j.out.trans y.out)).mono ?_);rintro e F ⟨rfl,g3⟩;have B:Hid (Gr W F):=dJ (y.out.trans g3);obtain⟨n0,n1,n2,n3⟩:=m.out F B.out;clear g3 r _t)|(go_at_call 12;(with_reducible refine(A.out _ (j.out.trans B.out)).mono ?_);rintro e w4 ⟨rfl,g4⟩;have G:Hid (Gr W w4):=dJ (B.out.trans g4);clear g4)|(go_at_call 21;refine(D.out _ (j.out.trans G.out)).mono ?_;rintro e w5 ⟨rfl,N⟩;have H:Hid (Gr W w5):=dJ (G.out.trans N);clear N)|(go_at_call 22;refine(l.out _ (j.out.trans H.out)).mono ?_;rintro e X ⟨rfl,O⟩;have C:Hid (Gr W X):=dJ (H.out.trans O);clear O)|(go_at_call 11;refine(Y.out _ (j.out.trans C.out)).mono ?_;rintro e w8 ⟨rfl,g8⟩))
    go_ret;exact⟨rfl,(j.out.trans C.out).trans g8⟩

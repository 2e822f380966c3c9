/- Parts. -/
import Derived.Test.YthfhamagopbgcaaGreatL52
import Derived.Test.YthfhamagopbgcaaGreatL51
set_option linter.unusedSimpArgs false
set_option linter.unusedVariables false
set_option maxRecDepth 100000
set_option maxHeartbeats 16000000
open Go.Proofs.Tryz
namespace Go.Proofs.YthfhamagopbgcaaGreat
section
open Go.RowKit Go.Shelf
theorem gd {f:Fn}{i:Rn.Inp}(h:(dV f || fj i)=false):dV f=false/\i.args.length<=1000:=by rw[Bool.or_eq_false_iff]at h;obtain⟨g,d⟩:=h;refine⟨g,?_⟩;unfold fj at d;simp only[Bool.or_eq_false_iff,decide_eq_false_iff_not]at d;omega
theorem ArgsAt.u32c {w w':World}{v:Value}{zs:List Int}(h:ArgsAt w v zs)(hl:zs.length<=1000)(g:Gr w w'):U32At w'.heap.size w' v zs:=SlAt.mono (qX (h.at_ hl) g) g.size
section
variable {f F:Fn}{i:Rn.Inp}{o:List Nat}
theorem oi (h:xG f i=0):Rn.validInput f i=0/\Rn.all f i≠none:=by
 unfold xG at h;split at h
 ·next hv =>
  refine⟨hv,fun e=>?_⟩;rw[wa e]at h;omega
 ·next hv=>exact absurd h hv
theorem wY (he:xG f i=0)(h:Rn.validInput F i=0/\Rn.all F i=Rn.all f i):xG F i=0/\qt F i=qt f i:=by obtain⟨d,g⟩:=oi he;unfold xG qt;rw[wa h.1,wa h.1,wa d,h.2,yD g];exact⟨rfl,rfl⟩
theorem xW (ho:Ref.Ord f o)(h:Rn.Im f):Rn.Im (Ref.moved f o):=fun l hl x j=>by obtain⟨k,d⟩:=List.getElem?_of_mem hl;obtain⟨b,m,-,g,rfl⟩:=Ref.moved_blk' ho d;obtain⟨y,p,rfl⟩:=List.mem_map.1 j;rw[(Ref.renum_parts f o y).2.2.2];exact h m (vz g) y p
structure yl (f F:Fn)(i:Rn.Inp):Prop where
 nice:jF F
 im:Rn.Im F
 len:F.blocks.length<=17592186044416
 err:xG F i=0
 outs:qt F i=qt f i
theorem yo (hn:jF f)(him:Rn.Im f)(ha:∀a∈i.args,0<=a)(he:xG f i=0)(hk:Ref.Keeps f o)(h:Rn.validInput (Ref.moved f o) i=0/\Rn.all (Ref.moved f o) i=Rn.all f i):yl f (Ref.moved f o) i where
 nice:=xB hn (Rn.valid_input h.1).1 hk.toOrd
 im:=xW hk.toOrd him
 len:=by have hv:=(Rn.valid_input (oi he).1).1;rw[Ref.moved_len];have:=hk.toOrd.short;have:=hv.size.2.2.2.1;omega
 err:=(wY he h).1
 outs:=(wY he h).2
theorem xO (hn:jF f)(him:Rn.Im f)(ha:∀a∈i.args,0<=a)(he:xG f i=0):yl f (Ref.pruneF f) i/\Ref.pruneE f=0:=by have d:=(oi he).1;have hv:=(Rn.valid_input d).1;have g:=(Ref.val_iff f).2 hv;have h:=Rn.all_pruned mr d him ha;refine⟨?_,g⟩;unfold Ref.pruneF at h ⊢;rw[wa g]at h ⊢;exact yo hn him ha he (Ref.keeps_reached mr hv) h
theorem xA (hn:jF f)(him:Rn.Im f)(ha:∀a∈i.args,0<=a)(he:xG f i=0){tz:List Int}(hr:Ref.renameE f tz=0):yl f (Ref.renameF f tz) i:=by have g:=(oi he).1;have h:=Rn.all_renamed mr g him ha hr;obtain⟨hv,j,l,m⟩:=Ref.renameE_ok hr;obtain⟨p,d,-⟩:=Ref.order_ord m j l;unfold Ref.renameF at h ⊢;rw[wa hr]at h ⊢;exact yo hn him ha he (Ref.keeps_all hv p d) h
end
theorem lawRunRenames_any {w:World}{f:Fn}{vf:Value}(hfn:FnAt w.heap.size w vf f)(hn:dV f=false->jF f)(him:Rn.Im f){i:Rn.Inp}{va vm:Value}(ha:ArgsAt w va i.args)(hm:TabAt w.heap.size w vm i.mem)
  {vt:Value} {tl:List Int} (ht:IntsAt w.heap.size w vt tl) :
  Calls prog 10 #[vf,.agg #[va,vm],vt] w (RG (.bool true) w):=by
 have CL:Hid (∀d,Gr w d->Calls prog 11 #[vf,.agg #[va,vm]] d (RG (.bool (dV f || fj i)) d)):=fun d g=>kX (hfn.gr g) ha.len (hm.gr g);have y:Hid (∀d,Calls prog 12 #[] d (RG (.bool true) d)):=jt;have t:∀a∈i.args,0<=a:=fun z hz=>(ha.words z hz).1;obtain⟨outs,hO⟩:=xJ (qt f i);obtain⟨E,hE⟩:=xJ (xG f i);obtain⟨F,hF⟩:=xJ (Ref.pruneF f);obtain⟨G,hG⟩:=xJ (Ref.renameF f tl);obtain⟨R,hR⟩:=xJ (Ref.renameE f tl);have X:outs.length<=256:=by rw[<-hO];exact xP
 have O:Hid (∀o∈outs,OW o):=fun o ho=>(xZ him t o (by rw[hO];exact ho)).1
 have CA:Hid ((dV f || fj i)=false->∀d,Gr w d->Calls prog 20 #[vf,.agg #[va,vm]] d fun e w'=>(∃A c D Z,e=.returned (.tuple #[.slice A outs.length c,.int .i64 E])/\OutsAt D (d.heap.size+2) w' (.slice A outs.length c) outs Z)/\Gr d w'):=fun h d g =>
  (sN (hfn.gr g) (hn (gd h).1) him (ha.u32c (gd h).2 g) (hm.gr g) t).mono fun e w' ⟨h,g'⟩=>⟨by rw[<-hO,<-hE];exact h.row,g'⟩
 have CM:Hid ((dV f || fj i)=false->∀H,yl f H i->∀d v,FnAt d.heap.size d v H->Gr w d->Calls prog 20 #[v,.agg #[va,vm]] d fun e w'=>(∃A c D Z,e=.returned (.tuple #[.slice A outs.length c,.int .i64 0])/\OutsAt D (d.heap.size+2) w' (.slice A outs.length c) outs Z)/\Gr d w'):=fun h H ok d v hv g =>
  (sN hv ok.nice ok.im (ha.u32c (gd h).2 g) (hm.gr g) t).mono fun e w' ⟨h,g'⟩=>⟨by have q:=h.row;unfold yv at q;rw[ok.outs,ok.err,hO]at q;exact q,g'⟩
 have CP:Hid ((dV f || fj i)=false->E=0->yl f F i/\∀d,Gr w d->Calls prog 34 #[vf] d fun e w'=>∃a1 J a2 K a3 L,e=.returned (.tuple #[.agg #[.slice a1 F.params.length J,.int .i64 F.ret,.slice a2 F.slots.length K,.slice a3 F.blocks.length L],.int .i64 0])/\Hid (FnAt w'.heap.size w' (.agg #[.slice a1 F.params.length J,.int .i64 F.ret,.slice a2 F.slots.length K,.slice a3 F.blocks.length L]) F)/\Gr d w'):=fun h e=>by obtain⟨h1,h2⟩:=xO (hn (gd h).1) him t (hE.trans e);rw[hF]at h1;refine⟨h1,fun d g=>?_⟩;have:=xz _ f d (hfn.gr g) (hn (gd h).1);rw[h2,hF]at this;exact this.mono fun e w' h=>h.out h1.len
 have CR:Hid ((dV f || fj i)=false->∀d,Gr w d->Calls prog 35 #[vf,vt] d (RetF d G R)):=fun h d g=>by have:=xn _ _ f tl d (hfn.gr g) (ht.gr g) (hn (gd h).1);rw[hG,hR]at this;exact this
 have CN:Hid ((dV f || fj i)=false->E=0->R=0->yl f G i):=fun h e r=>by rw[<-hG];exact xA (hn (gd h).1) him t (hE.trans e) (hR.trans r)
 obtain⟨Aa,ca,rfl,-⟩:=id ha.len;obtain⟨Am,cm,rfl,-⟩:=id hm;obtain⟨At,ct,rfl,-,am,-⟩:=id ht;obtain⟨vp,vs,vb,rfl,hp,ak,hb⟩:=hfn;obtain⟨Ap,cp,rfl,-⟩:=hp;obtain⟨As,cs,rfl,-⟩:=ak;obtain⟨Ab,cb,rfl,-⟩:=hb;obtain⟨W,hW⟩:=xJ ((w.alloc (.cells #[.slice Ap f.params.length cp,.int .i64 f.ret,.slice As f.slots.length cs,.slice Ab f.blocks.length cb] 25)).alloc (.cells #[.slice Aa i.args.length ca,.slice Am i.mem.length cm] 29));obtain⟨g0,-,hc⟩:=gJ hW;have m:=dJ hc;obtain⟨k0,k1,k2,k3,k4,k5⟩:=m.out W (wL _);have j:=dJ g0;obtain⟨lg,ac⟩:=xJ ((dV f || fj i));rw[ac]at CL CA CM CP CR CN;clear ac hn ha hm g0 hc hO hE hF hG hR t ht
 cases lg with
 | true =>
  go_enter func10, ntmps10
  go_wp2_with (first|(go_at_call 11;refine(CL.out _ j.out).mono ?_;rintro e d ⟨rfl,p⟩;have l:Hid (Gr w d):=j.out.trans p;clear p)|(go_at_call 12;refine(y.out _).mono ?_;rintro e M ⟨rfl,u⟩))
  go_ret;exact⟨rfl,l.out.trans u⟩
 | false =>
  by_cases an:tl.length<=100
  ·have ad:¬(100:Int)<(tl.length:Int):=by omega
   have I1:=dJ (CA.out rfl);have I2:=dJ (CM.out rfl);have I3:=dJ (CP.out rfl);have I4:=dJ (CR.out rfl);have I5:=dJ (CN.out rfl);clear CA CM CP CR CN;by_cases he:E=0
   ·subst he;obtain⟨ae,I6⟩:=I3.out rfl;have ab:=dJ ae;have J3:=dJ I6;have J5:=dJ (I5.out rfl);clear I3 I5 ae I6;by_cases hr:R=0
    ·subst hr;have aa:=dJ (J5.out rfl);clear J5
     go_enter func10, ntmps10
     go_wp2_with (first|(go_at_call 11;refine(CL.out _ j.out).mono ?_;rintro e d ⟨rfl,p⟩;have l:Hid (Gr W d):=p;clear p;obtain⟨l0,l1,l2,l3,l4,l5⟩:=m.out d l.out)|(go_at_call 20;(with_reducible refine(I1.out _ (j.out.trans l.out)).mono ?_);rintro e M ⟨⟨A2,c2,D2,af,rfl,Y⟩,u⟩;have C:Hid (Gr W M):=l.out.trans u;have O2:=dJ Y;clear u Y;obtain⟨m0,m1,m2,m3,m4,m5⟩:=m.out M C.out)|(go_at_call 34;refine(J3.out _ (j.out.trans C.out)).mono ?_;rintro e B ⟨a1,J,a2,K,a3,L,rfl,U,Q⟩;have I:Hid (Gr W B):=C.out.trans Q;have P3:=dJ Q;clear Q;have n4:=fun o=>(m.out (B.alloc o) (I.out.alloc o)).2.2.2.2.1;have n5:=fun o=>(m.out (B.alloc o) (I.out.alloc o)).2.2.2.2.2)|(go_at_call 20;(with_reducible refine(I2.out F ab.out _ _ (U.out.gr ((wL B).alloc _)) (j.out.trans (I.out.alloc _))).mono ?_);rintro e w4 ⟨⟨A4,c4,D4,al,rfl,o4⟩,T⟩;have G4:Hid (Gr W w4):=(I.out.alloc _).trans T;have P4:=dJ (((wL B).alloc _).trans T);have O4:=dJ o4;clear T o4)|(go_at_call 27;(with_reducible refine(kz (O2.out.frs (FrS.of_gr (S:=fun _=>False) (P3.out.trans P4.out)) (fun _ _ q=>q) (fun _ _ q=>q)) O4.out rfl X O.out).mono ?_);rintro e w5 ⟨rfl,g5⟩;have N:Hid (Gr W w5):=G4.out.trans g5;have P5:=dJ (P3.out.trans (P4.out.trans g5));clear g5;obtain⟨q0,q1,q2,q3,q4,q5⟩:=m.out w5 N.out)|(go_at_call 35;refine(I4.out _ (j.out.trans N.out)).mono ?_;rintro e w6 h6;obtain⟨b1,ag,b2,ah,b3,ai,rfl,aj,g6⟩:=h6.out aa.out.len;clear h6;have G6:Hid (Gr W w6):=N.out.trans g6;have P6:=dJ (P5.out.trans g6);clear g6;have r4:=fun o=>(m.out (w6.alloc o) (G6.out.alloc o)).2.2.2.2.1;have r5:=fun o=>(m.out (w6.alloc o) (G6.out.alloc o)).2.2.2.2.2)|(go_at_call 20;(with_reducible refine(I2.out G aa.out _ _ (aj.out.gr ((wL w6).alloc _)) (j.out.trans (G6.out.alloc _))).mono ?_);rintro e w7 ⟨⟨A7,c7,D7,ap,rfl,o7⟩,g7⟩;have G7:Hid (Gr W w7):=(G6.out.alloc _).trans g7;have P7:=dJ (P6.out.trans (((wL w6).alloc _).trans g7));have O7:=dJ o7;clear g7 o7)|(go_at_call 27;(with_reducible refine(kz (O2.out.frs (FrS.of_gr (S:=fun _=>False) P7.out) (fun _ _ q=>q) (fun _ _ q=>q)) O7.out rfl X O.out).mono ?_);rintro e w8 ⟨rfl,g8⟩;have G8:Hid (Gr W w8):=G7.out.trans g8;clear g8)|(go_at_call 12;refine(y.out _).mono ?_;rintro e w9 ⟨rfl,g9⟩))
     go_ret;exact⟨rfl,(j.out.trans G8.out).trans g9⟩
    ·have ao:¬R=0:=hr;clear J5
     go_enter func10, ntmps10
     go_wp2_with (first|(go_at_call 11;refine(CL.out _ j.out).mono ?_;rintro e d ⟨rfl,p⟩;have l:Hid (Gr W d):=p;clear p;obtain⟨l0,l1,l2,l3,l4,l5⟩:=m.out d l.out)|(go_at_call 20;(with_reducible refine(I1.out _ (j.out.trans l.out)).mono ?_);rintro e M ⟨⟨A2,c2,D2,af,rfl,Y⟩,u⟩;have C:Hid (Gr W M):=l.out.trans u;have O2:=dJ Y;clear u Y;obtain⟨m0,m1,m2,m3,m4,m5⟩:=m.out M C.out)|(go_at_call 34;refine(J3.out _ (j.out.trans C.out)).mono ?_;rintro e B ⟨a1,J,a2,K,a3,L,rfl,U,Q⟩;have I:Hid (Gr W B):=C.out.trans Q;have P3:=dJ Q;clear Q;have n4:=fun o=>(m.out (B.alloc o) (I.out.alloc o)).2.2.2.2.1;have n5:=fun o=>(m.out (B.alloc o) (I.out.alloc o)).2.2.2.2.2)|(go_at_call 20;(with_reducible refine(I2.out F ab.out _ _ (U.out.gr ((wL B).alloc _)) (j.out.trans (I.out.alloc _))).mono ?_);rintro e w4 ⟨⟨A4,c4,D4,al,rfl,o4⟩,T⟩;have G4:Hid (Gr W w4):=(I.out.alloc _).trans T;have P4:=dJ (((wL B).alloc _).trans T);have O4:=dJ o4;clear T o4)|(go_at_call 27;(with_reducible refine(kz (O2.out.frs (FrS.of_gr (S:=fun _=>False) (P3.out.trans P4.out)) (fun _ _ q=>q) (fun _ _ q=>q)) O4.out rfl X O.out).mono ?_);rintro e w5 ⟨rfl,g5⟩;have N:Hid (Gr W w5):=G4.out.trans g5;clear g5;obtain⟨q0,q1,q2,q3,q4,q5⟩:=m.out w5 N.out)|(go_at_call 35;refine(I4.out _ (j.out.trans N.out)).mono ?_;rintro e w6 h6;obtain⟨b1,ag,b2,ah,b3,ai,rfl,-,g6⟩:=h6;have G6:Hid (Gr W w6):=N.out.trans g6;clear g6)|(go_at_call 12;refine(y.out _).mono ?_;rintro e w9 ⟨rfl,g9⟩))
     go_ret;exact⟨rfl,(j.out.trans (G6.out.alloc _)).trans g9⟩
   ·clear I2 I3 I4 I5
    go_enter func10, ntmps10
    go_wp2_with (first|(go_at_call 11;refine(CL.out _ j.out).mono ?_;rintro e d ⟨rfl,p⟩;have l:Hid (Gr W d):=p;clear p;obtain⟨l0,l1,l2,l3,l4,l5⟩:=m.out d l.out)|(go_at_call 20;refine(I1.out _ (j.out.trans l.out)).mono ?_;rintro e M ⟨⟨A2,c2,D2,af,rfl,Y⟩,u⟩;have C:Hid (Gr W M):=l.out.trans u;clear u Y)|(go_at_call 12;refine(y.out _).mono ?_;rintro e w9 ⟨rfl,g9⟩))
    go_ret;exact⟨rfl,(j.out.trans C.out).trans g9⟩
  ·have ad:(100:Int)<(tl.length:Int):=by omega
   clear CA CM CP CR CN
   go_enter func10, ntmps10
   go_wp2_with (first|(go_at_call 11;refine(CL.out _ j.out).mono ?_;rintro e d ⟨rfl,p⟩;have l:Hid (Gr w d):=j.out.trans p;clear p)|(go_at_call 12;refine(y.out _).mono ?_;rintro e M ⟨rfl,u⟩))
   go_ret;exact⟨rfl,l.out.trans u⟩
end

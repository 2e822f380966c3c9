/- Parts. -/
import Derived.Test.YthfjdhanbegaoaaGreatDoorT41
set_option linter.unusedSimpArgs false
set_option linter.unusedVariables false
set_option maxRecDepth 100000
set_option maxHeartbeats 16000000
open Go.Proofs.Tryz
namespace Go.Proofs.YthfjdhanbegaoaaGreatDoor
open Go.RowKit
theorem fo {n₀:Nat}{w:World}{v:Value}{ws:List (List UInt8)}(h:WordsF n₀ w v ws):∃A c,v=.slice A ws.length c/\WordsIn w (.slice A ws.length c) ws:=by have d:=h.words;obtain⟨A,c,rfl,-⟩:=h;exact⟨A,c,rfl,d⟩
theorem kD (s:List UInt8)(hs:s.length<=80000)(w:World)(ht:TabW w) :
  Calls prog 24 #[.string (bs s)] w (RG (.tuple #[.int .i64 (Tx.countS s).1,.int .i64 (Tx.countS s).2]) w):=by
 obtain⟨r,j⟩:=xJ (Tx.readP s);rw[gd j];have l:=gv hs j ht;have t:Hid (∀g,Calls prog 37 #[.string (bs s),.int .u8 10] g fun e w'=>∃v,e=.returned v/\Hid (WordsF g.heap.size w' v (Tx.cutS 10 s))/\Gr g w'):=fun g=>eJ 10 10 rfl s (by omega) g;have E:=fd j
 cases r with
 | none =>
  simp only[Option.getD_none,Option.isSome_none,Bool.false_eq_true,if_false]at l;have m:Hid (((dV none).length:Int)=0/\dU none=2):=dJ ⟨rfl,rfl⟩;rw[m.out.1,m.out.2];obtain⟨f,I⟩:=xJ Tx.fn0;rw[I]at l;clear ht j E t
  go_enter func24, ntmps24
  go_wp2_with (go_at_call 16;refine(l.out _ (qj _)).mono ?_;rintro e g ⟨y,C,z,D,u,B,rfl,-,g1⟩;have q:=dJ g1;clear g1);go_ret2;exact⟨rfl,q.out.alloc _⟩
 | some f =>
  simp only[Option.getD_some,Option.isSome_some,if_true]at l;obtain⟨K,d⟩:=xJ (Tx.cutS 10 s);obtain⟨n,p⟩:=xJ ((dV (some f)).length);have F:K.length=n+1:=by rw[<-d,Tx.cut_of j,pT,<-p];rfl
  have m:Hid (dU (some f)=0):=dJ rfl;rw[m.out,p];rw[d]at t;rw[p]at E;clear ht j d p
  go_enter func24, ntmps24
  go_wp2_with (first|(go_at_call 16;refine(l.out _ (qj _)).mono ?_;rintro e g ⟨y,C,z,D,u,B,rfl,-,g1⟩;have q:=dJ (g1.alloc (.cells #[.slice y f.params.length C,.int .i64 f.ret,.slice z f.slots.length D,.slice u f.blocks.length B] 25));clear g1)|(go_at_call 37;refine(t.out _).mono ?_;rintro e L ⟨v,rfl,H,g2⟩;have G:=dJ (q.out.trans g2);obtain⟨A,c,J,-⟩:=fo H.out;subst J;clear g2))
  go_ret2;exact⟨by simp,G.out⟩
def oy (s t:List UInt8):Int × Bool:=if s=t then (0,false) else Tx.diffR (Tx.cutS 10 s) (Tx.cutS 10 t) 0
theorem lw {s t:List UInt8}{r q:Option Fn}(h:Tx.readP s=r)(h':Tx.readP t=q):Tx.differS s t=if dU r=0/\dU q=0 then ((oy s t).1,(oy s t).2,0) else (0,false,2):=by
 unfold Tx.differS oy;rw[h,h']
 cases r with
 | none=>rw[pC (by simp[dU])]
 | some f =>
  cases q with
  | none=>rw[pC (by simp[dU])]
  | some g =>
   rw[pB (by simp[dU])];by_cases e:s=t
   ·subst e;have:=Tx.differ_eq h h';simp only[this,if_true]
   ·have:=(Tx.differ_ne h h' e).1;simp only[pC e,this]
theorem kj {a b:List (List UInt8)}{i:Nat}{x y:List UInt8}(h1:a[i]?=some x)(h2:b[i]?=some y):Tx.diffR (a.drop i) (b.drop i) i=if x=y then Tx.diffR (a.drop (i+1)) (b.drop (i+1)) (i+1) else ((i:Int),true):=by rw[fF h1,fF h2,Tx.diffR]
theorem iK {a b:List (List UInt8)}{i:Nat}(h:a.length<=i\/b.length<=i):Tx.diffR (a.drop i) (b.drop i) i=(0,false):=by
 rcases h with h|h
 ·rw[pt h];simp[Tx.diffR]
 ·rw[pt h];cases a.drop i<;>simp[Tx.diffR]
theorem gu (s t:List UInt8)(hs:s.length<=80000)(hq:t.length<=80000)(w:World)(ht:TabW w) :
  Calls prog 22 #[.string (bs s),.string (bs t)] w (RG (.tuple #[.int .i64 (Tx.differS s t).1,.bool (Tx.differS s t).2.1,.int .i64 (Tx.differS s t).2.2]) w):=by
 obtain⟨r,hr⟩:=xJ (Tx.readP s);obtain⟨q,Z⟩:=xJ (Tx.readP t);rw[lw hr Z];have HS:Hid (∀d,Gr w d->Calls prog 16 #[.string (bs s)] d fun e w'=>ff d w' (r.getD Tx.fn0) (dU r) e):=gv hs hr ht;have J:Hid (∀d,Gr w d->Calls prog 16 #[.string (bs t)] d fun e w'=>ff d w' (q.getD Tx.fn0) (dU q) e):=gv hq Z ht;have HC:Hid (∀d,Calls prog 37 #[.string (bs s),.int .u8 10] d fun e w'=>∃v,e=.returned v/\Hid (WordsF d.heap.size w' v (Tx.cutS 10 s))/\Gr d w'):=fun d=>eJ 10 10 rfl s (by omega) d;have I:Hid (∀d,Calls prog 37 #[.string (bs t),.int .u8 10] d fun e w'=>∃v,e=.returned v/\Hid (WordsF d.heap.size w' v (Tx.cutS 10 t))/\Gr d w'):=fun d=>eJ 10 10 rfl t (by omega) d;have hl:=Tx.cutS_len 10 s;have ag:=Tx.cutS_len 10 t;obtain⟨f,hf⟩:=xJ (r.getD Tx.fn0);obtain⟨g,hg⟩:=xJ (q.getD Tx.fn0);obtain⟨E,hE⟩:=xJ (dU r);obtain⟨E',X⟩:=xJ (dU q);have y:Hid (oy s t=if s=t then (0,false) else Tx.diffR (Tx.cutS 10 s) (Tx.cutS 10 t) 0):=dJ rfl;obtain⟨k,hk⟩:=xJ (Tx.cutS 10 s);obtain⟨l,Y⟩:=xJ (Tx.cutS 10 t);obtain⟨R,hR⟩:=xJ (oy s t);rw[hf,hE]at HS;rw[hg,X]at J;rw[hk]at HC hl;rw[Y]at I ag;rw[hk,Y,hR]at y;rw[hE,X,hR];clear ht hr Z hE X hk Y hf hg hR;obtain⟨n,hn⟩:=xJ k.length;obtain⟨m,hm⟩:=xJ l.length;rw[hn]at hl;rw[hm]at ag;have HN:=dJ hn;have HM:=dJ hm;have K:=True.intro;by_cases h0:E=0
 ·by_cases h1:E'=0
  ·rw[pB ⟨h0,h1⟩];subst h0 h1;by_cases G:s=t
   ·have L:Hid (R=(0,false)):=dJ (by rw[y.out,pB G]);have e1:=dZ G;clear HC I y G hn hm
    go_enter func22, ntmps22
    go_wp2_with (first|(have _t:=K;go_at_call 16;(with_reducible refine(HS.out _ (qj _)).mono ?_);rintro e d ⟨O,V,Q,W,N,U,rfl,-,g1⟩;have H:=dJ (g1.alloc (.cells #[.slice O f.params.length V,.int .i64 f.ret,.slice Q f.slots.length W,.slice N f.blocks.length U] 25));clear g1 K _t)|(go_at_call 16;(with_reducible refine(J.out _ H.out).mono ?_);rintro e w2 ⟨p,B,u,C,j,z,rfl,-,g2⟩;have T:=dJ ((H.out.trans g2).alloc (.cells #[.slice p g.params.length B,.int .i64 g.ret,.slice u g.slots.length C,.slice j g.blocks.length z] 25));clear g2))
    go_ret3
    exact⟨by rw[L.out];rfl,T.out⟩
   ·have ak:Hid (Tx.diffR k l 0=R):=dJ (by rw[y.out,pC G]);have e1:=eW G;clear y G hn hm
    go_enter func22, ntmps22
    go_wp2_with (first|(have _t:=K;go_at_call 16;(with_reducible refine(HS.out _ (qj _)).mono ?_);rintro e d ⟨O,V,Q,W,N,U,rfl,-,g1⟩;have H:=dJ (g1.alloc (.cells #[.slice O f.params.length V,.int .i64 f.ret,.slice Q f.slots.length W,.slice N f.blocks.length U] 25));clear g1 K _t)|(go_at_call 16;(with_reducible refine(J.out _ H.out).mono ?_);rintro e w2 ⟨p,B,u,C,j,z,rfl,-,g2⟩;have T:=dJ ((H.out.trans g2).alloc (.cells #[.slice p g.params.length B,.int .i64 g.ret,.slice u g.slots.length C,.slice j g.blocks.length z] 25));have K:=True.intro;clear g2)|(have _t:=K;go_at_call 37;(with_reducible refine(HC.out _).mono ?_);rintro e w3 ⟨v3,rfl,ac,g3⟩;have G3:=dJ (T.out.trans g3);obtain⟨A,c,al,ah⟩:=fo ac.out;subst al;have aa:=dJ ah;clear g3 ah K _t)|(go_at_call 37;(with_reducible refine(I.out _).mono ?_);rintro e w4 ⟨v4,rfl,ad,g4⟩;have aj:=dJ g4;have G4:=dJ (G3.out.trans g4);obtain⟨A2,c2,am,ai⟩:=fo ad.out;subst am;have ab:=dJ ai;clear g4 ai))
    rw[HN.out,HM.out];rw[HN.out]at aa;rw[HM.out]at ab;clear ac ad
    go_loopw [13] (fun an wr=>∃i:Nat,i<=n/\an=.int .i64 i/\Hid (Tx.diffR (k.drop i) (l.drop i) i=R)/\Hid (Gr w4 wr)) (fun i _=>n-(intOf i).toNat)
    case atStart=>exact⟨0,pR _,rfl,ak,qj _⟩
    case round =>
     obtain⟨i,hi,rfl,HI,D⟩:=hrel;by_cases af:i<n
     ·by_cases ae:i<m
      ·obtain⟨a,ha⟩:∃a,k[i]?=some a:=⟨_,oY (by have:=HN.out;omega)⟩;obtain⟨b,hb⟩:∃a,l[i]?=some a:=⟨_,oY (by have:=HM.out;omega)⟩;have M:Hid ((if a=b then Tx.diffR (k.drop (i+1)) (l.drop (i+1)) (i+1) else ((i:Int),true))=R):=dJ (by rw[<-HI.out,kj ha hb]);obtain⟨b1,o1,e1,x1⟩:=eX aa.out (aj.out.trans D.out) ha;obtain⟨b2,o2,e2,x2⟩:=eX ab.out D.out hb;subst e1;subst e2;clear ha hb HI;by_cases F:a=b
       ·have L:Hid (Tx.diffR (k.drop (i+1)) (l.drop (i+1)) (i+1)=R):=dJ (by rw[<-M.out,pB F]);have e1:=dZ F;clear F M;go_wp2;go_quiet (fail);all_goals go_wp2
        all_goals exact⟨⟨i+1,by omega,by go_num,L,D.out.drewN _⟩,by simp[intOf]<;>omega⟩
       ·have L:Hid (R=((i:Int),true)):=dJ (by rw[<-M.out,pC F]);have e1:=eW F;clear F M;go_wp2;go_quiet (fail);all_goals go_wp2
        all_goals go_ret3
        all_goals exact⟨by rw[L.out];rfl,G4.out.trans (D.out.drewN _)⟩
      ·have L:Hid (R=(0,false)):=dJ (by rw[<-HI.out,iK (.inr (by have:=HM.out;omega))]);have hd:decide (i<m)=false:=by simpa using ae
       clear HI ae;go_wp2
       go_ret3
       exact⟨by rw[L.out];rfl,G4.out.trans D.out⟩
     ·have L:Hid (R=(0,false)):=dJ (by rw[<-HI.out,iK (.inl (by have:=HN.out;omega))]);have hd:decide (i<n)=false:=by simpa using af
      clear HI af;go_wp2
      go_ret3
      exact⟨by rw[L.out];rfl,G4.out.trans D.out⟩
  ·rw[pC fun x=>h1 x.2];have c1:(E' != 0)=true:=by simpa using h1
   subst h0;clear h1 HC I y hn hm
   go_enter func22, ntmps22
   go_wp2_with (first|(have _t:=K;go_at_call 16;(with_reducible refine(HS.out _ (qj _)).mono ?_);rintro e d ⟨O,V,Q,W,N,U,rfl,-,g1⟩;have H:=dJ (g1.alloc (.cells #[.slice O f.params.length V,.int .i64 f.ret,.slice Q f.slots.length W,.slice N f.blocks.length U] 25));clear g1 K _t)|(go_at_call 16;(with_reducible refine(J.out _ H.out).mono ?_);rintro e w2 ⟨p,B,u,C,j,z,rfl,-,g2⟩;have T:=dJ ((H.out.trans g2).alloc (.cells #[.slice p g.params.length B,.int .i64 g.ret,.slice u g.slots.length C,.slice j g.blocks.length z] 25));clear g2))
   go_ret3
   exact⟨rfl,T.out⟩
 ·rw[pC fun x=>h0 x.1];have c1:(E != 0)=true:=by simpa using h0
  clear h0 HC I y hn hm
  go_enter func22, ntmps22
  go_wp2_with (first|(have _t:=K;go_at_call 16;(with_reducible refine(HS.out _ (qj _)).mono ?_);rintro e d ⟨O,V,Q,W,N,U,rfl,-,g1⟩;have H:=dJ (g1.alloc (.cells #[.slice O f.params.length V,.int .i64 f.ret,.slice Q f.slots.length W,.slice N f.blocks.length U] 25));clear g1 K _t)|(go_at_call 16;(with_reducible refine(J.out _ H.out).mono ?_);rintro e w2 ⟨p,B,u,C,j,z,rfl,-,g2⟩;have T:=dJ ((H.out.trans g2).alloc (.cells #[.slice p g.params.length B,.int .i64 g.ret,.slice u g.slots.length C,.slice j g.blocks.length z] 25));clear g2))
  go_ret3
  exact⟨rfl,T.out⟩
theorem lawTextNames_any (op:Int)(nm:List UInt8)(w:World)(ht:TabW w) :
  Calls prog 6 #[.int .i64 op,.string (bs nm)] w (RG (.bool true) w):=by
 have K:=eG ht;have z:Hid (∀g,Calls prog 17 #[.int .i64 op] g (RG (.tuple #[.string (bs (nameR op).1),.int .i64 (nameR op).2]) g)):=mQ op;have l:Hid (∀g,Calls prog 18 #[.int .i64 op] g (RG (.tuple #[.string (bs (nameR op).1),.int .i64 (nameR op).2]) g)):=mg op;have H:Hid (∀g,Calls prog 19 #[.string (bs nm)] g (RG (.tuple #[.int .i64 (Tx.opOf nm).1,.int .i64 (ew nm)]) g)):=ix nm;have m:Hid (∀g,Calls prog 20 #[.string (bs nm)] g (RG (.tuple #[.int .i64 (Tx.opOf nm).1,.int .i64 (ew nm)]) g)):=mh nm;have r:Hid (∀g,Calls prog 19 #[.string (bs (nameR op).1)] g (RG (.tuple #[.int .i64 (Tx.opOf (nameR op).1).1,.int .i64 (ew (nameR op).1)]) g)):=ix _
 have y:Hid ((nameR op).2=0->Tx.opOf (nameR op).1=(op,false)):=dJ fun h=>by
  unfold nameR at h ⊢;by_cases q:op<0\/32<op
  ·rw[pB q]at h;cases h
  ·rw[pC q];exact Tx.opOf_name ⟨by omega,by omega⟩
 have j:Hid (ew (nameR op).1=if (Tx.opOf (nameR op).1).2=true then 4 else 0):=dJ rfl;obtain⟨R,L⟩:=xJ (nameR op);rw[L]at z l r y j;obtain⟨S,E⟩:=R;obtain⟨c,M⟩:=xJ ((Tx.opOf nm).1);obtain⟨d,hd⟩:=xJ (ew nm);rw[M,hd]at H m;obtain⟨n,A⟩:=xJ ((Tx.opOf S).1);obtain⟨i,J⟩:=xJ (ew S);simp only at z l r y j;rw[J]at j;rw[A,J]at r;have Y:=dZ (rfl:S=S)
 have G:Hid (E=0->n=op/\i=0):=dJ fun h=>by have:=y.out h;rw[this]at A j;exact⟨A.symm,j.out⟩
 clear L M hd A J ht y j;by_cases h0:E=0
 ·obtain⟨N,O⟩:=G.out h0;subst h0 N O;clear G;have u:=True.intro
  go_enter func6, ntmps6
  go_wp2_with (first|(go_at_call 17;refine(z.out _).mono ?_;rintro e g ⟨rfl,g1⟩;have B:=dJ g1;clear g1)|(go_at_call 18;refine(l.out _).mono ?_;rintro e Q ⟨rfl,g2⟩;have C:=dJ (B.out.trans g2);clear g2)|(have _t:=u;go_at_call 19;(with_reducible refine(H.out _).mono ?_);rintro e T ⟨rfl,g3⟩;have D:=dJ (C.out.trans g3);clear g3 u _t)|(go_at_call 20;refine(m.out _).mono ?_;rintro e U ⟨rfl,g4⟩;have F:=dJ (D.out.trans g4);clear g4)|(go_at_call 19;(with_reducible refine(r.out _).mono ?_);rintro e V ⟨rfl,t⟩;have p:=dJ (F.out.trans t);clear t)|(go_at_call 11;refine(K.out _ p.out).mono ?_;rintro e W ⟨rfl,I⟩))
  go_ret;exact⟨rfl,p.out.trans I⟩
 ·have X:(E != 0)=true:=by simpa using h0
  clear G h0;have u:=True.intro
  go_enter func6, ntmps6
  go_wp2_with (first|(go_at_call 17;refine(z.out _).mono ?_;rintro e g ⟨rfl,g1⟩;have B:=dJ g1;clear g1)|(go_at_call 18;refine(l.out _).mono ?_;rintro e Q ⟨rfl,g2⟩;have C:=dJ (B.out.trans g2);clear g2)|(have _t:=u;go_at_call 19;(with_reducible refine(H.out _).mono ?_);rintro e T ⟨rfl,g3⟩;have D:=dJ (C.out.trans g3);clear g3 u _t)|(go_at_call 20;refine(m.out _).mono ?_;rintro e U ⟨rfl,g4⟩;have F:=dJ (D.out.trans g4);clear g4)|(go_at_call 19;(with_reducible refine(r.out _).mono ?_);rintro e V ⟨rfl,t⟩;have p:=dJ (F.out.trans t);clear t)|(go_at_call 11;refine(K.out _ p.out).mono ?_;rintro e W ⟨rfl,I⟩))
  go_ret;exact⟨rfl,p.out.trans I⟩
theorem lawTextCounts_any (s t:List UInt8)(w:World)(ht:TabW w) :
  Calls prog 8 #[.string (bs s),.string (bs t)] w (RG (.bool true) w):=by
 have p:=eG ht;have G:((bs s).size:Int)=(s.length:Int):=by rw[dv]
 have H:((bs t).size:Int)=(t.length:Int):=by rw[dv]
 by_cases y:s.length<=2000/\t.length<=2000
 ·have q:Hid (∀d,Gr w d->Calls prog 23 #[.string (bs s)] d (RG (.tuple #[.int .i64 (Tx.countS s).1,.int .i64 (Tx.countS s).2]) d)):=dJ fun d g=>gT s (by omega) d (ht.gr g);have l:Hid (∀d,Gr w d->Calls prog 24 #[.string (bs s)] d (RG (.tuple #[.int .i64 (Tx.countS s).1,.int .i64 (Tx.countS s).2]) d)):=dJ fun d g=>kD s (by omega) d (ht.gr g);have m:Hid (∀d,Gr w d->Calls prog 21 #[.string (bs s),.string (bs t)] d (RG (.tuple #[.int .i64 (Tx.differS s t).1,.bool (Tx.differS s t).2.1,.int .i64 (Tx.differS s t).2.2]) d)):=dJ fun d g=>gt s t (by omega) (by omega) d (ht.gr g);have j:Hid (∀d,Gr w d->Calls prog 22 #[.string (bs s),.string (bs t)] d (RG (.tuple #[.int .i64 (Tx.differS s t).1,.bool (Tx.differS s t).2.1,.int .i64 (Tx.differS s t).2.2]) d)):=dJ fun d g=>gu s t (by omega) (by omega) d (ht.gr g);obtain⟨⟨a,e⟩,D⟩:∃R,Tx.countS s=R:=⟨_,rfl⟩;obtain⟨⟨c,b,g⟩,E⟩:∃R,Tx.differS s t=R:=⟨_,rfl⟩;rw[D]at q l;rw[E]at m j;simp only at q l m j;have u:(s.length:Int)<=2000:=by omega
  have Q:(t.length:Int)<=2000:=by omega
  have K:(a == a)=true:=by simp
  have L:(e == e)=true:=by simp
  have M:(c == c)=true:=by simp
  have N:(b == b)=true:=by simp
  have O:(g == g)=true:=by simp
  clear D E ht y
  go_enter func8, ntmps8
  go_wp2_with (first|(go_at_call 23;refine(q.out _ (qj _)).mono ?_;rintro e d ⟨rfl,g1⟩;have z:=dJ g1;clear g1)|(go_at_call 24;refine(l.out _ z.out).mono ?_;rintro e U ⟨rfl,g2⟩;have A:=dJ (z.out.trans g2);clear g2)|(go_at_call 21;refine(m.out _ A.out).mono ?_;rintro e V ⟨rfl,g3⟩;have B:=dJ (A.out.trans g3);clear g3)|(go_at_call 22;refine(j.out _ B.out).mono ?_;rintro e W ⟨rfl,g4⟩;have C:=dJ (B.out.trans g4);clear g4)|(go_at_call 11;refine(p.out _ C.out).mono ?_;rintro e X ⟨rfl,F⟩))
  go_ret;exact⟨rfl,C.out.trans F⟩
 ·by_cases u:s.length<=2000
  ·have I:(s.length:Int)<=2000:=by omega
   have T:(2000:Int)<(t.length:Int):=by omega
   clear ht y u
   go_enter func8, ntmps8
   go_wp2_with (go_at_call 11;refine(p.out _ (qj _)).mono ?_;rintro e J ⟨rfl,r⟩);go_ret;exact⟨rfl,r⟩
  ·have I:(2000:Int)<(s.length:Int):=by omega
   clear ht y u
   go_enter func8, ntmps8
   go_wp2_with (go_at_call 11;refine(p.out _ (qj _)).mono ?_;rintro e J ⟨rfl,r⟩);go_ret;exact⟨rfl,r⟩

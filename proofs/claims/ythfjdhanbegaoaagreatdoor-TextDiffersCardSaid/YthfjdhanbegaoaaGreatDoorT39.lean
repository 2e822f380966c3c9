/- Parts. -/
import Derived.Test.YthfjdhanbegaoaaGreatDoorT38
set_option linter.unusedSimpArgs false
set_option linter.unusedVariables false
set_option maxRecDepth 100000
set_option maxHeartbeats 16000000
open Go.Proofs.Tryz
namespace Go.Proofs.YthfjdhanbegaoaaGreatDoor
open Go.RowKit
def nI (ls:List (List UInt8))(ns:List Int)(v:Int):List UInt8 × Int:=match Tx.findL ls ns v with
 | some s=>(s,0)
 | none=>([],4)
theorem lC {ls:List (List UInt8)}{ns:List Int}{k:Nat}{z:List UInt8}{m:Int}(v:Int)(h1:ls[k]?=some z)(h2:ns[k]?=some m):nI (ls.drop k) (ns.drop k) v=if m=v/\0<=v then (z,0) else nI (ls.drop (k+1)) (ns.drop (k+1)) v:=by
 obtain⟨j,d⟩:=oZ.1 h1;obtain⟨l,g⟩:=oZ.1 h2;rw[po j,po l,d,g];unfold nI;rw[Tx.findL];by_cases h:m=v/\0<=v
 ·rw[pB h,pB h]
 ·rw[pC h,pC h]
theorem eX {w w':World}{A:Option Addr}{n c:Nat}{ws:List (List UInt8)}(h:WordsIn w (.slice A n c) ws)(g:Gr w w'){k:Nat}{z:List UInt8}(hk:ws[k]?=some z):∃b off,A=some ⟨b,off,none⟩/\w'.cell? ⟨b,off+k,none⟩=some (.string (bs z)):=by obtain⟨t,d,e,B,C,m⟩:=h;injection e with l u y;subst l;have r:=(oZ.1 hk).1;obtain⟨b,off,j,q,p⟩:=m (by omega);exact⟨b,off,j,(g.cell _ _ q).trans (p k z hk)⟩
theorem mf (vf:Value)(f:Fn)(v:Int)(w:World)(hf:FnAt w.heap.size w vf f)(hn:ia f)(hi:Tx.Im f)(ht:TabW w) :
  Calls prog 26 #[vf,.int .i64 v] w (RG (.tuple #[.string (bs (Tx.lineOf f v).1),.int .i64 (Tx.lineOf f v).2]) w):=by
 have O:Hid (∀d,Gr w d->Calls prog 30 #[vf] d (RG (.int .i64 (Ref.validate f)) d)):=fun d q=>gA vf f d (hf.gr q) hn;have D:Hid (Ref.validate f=0->∀d,Gr w d->Calls prog 47 #[vf] d fun e w'=>∃v' vn,e=.returned (.tuple #[v',vn])/\Hid (WordsIn w' v' (Tx.linesS f)/\IntsAt w'.heap.size w' vn (Tx.numsL f))/\Gr d w'):=fun h d q=>hG vf f d (hf.gr q) h hi (ht.gr q);have g:Hid (Ref.validate f=0->Tx.lineOf f v=nI (Tx.linesS f) (Tx.numsL f) v):=dJ fun h=>Tx.find_line h v;have l:Hid (Ref.validate f≠0->Tx.lineOf f v=([],Ref.validate f)):=dJ fun h=>by unfold Tx.lineOf;rw[pC h]
 have p:Hid (Ref.validate f=0->(Tx.linesS f).length<=51/\(Tx.numsL f).length=(Tx.linesS f).length):=dJ fun h=>⟨by have:=Tx.linesS_len f;have:=((Ref.val_iff f).1 h).size;omega,Tx.numsL_len f⟩;obtain⟨B,H⟩:=xJ (Tx.linesS f);obtain⟨J,I⟩:=xJ (Tx.numsL f);obtain⟨R,hR⟩:=xJ (Tx.lineOf f v);rw[H,I]at D g p;rw[hR]at g l ⊢;obtain⟨vp,vs,vb,rfl,V,X,U⟩:=hf;obtain⟨Ap,cp,rfl,ad,-,-⟩:=V;obtain⟨As,cs,rfl,ae,-,-⟩:=X;obtain⟨Ab,cb,rfl,ac,-,-⟩:=U;obtain⟨W,hW,L,KP⟩:=dz w (.slice Ap f.params.length cp) (.int .i64 f.ret) (.slice As f.slots.length cs) (.slice Ab f.blocks.length cb);obtain⟨k0,k1,k2,k3⟩:=KP.out W (qj _);obtain⟨e,he⟩:=xJ (Ref.validate f);rw[he]at O D g l p;clear he hi ht hn H I hR;by_cases h0:e=0
 ·have N:=dJ (D.out h0);have C:=dJ (g.out h0);obtain⟨Y,y⟩:=p.out h0;subst h0;clear D g l p
  go_enter func26, ntmps26
  go_wp2_with (first|(go_at_call 30;refine(O.out _ L.out).mono ?_;rintro e d ⟨rfl,g1⟩;have K:=dJ (L.out.trans g1);obtain⟨q0,q1,q2,q3⟩:=KP.out d g1;clear g1)|(go_at_call 47;refine(N.out _ K.out).mono ?_;rintro e w2 ⟨v',vn,rfl,r,g2⟩;have G2:=dJ (K.out.trans g2);have F:=dJ r.out.1;have E:=dJ r.out.2;obtain⟨A1,c1,aa,Q,-,-⟩:=id r.out.1;subst aa;obtain⟨A2,c2,ab,T,-,-⟩:=id r.out.2;subst ab;clear g2 r))
  clear q0 q1 q2 q3 k0 k1 k2 k3;obtain⟨n,A⟩:=xJ B.length;rw[A]at Q Y y ⊢;rw[y]at T;rw[A]at F;rw[y]at E
  go_loop [9] (fun s9=>∃k:Nat,k<=n/\s9=.int .i64 k/\Hid (R=nI (B.drop k) (J.drop k) v)) (fun i=>n-(intOf i).toNat)
  case atStart=>exact⟨0,pR _,rfl,C⟩
  case round =>
   obtain⟨k,hk,rfl,M⟩:=hrel;by_cases Z:k<n
   ·obtain⟨z,hz⟩:∃z,B[k]?=some z:=⟨_,oY (by omega)⟩;obtain⟨m,hm⟩:∃m,J[k]?=some m:=⟨_,oY (by omega)⟩;have j:Hid (R=if m=v/\0<=v then (z,0) else nI (B.drop (k+1)) (J.drop (k+1)) v):=dJ (by rw[M.out,lC v hz hm]);obtain⟨b1,o1,e1,x1⟩:=eX F.out (qj _) hz;obtain⟨b2,o2,e2,x2⟩:=ek E.out (qj _) hm;subst e1;subst e2;clear hz hm M;by_cases t:m=v
    ·subst t;by_cases h0:0<=m
     ·have u:Hid (R=(z,0)):=dJ (by rw[j.out,pB ⟨rfl,h0⟩]);rw[u.out];clear j;go_wp2;go_ret2;exact⟨rfl,G2.out⟩
     ·have u:Hid (R=nI (B.drop (k+1)) (J.drop (k+1)) m):=dJ (by rw[j.out,pC fun q=>h0 q.2]);clear j;go_wp2;go_round;case rel=>exact⟨k+1,by omega,rfl,u⟩
      case measure=>simp[intOf]<;>omega
    ·have u:Hid (R=nI (B.drop (k+1)) (J.drop (k+1)) v):=dJ (by rw[j.out,pC fun q=>t q.1]);have e1:(m == v)=false:=by simpa using t
     clear j t;go_wp2;go_round;case rel=>exact⟨k+1,by omega,rfl,u⟩
     case measure=>simp[intOf]<;>omega
   ·have G:k=n:=by omega
    have u:Hid (R=([],4)):=dJ (by rw[M.out,G,<-A,List.drop_length];rfl);have hd:decide (k<n)=false:=by simpa using Z
    clear G;go_wp2;go_ret2;exact⟨by rw[u.out];rfl,G2.out⟩
 ·have HE:=dJ (l.out h0);rw[HE.out];have c1:(e != 0)=true:=by simpa using h0
  clear D g l p h0 HE
  go_enter func26, ntmps26
  go_wp2_with (go_at_call 30;refine(O.out _ L.out).mono ?_;rintro e d ⟨rfl,g1⟩;have K:=dJ (L.out.trans g1);clear g1);go_ret2;exact⟨rfl,K.out⟩
def ff (w w':World)(f:Fn)(E:Int)(e:Ending):Prop:=∃Ap cp As cs Ab cb,e=.returned (.tuple #[.agg #[.slice Ap f.params.length cp,.int .i64 f.ret,.slice As f.slots.length cs,.slice Ab f.blocks.length cb],.int .i64 E])/\Hid (FnAt w'.heap.size w' (.agg #[.slice Ap f.params.length cp,.int .i64 f.ret,.slice As f.slots.length cs,.slice Ab f.blocks.length cb]) f)/\Gr w w'
theorem nJ {w w':World}{r:Option Fn}{e:Ending}(h:gL w w' r e):ff w w' (r.getD Tx.fn0) (if r.isSome=true then 0 else 2) e:=by obtain⟨v,rfl,g,u⟩:=h;have d:=g;obtain⟨C,D,B,rfl,z,A,y⟩:=g;obtain⟨l,q,rfl,-⟩:=z;obtain⟨m,t,rfl,-⟩:=A;obtain⟨j,p,rfl,-⟩:=y;exact⟨l,q,m,t,j,p,rfl,dJ d,u⟩
theorem fI {s:List UInt8}(hs:s.length<=80000){r:Option Fn}(hr:Tx.readP s=r){w:World}(ht:TabW w):Hid (∀w1,Gr w w1->Calls prog 14 #[.string (bs s)] w1 fun e w'=>ff w1 w' (r.getD Tx.fn0) (if r.isSome=true then 0 else 2) e):=dJ fun w1 g=>by subst hr;exact(kC s hs w1 (ht.gr g)).mono fun e w' h=>nJ h
theorem gv {s:List UInt8}(hs:s.length<=80000){r:Option Fn}(hr:Tx.readP s=r){w:World}(ht:TabW w):Hid (∀w1,Gr w w1->Calls prog 16 #[.string (bs s)] w1 fun e w'=>ff w1 w' (r.getD Tx.fn0) (if r.isSome=true then 0 else 2) e):=dJ fun w1 g=>by subst hr;rw[Tx.read_eq];exact(kE s hs w1 (ht.gr g)).mono fun e w' h=>nJ h
def dV (r:Option Fn):List (List UInt8):=match r with
 | some f=>Tx.linesS f
 | none=>[]
def dU (r:Option Fn):Int:=if r.isSome=true then 0 else 2
theorem fd {s:List UInt8}{r:Option Fn}(h:Tx.readP s=r):(dV r).length<=51:=by
 cases r with
 | none=>simp[dV]
 | some f =>
  have:=Tx.linesS_len f;have:=((Ref.val_iff f).1 (Tx.read_iff.1 h).1).size;show (Tx.linesS f).length<=51;omega
def fM (w w':World)(r:Option Fn)(e:Ending):Prop:=∃A c,e=.returned (.tuple #[.slice A (dV r).length c,.int .i64 (dU r)])/\Hid (WordsIn w' (.slice A (dV r).length c) (dV r))/\Gr w w'
theorem fJ {s:List UInt8}(hs:s.length<=80000){r:Option Fn}(hr:Tx.readP s=r)(w:World)(ht:TabW w) :
  Calls prog 43 #[.string (bs s)] w fun e w'=>fM w w' r e:=by
 have l:=fI hs hr ht;have H:=dJ ht
 cases r with
 | none =>
  simp only[Option.getD_none,Option.isSome_none,Bool.false_eq_true,if_false]at l;have p:Hid (∀w',Gr w w'->fM w w' none (.returned (.tuple #[.slice none 0 0,.int .i64 2]))):=dJ fun w' g=>⟨none,0,rfl,dJ ⟨none,0,rfl,by simp[dV],by simp[dV],fun h=>absurd h (by simp[dV])⟩,g⟩;obtain⟨f,N⟩:=xJ Tx.fn0;rw[N]at l;clear ht hr
  go_enter func43, ntmps43
  go_wp2_with (go_at_call 14;refine(l.out _ (qj _)).mono ?_;rintro e d ⟨y,C,z,D,u,B,rfl,-,g1⟩;have m:=dJ g1;clear g1);go_ret2;exact p.out _ (m.out.alloc _)
 | some f =>
  simp only[Option.getD_some,Option.isSome_some,if_true]at l;obtain⟨F,-,E⟩:=Tx.read_iff.1 hr;have G:Hid (∀(v:Value)(d:World),Gr w d->FnAt d.heap.size d v f->Calls prog 57 #[v] d fun e w'=>∃t,e=.returned t/\Hid (WordsIn w' t (Tx.linesS f))/\Gr d w'):=dJ fun v d g h=>gV v f d h F E (H.out.gr g)
  have p:Hid (∀v w',WordsIn w' v (Tx.linesS f)->Gr w w'->fM w w' (some f) (.returned (.tuple #[v,.int .i64 0]))):=dJ fun v w' h g=>by have L:=h;obtain⟨A,c,rfl,-⟩:=h;exact⟨A,c,rfl,dJ L,g⟩
  clear ht hr F E
  go_enter func43, ntmps43
  go_wp2_with (first|(go_at_call 14;refine(l.out _ (qj _)).mono ?_;rintro e d ⟨y,C,z,D,u,B,rfl,q,g1⟩;have m:=dJ g1;clear g1;obtain⟨K,M,j,J⟩:=dz d (.slice y f.params.length C) (.int .i64 f.ret) (.slice z f.slots.length D) (.slice u f.blocks.length B);obtain⟨O,Q,R,T⟩:=J.out K (qj _))|(go_at_call 57;refine(G.out _ _ (m.out.trans j.out) (q.out.gr j.out)).mono ?_;rintro e U ⟨t,rfl,I,g2⟩))
  go_ret2;exact p.out _ _ I.out (m.out.trans (j.out.trans g2))
theorem gd {s:List UInt8}{r:Option Fn}(h:Tx.readP s=r):Tx.countS s=(((dV r).length:Int),dU r):=by unfold Tx.countS;rw[h];cases r<;>rfl
theorem gT (s:List UInt8)(hs:s.length<=80000)(w:World)(ht:TabW w) :
  Calls prog 23 #[.string (bs s)] w (RG (.tuple #[.int .i64 (Tx.countS s).1,.int .i64 (Tx.countS s).2]) w):=by
 obtain⟨r,g⟩:=xJ (Tx.readP s);rw[gd g];have j:Hid (∀d,TabW d->Calls prog 43 #[.string (bs s)] d fun e w'=>fM d w' r e):=dJ fun d t=>fJ hs g d t;have p:=dJ ht;have q:=fd g;obtain⟨n,l⟩:=xJ ((dV r).length);obtain⟨E,m⟩:=xJ (dU r);unfold fM at j;rw[l,m]at j ⊢;rw[l]at q;clear ht g l m
 go_enter func23, ntmps23
 go_wp2_with (go_at_call 43;refine(j.out _ p.out).mono ?_;rintro e d ⟨A,c,rfl,-,g1⟩);go_ret2;exact⟨rfl,g1⟩
theorem fF {l:List (List UInt8)}{k:Nat}{z:List UInt8}(h:l[k]?=some z):l.drop k=z::l.drop (k+1):=by obtain⟨q,e⟩:=oZ.1 h;rw[po q,e]
theorem kk {s t:List UInt8}{r q:Option Fn}(h:Tx.readP s=r)(h':Tx.readP t=q):Tx.differS s t=if dU r=0/\dU q=0 then ((Tx.diffP (dV r) (dV q) 0).1,(Tx.diffP (dV r) (dV q) 0).2,0) else (0,false,2):=by unfold Tx.differS;rw[h,h'];cases r<;>cases q<;>rfl
theorem gt (s t:List UInt8)(hs:s.length<=80000)(hq:t.length<=80000)(w:World)(ht:TabW w) :
  Calls prog 21 #[.string (bs s),.string (bs t)] w (RG (.tuple #[.int .i64 (Tx.differS s t).1,.bool (Tx.differS s t).2.1,.int .i64 (Tx.differS s t).2.2]) w):=by
 obtain⟨r,Z⟩:=xJ (Tx.readP s);obtain⟨q,C⟩:=xJ (Tx.readP t);rw[kk Z C];have L:Hid (∀g,TabW g->Calls prog 43 #[.string (bs s)] g fun e w'=>fM g w' r e):=dJ fun g t=>fJ hs Z g t;have j:Hid (∀g,TabW g->Calls prog 43 #[.string (bs t)] g fun e w'=>fM g w' q e):=dJ fun g t=>fJ hq C g t;have M:=dJ ht;have hl:=fd Z;have V:=fd C;unfold fM at L j;obtain⟨E,hE⟩:=xJ (dU r);obtain⟨E',J⟩:=xJ (dU q);obtain⟨k,Y⟩:=xJ (dV r);obtain⟨l,z⟩:=xJ (dV q);rw[hE,Y]at L;rw[J,z]at j;rw[hE,Y,J,z];rw[Y]at hl;rw[z]at V;clear ht Z C hE J Y z;have O:=True.intro;by_cases h0:E=0
 ·by_cases Q:E'=0
  ·obtain⟨R,hR⟩:=xJ (Tx.diffP k l 0);rw[pB ⟨h0,Q⟩,hR];have ab:=dJ hR;subst h0 Q;obtain⟨n,hn⟩:=xJ k.length;obtain⟨m,hm⟩:=xJ l.length;rw[hn]at L hl;rw[hm]at j V;have HN:=dJ hn;have X:=dJ hm;clear hR hn hm
   go_enter func21, ntmps21
   go_wp2_with (first|(have _t:=O;go_at_call 43;(with_reducible refine(L.out _ M.out).mono ?_);rintro e g ⟨A,c,rfl,H,g1⟩;have D:=dJ g1;clear g1 O _t)|(go_at_call 43;(with_reducible refine(j.out _ (M.out.gr D.out)).mono ?_);rintro e w2 ⟨A2,c2,rfl,I,g2⟩;have aa:=dJ g2;have F:=dJ (D.out.trans g2);clear g2))
   go_loopw [33] (fun ae wr=>∃i:Nat,i<=max n m/\ae=.int .i64 i/\Hid (Tx.diffP (k.drop i) (l.drop i) i=R)/\Hid (Gr w2 wr)) (fun i _=>max n m-(intOf i).toNat)
   case atStart=>exact⟨0,pR _,rfl,ab,qj _⟩
   case round =>
    obtain⟨i,hi,rfl,G,d⟩:=hrel;by_cases B:i<max n m
    ·have W:(i:Int)<max (n:Int) (m:Int):=by omega
     by_cases ad:i<n
     ·obtain⟨a,T⟩:∃a,k[i]?=some a:=⟨_,oY (by have:=HN.out;omega)⟩;by_cases ac:i<m
      ·obtain⟨b,N⟩:∃a,l[i]?=some a:=⟨_,oY (by have:=X.out;omega)⟩;have y:Hid ((if a=b then Tx.diffP (k.drop (i+1)) (l.drop (i+1)) (i+1) else ((i:Int),true))=R):=dJ (by rw[<-G.out,fF T,fF N,Tx.diffP]);obtain⟨b1,o1,e1,x1⟩:=eX H.out (aa.out.trans d.out) T;obtain⟨b2,o2,e2,x2⟩:=eX I.out d.out N;subst e1;subst e2;have K:¬(n:Int)<=(i:Int):=by omega
       have U:¬(m:Int)<=(i:Int):=by omega
       clear T N G B;by_cases p:a=b
       ·have u:Hid (Tx.diffP (k.drop (i+1)) (l.drop (i+1)) (i+1)=R):=dJ (by rw[<-y.out,pB p]);have e1:=dZ p;clear p y;go_wp2;go_quiet (fail);all_goals go_wp2
        all_goals exact⟨⟨i+1,by omega,by go_num,u,d.out.drewN _⟩,by simp[intOf]<;>omega⟩
       ·have u:Hid (R=((i:Int),true)):=dJ (by rw[<-y.out,pC p]);have e1:=eW p;clear p y;go_wp2;go_quiet (fail);all_goals go_wp2
        all_goals go_ret3
        all_goals exact⟨by rw[u.out];rfl,F.out.trans (d.out.drewN _)⟩
      ·have u:Hid (R=((i:Int),true)):=dJ (by rw[<-G.out,fF T,pt (by have:=X.out;omega:l.length<=i),Tx.diffP];all_goals simp);have K:¬(n:Int)<=(i:Int):=by omega
       have U:(m:Int)<=(i:Int):=by omega
       have af:decide (m<=i)=true:=by simp;omega
       have ag:decide (n<=i)=false:=by simp;omega
       clear T G B ac ad K U hi;go_wp2;go_quiet (fail);all_goals go_wp2
       all_goals go_ret3
       all_goals exact⟨by rw[u.out];rfl,F.out.trans (d.out.drewN _)⟩
     ·obtain⟨b,N⟩:∃a,l[i]?=some a:=⟨_,oY (by have:=X.out;omega)⟩;have u:Hid (R=((i:Int),true)):=dJ (by rw[<-G.out,fF N,pt (by have:=HN.out;omega:k.length<=i),Tx.diffP];all_goals simp);have K:(n:Int)<=(i:Int):=by omega
      clear N G B;go_wp2;go_quiet (fail);all_goals go_wp2
      all_goals go_ret3
      all_goals exact⟨by rw[u.out];rfl,F.out.trans (d.out.drewN _)⟩
    ·have W:¬(i:Int)<max (n:Int) (m:Int):=by omega
     have u:Hid (R=(0,false)):=dJ (by rw[<-G.out,pt (by have:=HN.out;omega:k.length<=i),pt (by have:=X.out;omega:l.length<=i),Tx.diffP]);clear G B;go_wp2
     go_ret3
     exact⟨by rw[u.out];rfl,F.out.trans d.out⟩
  ·rw[pC fun x=>Q x.2];have c1:(E' != 0)=true:=by simpa using Q
   subst h0;clear Q
   go_enter func21, ntmps21
   go_wp2_with (first|(have _t:=O;go_at_call 43;(with_reducible refine(L.out _ M.out).mono ?_);rintro e g ⟨A,c,rfl,H,g1⟩;have D:=dJ g1;clear g1 O _t)|(go_at_call 43;(with_reducible refine(j.out _ (M.out.gr D.out)).mono ?_);rintro e w2 ⟨A2,c2,rfl,I,g2⟩;have F:=dJ (D.out.trans g2);clear g2))
   go_ret3
   exact⟨rfl,F.out⟩
 ·rw[pC fun x=>h0 x.1];have c1:(E != 0)=true:=by simpa using h0
  clear h0
  go_enter func21, ntmps21
  go_wp2_with (first|(have _t:=O;go_at_call 43;(with_reducible refine(L.out _ M.out).mono ?_);rintro e g ⟨A,c,rfl,H,g1⟩;have D:=dJ g1;clear g1 O _t)|(go_at_call 43;(with_reducible refine(j.out _ (M.out.gr D.out)).mono ?_);rintro e w2 ⟨A2,c2,rfl,I,g2⟩;have F:=dJ (D.out.trans g2);clear g2))
  go_ret3
  exact⟨rfl,F.out⟩

import Derived.Outline
import Derived.Test.YtjkajidbdmbbaaaGreatN38
set_option linter.unusedSimpArgs false
set_option linter.unusedVariables false
set_option maxRecDepth 100000
set_option maxHeartbeats 16000000
open Go.Proofs.Tryz
namespace Go.Proofs.YtjkajidbdmbbaaaGreat
open Ref Rn Wd Ir Rf
open Go.RowKit
variable {c:Cfg}{m n:Int}{bl pk:List Int}{bv om wv:Value}{w:World}
theorem w64 (z:Int)(h0:-9223372036854775808<=z)(h1:z<=9223372036854775807):wrap64 z=z:=by unfold wrap64;omega
theorem tp (o P Q:Int)(hP:0<=P/\P<=1)(hQ:0<=Q/\Q<=1):0<=J9 o P Q/\J9 o P Q<=1:=by
 have d:P=0\/P=1:=by omega
 have g:Q=0\/Q=1:=by omega
 unfold J9;rcases d with rfl|rfl<;>rcases g with rfl|rfl<;>(split<;>(try split)<;>decide)
theorem mx (o n a b:Int)(w:World)(ho:o=8\/o=9\/o=10)(hn:zi n)(ha:yX n a)(hb:yX n b):Calls prog 218 #[.int .i64 o,.int .i64 n,.int .u32 a,.int .u32 b] w fun e w'=>e=fk (Wd.op o n a b)/\Gr w w':=by
 obtain⟨a1,a2⟩:=dL hn ha;obtain⟨b1,b2⟩:=dL hn hb;obtain⟨x,rfl⟩:=xZ a1;obtain⟨y,rfl⟩:=xZ b1;obtain⟨m,rfl⟩:=xZ (show 0<=n by have:=hn.1;omega);have hm:m<=32:=by have:=hn.2;omega
 have hx:x<2 ^ m:=by have:=ha.2;rw[IA,ya]at this;exact_mod_cast this
 have hy:y<2 ^ m:=by have:=hb.2;rw[IA,ya]at this;exact_mod_cast this
 have W:=dJ (NQ o hm hx hy)
 have HE:Hid (Wd.op o (m:Int) (x:Int) (y:Int)=some (((K2 o x y%2 ^ m:Nat):Nat):Int)):=by show _=_;rw[W.out];rcases ho with rfl|rfl|rfl<;>rfl
 rw[HE.out]
 have p:Hid (∀j:Nat,j<=32->((2:Int) ^ j<=4294967296/\0<(2:Int) ^ j)/\(((K2 o x y%2 ^ j:Nat):Nat):Int)<2 ^ j):=fun j hj=>by
  have S:=Nat.pow_le_pow_right (show 0<2 by decide) hj;have e:2 ^ 32=4294967296:=by decide
  have h2:=Nat.mod_lt (K2 o x y) (Nat.two_pow_pos j);have h3:((2:Int) ^ j)=((2 ^ j:Nat):Int):=by simp
  rw[h3];have:=Nat.two_pow_pos j;omega
 have t:Hid (∀j:Nat,((K2 o x y%2 ^ (j+1):Nat):Int)=((K2 o x y%2 ^ j:Nat):Int)+J9 o ((x:Int) / 2 ^ j%2) ((y:Int) / 2 ^ j%2)*2 ^ j):=fun j=>NP o x y j;have I:Hid (∀P Q:Int,0<=P/\P<=1->0<=Q/\Q<=1->0<=J9 o P Q/\J9 o P Q<=1):=tp o;have E:Hid (∀P Q,o=8->J9 o P Q=P*Q):=fun P Q h=>by subst h;rfl
 have H:Hid (∀P Q,o=9->J9 o P Q=max P Q):=fun P Q h=>by subst h;rfl
 have r:Hid (∀P Q,o=10->J9 o P Q=(P+Q)%2):=fun P Q h=>by subst h;rfl
 have CZ:Hid (∀(j:Nat) d,j<=32->Calls prog 74 #[.int .i64 j] d (RS (.int .i64 (2 ^ j)) d)):=fun j d hj=>by have:=dN (j:Int) d (by omega) (by omega);unfold m9 at this;rw[ya]at this;exact this
 have u:Hid ((((K2 o x y%2 ^ 0:Nat):Nat):Int)=0):=by show _=_;simp[Nat.mod_one]
 obtain⟨G,hG⟩:∃G:Int->Int->Int,J9 o=G:=⟨_,rfl⟩;rw[hG]at t I E H r;clear hG;obtain⟨F,hF⟩:∃F:Nat->Int,(fun j=>(((K2 o x y%2 ^ j:Nat):Nat):Int))=F:=⟨_,rfl⟩;have N:∀j,(((K2 o x y%2 ^ j:Nat):Nat):Int)=F j:=fun j=>by rw[<-hF]
 simp only[N]at p t u ⊢;clear hF N W HE hn ha hb hx hy;rcases ho with rfl|rfl|rfl
 all_goals
  go_enter func218, ntmps218
  go_wp2_with (fail)
  go_loopw [10,11] (fun ad i wr=>∃j:Nat,j<=m/\i=.int .i64 j/\ad=.int .i64 (F j)/\Hid (0<=F j)/\Gr w wr) (fun _ i _=>m-(intOf i).toNat)
  case atStart=>exact⟨0,yI _,rfl,by rw[u.out],dJ (by rw[u.out];omega),yO _⟩
  case round =>
   obtain⟨j,hj,rfl,rfl,M,Y⟩:=hrel;by_cases ac:j<m
   ·obtain⟨⟨p1,p2⟩,p3⟩:=p.out j (by omega);have ag:=dJ (p.out (j+1) (by omega)).2;have U:=dJ fun d=>CZ.out j d (by omega);have q:=dJ (t.out j);obtain⟨s,hs⟩:∃s:Int,2 ^ j=s:=⟨_,rfl⟩;rw[hs]at p1 p2 p3 U q;have aj:0<=(x:Int) / s:=yH (by omega) (by omega);have ak:(x:Int) / s<=(x:Int):=Int.ediv_le_self _ (by omega);have al:0<=(y:Int) / s:=yH (by omega) (by omega);have am:(y:Int) / s<=(y:Int):=Int.ediv_le_self _ (by omega);obtain⟨P,hP⟩:=xJ ((x:Int) / s%2);obtain⟨Q,hQ⟩:=xJ ((y:Int) / s%2);have O:0<=P/\P<=1:=by omega
    have A:0<=Q/\Q<=1:=by omega
    rw[hP,hQ]at q;have D:=I.out P Q O A;have e8:=E.out P Q;have e9:=H.out P Q;have z:=r.out P Q;obtain⟨B,hB⟩:=xJ (G P Q);rw[hB]at q D e8 e9 z
    have ab:0<=P*Q/\P*Q<=1:=by
     have S:P=0\/P=1:=by omega
     rcases S with rfl|rfl
     ·simp
     ·simp;exact A
    have aa:0<=B*s/\B*s<=s:=by
     have S:B=0\/B=1:=by omega
     rcases S with rfl|rfl
     ·simp;omega
     ·simp;omega
    have f0:=M.out;have an:(s == 0)=false:=by simp;omega
    have z0:(0:Int)<=(j:Int):=by omega
    have z1:(j:Int)<(m:Int):=by omega
    have X:=dJ e8;have L:=dJ e9;have K:=dJ z;have W:=dJ hB;have af:=dJ hs;have g:=dJ hP;have l:=dJ hQ;obtain⟨P0,P1⟩:=O;obtain⟨Q0,Q1⟩:=A;obtain⟨ah,ai⟩:=ab;obtain⟨B0,B1⟩:=aa;have Z:=dJ Y;have J:=dJ D;clear e8 e9 z hB hs ac D
    go_upto_region 6 with (fail)
    go_quiet ((go_at_call 74;exact dq (U.out _)));clear hP hQ Y;go_wp2_with (go_at_call 74;refine(U.out _).mono ?_;rintro e d ⟨rfl,rfl⟩);go_roundw
    case rel =>
     have R:=q.out;refine⟨j+1,by omega,by go_num,?_,dJ (by omega),Z.out.drewN _⟩;have ae:=J.out;have w0:=w64 B (by omega) (by omega);have d:=w64 (B*s) (by omega) (by omega);have T:=w64 (F j+B*s) (by omega) (by omega)
     first
      | (have hb:P*Q=B:=(X.out (by simp)).symm
         rw[g.out,l.out,hb,w0,d,T,R])
      | (have hb:B=max P Q:=L.out (by simp)
         have C:(if P<Q then Q else P)=B:=by rw[hb];split<;>omega
         rw[g.out,l.out,C,d,T,R])
      | (have hb:B=max P Q:=L.out (by simp)
         rw[g.out,l.out,<-hb,d,T,R])
      | (have hb:B=(P+Q)%2:=K.out (by simp)
         have C:((x:Int) / s+(y:Int) / s)%2=B:=by rw[hb,<-g.out,<-l.out];omega
         rw[C,d,T,R])
    case measure=>simp[intOf]<;>omega
   ·obtain rfl:j=m:=by omega
    have f0:=M.out;have f1:F j<4294967296:=by obtain⟨⟨p1,p2⟩,p3⟩:=p.out j (by omega);omega
    go_wp2_with (fail);go_ret2;exact⟨rfl,Y⟩
theorem lg (o n a b:Int)(w:World)(ho:o=11\/o=12\/o=13)(hn:zi n)(ha:yX n a)(hb:yX n b):Calls prog 218 #[.int .i64 o,.int .i64 n,.int .u32 a,.int .u32 b] w fun e w'=>e=fk (Wd.op o n a b)/\Gr w w':=by
 obtain⟨L,a2⟩:=dL hn ha;obtain⟨b1,b2⟩:=dL hn hb;obtain⟨n1,n2⟩:=id hn;have C:Hid (Wd.op o n a b=none->fk (Wd.op o n a b)=.returned (.tuple #[.int .u32 0,.bool false])):=fun h=>by rw[h];rfl
 have B:Hid (∀z,Wd.op o n a b=some z->fk (Wd.op o n a b)=.returned (.tuple #[.int .u32 z,.bool true])):=fun z h=>by rw[h];rfl
 have m:Hid (Wd.op 11 n a b=if n<=b then none else some (a*2 ^ b.toNat%m9 n)):=rfl;have p:Hid (Wd.op 12 n a b=if n<=b then none else some (a / 2 ^ b.toNat)):=rfl;have d:Hid (Wd.op 13 n a b=if n<=b then none else some (zU n a / 2 ^ b.toNat%m9 n)):=rfl;by_cases t:n<=b
 ·have l:=dJ t;clear hn ha hb;rcases ho with rfl|rfl|rfl
  all_goals
   go_enter func218, ntmps218
   go_wp2_with (fail);go_ret2
   first
    | exact⟨(C.out (by rw[m.out,yr l.out])).symm,yO _⟩
    | exact⟨(C.out (by rw[p.out,yr l.out])).symm,yO _⟩
    | exact⟨(C.out (by rw[d.out,yr l.out])).symm,yO _⟩
 ·have l:=dJ t;obtain⟨k,Z⟩:=xZ b1;have A:b.toNat=k:=by omega
  rw[A]at m p d;have q:k<32:=by omega
  have ab:b<n:=by omega
  have E:=dJ Z;clear Z;rcases ho with rfl|rfl|rfl
  ·have R:=C4 hn;have Q:=BC n;have U:=dJ fun g=>dN n g (by omega) (by omega);have H:Hid (∀i,2*(a*2 ^ i%m9 n)%m9 n=a*2 ^ (i+1)%m9 n):=Nn a n;have G:Hid (∀i:Nat,0<=a*2 ^ i%m9 n/\a*2 ^ i%m9 n<m9 n):=fun i=>FK _;have I:Hid (a*2 ^ 0%m9 n=a):=by show _=_;simp;exact Int.emod_eq_of_lt ha.1 ha.2
   obtain⟨s,hs⟩:=xJ (m9 n);rw[hs]at R Q U H G I m;have ac:(s == 0)=false:=by simp;omega
   clear hn ha hb hs t A;have W:=dJ q;clear q
   go_enter func218, ntmps218
   go_wp2_with (fail)
   go_loop [16,17] (fun S i=>∃j:Nat,j<=k/\i=.int .i64 j/\S=.int .i64 (a*2 ^ j%s)) (fun _ i=>k-(intOf i).toNat)
   case atStart=>exact⟨0,yI _,rfl,by rw[I.out]⟩
   case round =>
    obtain⟨j,hj,rfl,rfl⟩:=hrel;have X:=dJ (H.out j);obtain⟨r1,r2⟩:=G.out j;obtain⟨y,u⟩:=xJ (a*2 ^ j%s);rw[u]at X r1 r2 ⊢;have Y:=dJ u;by_cases K:j<k
    ·have z1:(j:Int)<b:=by have:=E.out;omega
     clear u K;go_wp2_with (go_at_call 74;refine(U.out _).mono ?_;rintro e g ⟨rfl,rfl⟩);go_round;case rel=>exact⟨j+1,by have:=E.out;omega,by go_num,by rw[<-X.out]⟩
     case measure=>have:=E.out;simp[intOf]<;>omega
    ·have J:j=k:=by omega
     have N:(j:Int)=b:=by have:=E.out;omega
     rw[J]at Y;have z2:¬(j:Int)<b:=by omega
     clear u K J N;have aa:y<4294967296:=by omega
     go_wp2_with (fail);go_ret2;exact⟨(B.out y (by rw[m.out,yt (by have:=l.out;omega),Y.out])).symm,yO _⟩
  ·have F:Hid (∀g,Calls prog 245 #[.int .i64 a,.int .i64 b] g (RS (.int .i64 (a / 2 ^ k)) g)):=fun g=>by
    have h:=nK a k g (by omega) (by omega) (by omega);rw[<-E.out]at h;exact h
   have O:(0:Int)<2 ^ k:=Int.pow_pos (by decide);have q1:0<=a / 2 ^ k:=yH L (by omega);have q2:a / 2 ^ k<=a:=Int.ediv_le_self _ L;obtain⟨y,u⟩:=xJ (a / 2 ^ k);rw[u]at F q1 q2 p;have q3:y<4294967296:=by omega
   clear hn ha hb u t A O q
   go_enter func218, ntmps218
   go_wp2_with (go_at_call 245;refine(F.out _).mono ?_;rintro e g ⟨rfl,rfl⟩);go_ret2;exact⟨(B.out y (by rw[p.out,yt (by have:=l.out;omega)])).symm,yO _⟩
  ·have hh:=Ft hn;have M:=C4 hn;obtain⟨x1,x2⟩:=Eo hn ha;have CS:=dJ fun g=>dO n a g hn L a2;obtain⟨x,hx⟩:=xJ (zU n a);rw[hx]at x1 x2 CS d
   have F:Hid (∀g,Calls prog 245 #[.int .i64 x,.int .i64 b] g (RS (.int .i64 (x / 2 ^ k)) g)):=fun g=>by have h:=nK x k g (by omega) (by omega) (by omega);rw[<-E.out]at h;exact h
   have O:(1:Int)<=2 ^ k:=Int.pow_pos (by decide)
   have D:-4611686018427387904<=x / 2 ^ k/\x / 2 ^ k<=4611686018427387904:=by
    rcases Int.le_total 0 x with h|h
    ·have:=yH h (show (0:Int)<=2 ^ k by omega);have:=Int.ediv_le_self (2 ^ k) h;omega
    ·have h3:x<=x / 2 ^ k:=by
      rw[Int.le_ediv_iff_mul_le (by omega)];have:x*2 ^ k<=x*1:=Int.mul_le_mul_of_nonpos_left h (by omega);omega
     have h2:x / 2 ^ k<=0:=by have:=Int.ediv_le_ediv (show (0:Int)<2 ^ k by omega) h;simpa using this
     omega
   obtain⟨y,u⟩:=xJ (x / 2 ^ k);rw[u]at F D d;have T:=dJ fun g=>ew n y g hn D.1 D.2;obtain⟨r,hr⟩:=xJ (y%m9 n);rw[hr]at T d;clear hn ha hb u t A O hr hx hh M q
   go_enter func218, ntmps218
   go_wp2_with (first|(go_at_call 200;refine(CS.out _).mono ?_;rintro e g ⟨rfl,rfl⟩)|(go_at_call 245;refine(F.out _).mono ?_;rintro e g ⟨rfl,rfl⟩)|(go_at_call 211;refine(T.out _).mono ?_;rintro e g ⟨rfl,rfl⟩))
   go_ret2;exact⟨(B.out r (by rw[d.out,yt (by have:=l.out;omega)])).symm,yO _⟩
theorem qP (o n a b:Int)(w:World)(ho:1<=o/\o<=13)(hn:zi n)(ha:yX n a)(hb:yX n b):Calls prog 213 #[.int .i64 o,.int .i64 n,.int .u32 a,.int .u32 b] w fun e w'=>e=fk (Wd.op o n a b)/\Gr w w':=by
 rcases (by omega:(o=1\/o=2\/o=3)\/(o=4\/o=5)\/(o=6\/o=7)\/8<=o) with h|h|h|h
 ·exact(wz o n a b w h hn ha hb).mono fun e w' ⟨g,j⟩=>⟨g,j ▸ yO w⟩
 ·exact(uW o n a b w h hn ha hb).mono fun e w' ⟨g,j⟩=>⟨g,j ▸ yO w⟩
 ·exact(uV o n a b w h hn ha hb).mono fun e w' ⟨g,j⟩=>⟨g,j ▸ yO w⟩
 ·obtain⟨A,B⟩:=dL hn ha;obtain⟨C,D⟩:=dL hn hb
  have l:Hid (∀d,Calls prog 218 #[.int .i64 o,.int .i64 n,.int .u32 a,.int .u32 b] d fun e w'=>e=fk (Wd.op o n a b)/\Gr d w'):=fun d=>by
   rcases (by omega:(o=8\/o=9\/o=10)\/(o=11\/o=12\/o=13)) with q|q
   ·exact mx o n a b d q hn ha hb
   ·exact lg o n a b d q hn ha hb
  have CS:=dJ fun d=>dO n a d hn A B;have m:=dJ fun d=>dO n b d hn C D;unfold fk at l ⊢;obtain⟨z,u⟩:=xJ ((Wd.op o n a b).getD 0);obtain⟨k,p⟩:=xJ ((Wd.op o n a b).isSome);obtain⟨x,r⟩:=xJ (zU n a);obtain⟨y,t⟩:=xJ (zU n b);rw[u,p]at l ⊢;rw[r]at CS;rw[t]at m;obtain⟨M,N⟩:=ho;have F:(o == 1)=false:=by simp;omega
  have G:(o == 2)=false:=by simp;omega
  have H:(o == 3)=false:=by simp;omega
  have I:(o == 4)=false:=by simp;omega
  have J:(o == 5)=false:=by simp;omega
  have K:(o == 6)=false:=by simp;omega
  have L:(o == 7)=false:=by simp;omega
  clear u p r t hn ha hb
  go_enter func213, ntmps213
  go_wp2_with (first|(go_at_call 200;(with_reducible refine(CS.out _).mono ?_);rintro e d ⟨rfl,rfl⟩)|(go_at_call 200;(with_reducible refine(m.out _).mono ?_);rintro e d ⟨rfl,rfl⟩)|(go_at_call 218;refine(l.out _).mono ?_;rintro e d ⟨rfl,E⟩))
  go_ret2;exact⟨rfl,E⟩
theorem uB (o n a b:Int)(w:World)(ho:1<=o/\o<=13)(hn:zi n)(ha:yX n a)(hb:yX n b):Calls prog 201 #[.int .i64 o,.int .i64 n,.int .u32 a,.int .u32 b] w (RG (.tuple #[.int .u32 ((Wd.op o n a b).getD 0),.bool (Wd.op o n a b).isSome,.int .i64 0]) w):=by
 have l:=dJ fun d=>sO o n a b d ho hn ha hb;have g:=dJ fun d=>qP o n a b d ho hn ha hb;unfold fk at g
 cases hz:Wd.op o n a b with
 | none =>
  rw[hz]at g;clear hz ho hn ha hb
  go_enter func201, ntmps201
  go_wp2_with (first|(go_at_call 212;refine(l.out _).mono ?_;rintro e d ⟨rfl,rfl⟩)|(go_at_call 213;refine(g.out _).mono ?_;rintro e d ⟨rfl,j⟩))
  go_ret3
  exact⟨rfl,j⟩
 | some z =>
  rw[hz]at g;clear hz ho hn ha hb
  go_enter func201, ntmps201
  go_wp2_with (first|(go_at_call 212;refine(l.out _).mono ?_;rintro e d ⟨rfl,rfl⟩)|(go_at_call 213;refine(g.out _).mono ?_;rintro e d ⟨rfl,j⟩))
  go_ret3
  exact⟨rfl,j⟩
theorem lj (o:Int)(w:World):Calls prog 199 #[.int .i64 o] w (RT (.bool (decide (4<=o) && decide (o<=7))) w):=by
 go_enter func199, ntmps199
 go_wp2;all_goals go_ret
 all_goals exact⟨cZ (by (try simp[*])<;>(try omega)),rfl⟩
def ju (o n:Int)(a b:Rn.V):Bool:=decide ((4<=o/\o<=7)/\((b.p=true\/b.n=0)\/(o=6\/o=7)/\zU n b.n=-1/\(a.p=true\/zU n a.n=-m9 (n-1))))
theorem fj (x:Ins)(va vt:Value)(a b:Rn.V)(w:World)(hd:4<=x.op/\x.op<=7->zi x.w/\yX x.w a.n/\yX x.w b.n) :
  Calls prog 180 #[dj x va vt,vv a,vv b] w (RG (.bool (ju x.op x.w a b)) w):=by
 obtain⟨W,Q⟩:=xJ (((w.alloc (.cells #[.int .i64 x.op,.int .i64 x.w,.int .i64 x.g,va,.int .u32 x.i,vt] 68)).alloc (.cells #[.bool a.p,.int .i64 a.s,.int .u32 a.n] 24)).alloc (.cells #[.bool b.p,.int .i64 b.s,.int .u32 b.n] 24));have G:=AF.boxes w x va vt a b 68 24;rw[Q]at G;have O:Gr w W:=by rw[<-Q];exact(((yO w).alloc _).alloc _).alloc _
 have u:=dJ O;have m:=dJ fun g=>lj x.op g;obtain⟨R,t⟩:=xJ (ju x.op x.w a b);rw[t];obtain⟨op,E,fl,args,im,tt⟩:=x;obtain⟨Y,Z,K⟩:=a;obtain⟨bp,aa,A⟩:=b;dsimp only at *;unfold dj vv;dsimp only;obtain⟨k0,k1,k2,k3,k4,k5,k6⟩:=G;by_cases B:4<=op/\op<=7
 ·obtain⟨M,S,L⟩:=hd B;have I:(decide (4<=op) && decide (op<=7))=true:=by simp[B]
  rw[I]at m;have hu:=C4 M;have CS:=dJ fun g=>dO E A g M L.1 (by have:=L.2;omega);have N:=dJ fun g=>uB op E K A g (by omega) M S L;have y:=dJ (lS (o:=op) (n:=E) (a:=K) (b:=A) B);obtain⟨z,U⟩:=xJ (Wd.op op E K A);rw[U]at N y;obtain⟨X,C⟩:=xJ (zU E A);rw[C]at CS y;unfold ju at t;dsimp only at t;rw[C]at t;have F:=dJ t;have H:=dJ B;have r:=(by omega:op=4\/op=5\/op=6\/op=7);clear hd t I M S L hu U C O B
  cases bp with
  | true =>
   have j:Hid (R=true):=by show _=_;rw[<-F.out];simp[H.out]
   go_enter func180, ntmps180
   go_wp2_with (go_at_call 199;refine(m.out _).mono ?_;rintro e g ⟨rfl,rfl⟩);go_ret;exact⟨cZ j.out.symm,u.out⟩
  | false =>
   by_cases l:A=0
   ·subst l;have j:Hid (R=true):=by show _=_;rw[<-F.out];simp[H.out]
    go_enter func180, ntmps180
    go_wp2_with (go_at_call 199;refine(m.out _).mono ?_;rintro e g ⟨rfl,rfl⟩);go_ret;exact⟨cZ j.out.symm,u.out⟩
   ·by_cases d:op=6\/op=7
    ·by_cases D:X=-1
     ·subst D
      cases Y with
      | true =>
       have j:Hid (R=true):=by show _=_;rw[<-F.out];simp[H.out,d]
       rcases d with rfl|rfl
       all_goals
        clear r
        go_enter func180, ntmps180
        go_wp2_with (first|(go_at_call 199;refine(m.out _).mono ?_;rintro e g ⟨rfl,rfl⟩)|(go_at_call 200;refine(CS.out _).mono ?_;rintro e g ⟨rfl,rfl⟩))
        go_ret;exact⟨cZ j.out.symm,u.out⟩
      | false =>
       have j:Hid (R=!z.isSome):=by
        show _=_;rw[<-F.out];have:=y.out
        cases z with
        | none =>
         have q:=this.1 rfl;rcases q with q|q
         ·exact absurd q l
         ·simp[H.out,d,q.2.2]
        | some z =>
         have q:¬(A=0\/(op=6\/op=7)/\-1=-1/\zU E K=-m9 (E-1)):=fun q=>by have:=this.2 q;cases this
         simp[l,d]at q;simp[H.out,d,l,q]
       obtain⟨zb,J⟩:=xJ z.isSome;rw[J]at N j;clear J;rcases d with rfl|rfl
       all_goals
        clear r
        go_enter func180, ntmps180
        go_wp2_with (first|(go_at_call 199;refine(m.out _).mono ?_;rintro e g ⟨rfl,rfl⟩)|(go_at_call 200;refine(CS.out _).mono ?_;rintro e g ⟨rfl,rfl⟩)|(go_at_call 201;refine(N.out _).mono ?_;rintro e g ⟨rfl,g1⟩))
        go_ret;exact⟨cZ j.out.symm,u.out.trans g1⟩
     ·have j:Hid (R=false):=by show _=_;rw[<-F.out];simp[l,D]
      have T:(X != -1)=true:=by simpa using D
      rcases d with rfl|rfl
      all_goals
       clear r
       go_enter func180, ntmps180
       go_wp2_with (first|(go_at_call 199;refine(m.out _).mono ?_;rintro e g ⟨rfl,rfl⟩)|(go_at_call 200;refine(CS.out _).mono ?_;rintro e g ⟨rfl,rfl⟩))
       go_ret;exact⟨cZ j.out.symm,u.out⟩
    ·have j:Hid (R=false):=by show _=_;rw[<-F.out];simp[l,d]
     rcases (by omega:op=4\/op=5) with rfl|rfl
     all_goals
      clear r d
      go_enter func180, ntmps180
      go_wp2_with (go_at_call 199;refine(m.out _).mono ?_;rintro e g ⟨rfl,rfl⟩);go_ret;exact⟨cZ j.out.symm,u.out⟩
 ·have I:(decide (4<=op) && decide (op<=7))=false:=by
   rcases (by omega:¬4<=op\/¬op<=7) with q|q<;>simp[q]
  rw[I]at m;have j:Hid (R=false):=by show _=_;rw[<-t];unfold ju;simp[B]
  clear hd t I O B
  go_enter func180, ntmps180
  go_wp2_with (go_at_call 199;refine(m.out _).mono ?_;rintro e g ⟨rfl,rfl⟩);go_ret;exact⟨cZ j.out.symm,u.out⟩
theorem xc (h0:0<=m)(h1:m<4294967296)(hn0:0<=n)(hn1:n<=1000):(zU 32 m<0\/n<zU 32 m)↔n<m:=by
 have e:zU 32 m=if 2147483648<=m then m-4294967296 else m:=rfl
 rw[e];split<;>omega
theorem oS {s:AN}{o:zO}(h:DS c pk w s bl o om wv bv)(hf:VFn c.f)(x:Ins)(va vt:Value)(p b:Rn.V)(hp:Fp c.f 33 p)(hpp:p.p=false)(k:Int)(hk:zi k)(hb:yX k b.n) :
  Calls prog 206 #[.pointer (some ⟨c.Bs,0,none⟩),dj x va vt,vv p,vv b,.int .i64 k] w (RG (vv (GQ c.f.s x.g k p b)) w):=by
 obtain⟨p1,p2,p3,p4⟩:=hp.ptr hpp;obtain⟨W0,R⟩:=xJ (((w.alloc (.cells #[.int .i64 x.op,.int .i64 x.w,.int .i64 x.g,va,.int .u32 x.i,vt] 68)).alloc (.cells #[.bool p.p,.int .i64 p.s,.int .u32 p.n] 24)).alloc (.cells #[.bool b.p,.int .i64 b.s,.int .u32 b.n] 24));obtain⟨W,hW⟩:=xJ (fR W0);have ad:=AF.boxes w x va vt p b 68 24;rw[R]at ad;have s0:W0.heap.size=w.heap.size+3:=by rw[<-R];exact kj _ _ _ _
 have g0:Gr w W0:=by rw[<-R];exact(((yO w).alloc _).alloc _).alloc _
 have g1:Gr W0 W:=by rw[<-hW];exact(yO W0).alloc _
 have gW:=g0.trans g1
 have ak:W0.cell? ⟨w.heap.size+1,1,none⟩=some (.int .i64 p.s):=by rw[<-R];exact df _ _ 1 ((yO ((w.alloc (.cells #[.int .i64 x.op,.int .i64 x.w,.int .i64 x.g,va,.int .u32 x.i,vt] 68)).alloc (.cells #[.bool p.p,.int .i64 p.s,.int .u32 p.n] 24))).alloc _) (by simp)
 have UA:=fun(u:GrW W)=>AF.gr ad (by omega) (g1.trans u.gr);have Y:=fun u=>(UA u).2.2.1;have t:=gc g1 (show w.heap.size+1<W0.heap.size by omega) ak;have aa:=fun u=>(UA u).2.2.2.2.1;have Z:=fun u=>(UA u).2.2.2.2.2.2;have af:W.heap[w.heap.size+3]?=some (.cells #[.bool false,.int .i64 0,.int .u32 0] 24 (0,0)):=by rw[<-hW,<-s0];exact heap_alloc_new _ _
 have aC:W.heap.size=w.heap.size+4:=by rw[<-hW];unfold fR;simp[s0]
 have ag:Hid (∀w',Gr W w'->w'.heap[w.heap.size+1+1+1]?=some (.cells #[.bool false,.int .i64 0,.int .u32 0] 24 (0,0))):=fun w' g=>(g.heap _ (cY af)).trans af
 have K:Hid (∀(T:World)(v:Rn.V),Gr W T->Gr w (dy T (w.heap.size+1+1+1) v)/\((dy T (w.heap.size+1+1+1) v).cell? ⟨w.heap.size+1+1+1,0,none⟩=some (.bool v.p)/\(dy T (w.heap.size+1+1+1) v).cell? ⟨w.heap.size+1+1+1,1,none⟩=some (.int .i64 v.s)/\(dy T (w.heap.size+1+1+1) v).cell? ⟨w.heap.size+1+1+1,2,none⟩=some (.int .u32 v.n))):=fun T v g =>
  ⟨gr_frs' (gW.trans g) (ef _ _ v) (fun k hk=>by omega),el (ag.out T g) v⟩
 have U:Hid (∀w',Gr W w'->(w'.cell? ⟨w.heap.size+1+1+1,0,none⟩=some (.bool false)/\w'.cell? ⟨w.heap.size+1+1+1,1,none⟩=some (.int .i64 0)/\w'.cell? ⟨w.heap.size+1+1+1,2,none⟩=some (.int .u32 0))/\w'.frozen? ⟨w.heap.size+1+1+1,0,none⟩=false/\w'.frozen? ⟨w.heap.size+1+1+1,1,none⟩=false/\w'.frozen? ⟨w.heap.size+1+1+1,2,none⟩=false):=fun w' g=>by have r:=ag.out w' g;exact⟨⟨yo _ _ 0 _ _ _ r,yo _ _ 1 _ _ _ r,yo _ _ 2 _ _ _ r⟩,yp _ _ 0 _ _ r,yp _ _ 1 _ _ r,yp _ _ 2 _ _ r⟩
 have ar:=h.fn;obtain⟨aK,aL,aJ,e,-,az,-⟩:=ar;injection e with e;injection e with e;injection e with _ e;injection e with _ e;injection e with e1 e;have c2:w.cell? ⟨c.Bs,2,none⟩=some c.vs:=h.cell 2;rw[e1]at c2;obtain⟨As,cs,rfl,B,A,q3⟩:=az;obtain⟨bs,os,rfl,aq,q4⟩:=q3 (by omega);obtain⟨j,hj⟩:∃j:Nat,p.s=(j:Int)+1:=⟨(p.s-1).toNat,by omega⟩;have ax:j<c.f.s.length:=by omega
 obtain⟨N,hN⟩:∃N,c.f.s[j]?=some N:=⟨_,xR ax⟩;have ah:=q4 j N hN
 have ae:0<=N/\N<=1000:=by have:=ym.1 hf.val.head.2 N (xT hN);unfold BH at this;simp at this;omega
 have ab:c.f.s.getD (p.s-1).toNat 0=N:=by rw[show (p.s-1).toNat=j by omega,xU,hN];rfl
 have z:=gc gW (cY h.st) c2;have UN:=gc gW (by have:=h.n₀;omega:bs<w.heap.size) ah;obtain⟨m,hm⟩:=xJ ((p.n+zU k b.n)%4294967296);have ai:0<=m:=by rw[<-hm];exact Int.emod_nonneg _ (by decide)
 have aj:m<4294967296:=by rw[<-hm];exact Int.emod_lt_of_pos _ (by decide)
 have an:=Eo hk hb;have hu:=C4 hk;have au:=Ft hk;have CS:=dJ fun(u:GrW W)=>dZ ((dO k b.n u.val hk hb.1 (by have:=hb.2;omega)).mono fun e w' q=>⟨q.1,q.2.symm⟩);have CO:=dJ fun(u:GrW W)=>dZ ((nJ 32 (p.n+zU k b.n) u.val ⟨by decide,by decide⟩ (by omega) (by omega)).mono fun e w' q=>⟨q.1,q.2.symm⟩);have CT:=dJ fun w1=>dO 32 m w1 ⟨by decide,by decide⟩ ai aj;have ao:m9 32=4294967296:=rfl;rw[ao]at CO;rw[hm]at CO;have X:=dJ (xc ai aj ae.1 ae.2)
 have hg:GQ c.f.s x.g k p b=if x.g=8/\N<m then zX else ⟨false,p.s,m⟩:=by unfold GQ;rw[ab,hm]
 obtain⟨S,hS⟩:=xJ (zU 32 m);rw[hS]at CT X
 have ap:-2147483648<=S/\S<=4294967296:=by rw[<-hS,show zU 32 m=if 2147483648<=m then m-4294967296 else m from rfl];split<;>omega
 rw[hg];obtain⟨sk,al⟩:=xJ (zU k b.n);rw[al]at CS CO an;have am:-4294967296<=sk/\sk<=4294967296:=by omega
 obtain⟨aF,aG⟩:=am;obtain⟨aH,aI⟩:=ap;obtain⟨aD,aE⟩:=ae;have av:=hj;rw[hj]at t ⊢;have aw:c.f.s.length<=17592186044416:=A;clear hpp hj au h hf hp p1 p2 av hg ab hN ah q3 q4 hS hm al ad UA ak c2 e1 e hu an g0 g1 af aq hb hk;subst R;unfold fR at hW;unfold dj vv;by_cases y:x.g=8
 ·rw[y]at Y hW;by_cases L:S<0
  ·have Q:(if x.g=8/\N<m then zX else (⟨false,(j:Int)+1,m⟩:Rn.V))=zX:=by rw[yr ⟨y,X.out.1 (.inl L)⟩]
   rw[Q,y];clear Q y
   go_enter func206, ntmps206
   go_wp2;refine dc (by kernel_rfl) (by kernel_rfl) ?_
   repeat (go_big_quiet_step (first|(rename_i u;go_at_call 200;exact dk u (CS.out u))|(rename_i u;go_at_call 197;exact dk u (CO.out u))))
   refine wpQuiet_nil ?_;intro T H;obtain⟨d,rfl⟩:=H;have G9:=dJ d.gr;have V2:=fun(v:GrW d.val)=>Y ⟨v.val,d.gr.trans v.gr⟩;have F:=fun(v:GrW d.val)=>t ⟨v.val,d.gr.trans v.gr⟩;have E:=fun(v:GrW d.val)=>z ⟨v.val,d.gr.trans v.gr⟩;have VN:=fun(v:GrW d.val)=>UN ⟨v.val,d.gr.trans v.gr⟩;have O:=dJ t;clear Y t aa Z z UN;go_wp2_with (go_at_call 200;refine(CT.out _).mono ?_;rintro e w1 ⟨rfl,rfl⟩);refine dc (by kernel_rfl) (by kernel_rfl) ?_;repeat (go_big_quiet_step (fail))
   refine wpQuiet_nil ?_;intro w8 G;obtain⟨J,rfl⟩:=G;have M:=dJ (G9.out.trans J.gr);clear V2 F E VN;go_wp2_with (go_at_call 176;refine(dS _).mono ?_;rintro e w7 ⟨rfl,g7⟩;have G7:=dJ (M.out.trans g7);obtain⟨⟨r0,r1,r2⟩,f0,f1,f2⟩:=U.out w7 G7.out;obtain⟨C,I,B,A⟩:=K.out w7 zX G7.out;obtain⟨W9,l⟩:=xJ (dy w7 (w.heap.size+1+1+1) zX);rw[l]at C I B A;unfold dy at l;dsimp only[zX]at l I B A;have D:=dJ C;clear C);refine yq (v:=vv zX) (by simp[results,results206,go_sem,I,B,A];rfl) rfl ?_;exact⟨rfl,D.out⟩
  ·by_cases ac:N<S
   ·have Q:(if x.g=8/\N<m then zX else (⟨false,(j:Int)+1,m⟩:Rn.V))=zX:=by rw[yr ⟨y,X.out.1 (.inr ac)⟩]
    rw[Q,y];have ay:decide (S<0)=false:=by simpa using L
    have ab:decide (N<S)=true:=by simpa using ac
    clear Q y
    go_enter func206, ntmps206
    go_wp2;refine dc (by kernel_rfl) (by kernel_rfl) ?_
    repeat (go_big_quiet_step (first|(rename_i u;go_at_call 200;exact dk u (CS.out u))|(rename_i u;go_at_call 197;exact dk u (CO.out u))))
    refine wpQuiet_nil ?_;intro T H;obtain⟨d,rfl⟩:=H;have G9:=dJ d.gr;have V2:=fun(v:GrW d.val)=>Y ⟨v.val,d.gr.trans v.gr⟩;have F:=fun(v:GrW d.val)=>t ⟨v.val,d.gr.trans v.gr⟩;have E:=fun(v:GrW d.val)=>z ⟨v.val,d.gr.trans v.gr⟩;have VN:=fun(v:GrW d.val)=>UN ⟨v.val,d.gr.trans v.gr⟩;have O:=dJ t;clear Y t aa Z z UN;go_wp2_with (go_at_call 200;refine(CT.out _).mono ?_;rintro e w1 ⟨rfl,rfl⟩);refine dc (by kernel_rfl) (by kernel_rfl) ?_;repeat (go_big_quiet_step (fail))
    refine wpQuiet_nil ?_;intro w8 G;obtain⟨J,rfl⟩:=G;have M:=dJ (G9.out.trans J.gr);clear V2 F E VN;go_wp2_with (go_at_call 176;refine(dS _).mono ?_;rintro e w7 ⟨rfl,g7⟩;have G7:=dJ (M.out.trans g7);obtain⟨⟨r0,r1,r2⟩,f0,f1,f2⟩:=U.out w7 G7.out;obtain⟨C,I,B,A⟩:=K.out w7 zX G7.out;obtain⟨W9,l⟩:=xJ (dy w7 (w.heap.size+1+1+1) zX);rw[l]at C I B A;unfold dy at l;dsimp only[zX]at l I B A;have D:=dJ C;clear C);refine yq (v:=vv zX) (by simp[results,results206,go_sem,I,B,A];rfl) rfl ?_;exact⟨rfl,D.out⟩
   ·have Q:(if x.g=8/\N<m then zX else (⟨false,(j:Int)+1,m⟩:Rn.V))=⟨false,(j:Int)+1,m⟩:=by rw[yt];rintro⟨-,q⟩;rcases X.out.2 q with q|q;exact L q;exact ac q
    rw[Q,y];have ay:decide (S<0)=false:=by simpa using L
    have ab:decide (N<S)=false:=by simpa using ac
    clear Q y
    go_enter func206, ntmps206
    go_wp2;refine dc (by kernel_rfl) (by kernel_rfl) ?_
    repeat (go_big_quiet_step (first|(rename_i u;go_at_call 200;exact dk u (CS.out u))|(rename_i u;go_at_call 197;exact dk u (CO.out u))))
    refine wpQuiet_nil ?_;intro T H;obtain⟨d,rfl⟩:=H;have G9:=dJ d.gr;have V2:=fun(v:GrW d.val)=>Y ⟨v.val,d.gr.trans v.gr⟩;have F:=fun(v:GrW d.val)=>t ⟨v.val,d.gr.trans v.gr⟩;have E:=fun(v:GrW d.val)=>z ⟨v.val,d.gr.trans v.gr⟩;have VN:=fun(v:GrW d.val)=>UN ⟨v.val,d.gr.trans v.gr⟩;have O:=dJ t;clear Y t aa Z z UN;go_wp2_with (go_at_call 200;refine(CT.out _).mono ?_;rintro e w1 ⟨rfl,rfl⟩);refine dc (by kernel_rfl) (by kernel_rfl) ?_;repeat (go_big_quiet_step (fail))
    refine wpQuiet_nil ?_;intro w8 G;obtain⟨J,rfl⟩:=G;have M:=dJ (G9.out.trans J.gr);clear V2 F E VN;have aA:=O.out ⟨J.val,M.out⟩;obtain⟨⟨r0,r1,r2⟩,f0,f1,f2⟩:=U.out J.val M.out;obtain⟨C,I,B,A⟩:=K.out J.val ⟨false,(j:Int)+1,m⟩ M.out;obtain⟨W9,l⟩:=xJ (dy J.val (w.heap.size+1+1+1) ⟨false,(j:Int)+1,m⟩);rw[l]at C I B A;unfold dy at l;dsimp only at l I B A;have D:=dJ C;clear C;go_wp2;refine yq (v:=vv ⟨false,(j:Int)+1,m⟩) (by simp[results,results206,go_sem,I,B,A];rfl) rfl ?_;exact⟨rfl,D.out⟩
 ·have Q:(if x.g=8/\N<m then zX else (⟨false,(j:Int)+1,m⟩:Rn.V))=⟨false,(j:Int)+1,m⟩:=by rw[yt];rintro⟨q,-⟩;exact y q
  rw[Q];have aB:(x.g == 8)=false:=by simpa using y
  clear Q
  go_enter func206, ntmps206
  go_wp2;refine dc (by kernel_rfl) (by kernel_rfl) ?_
  repeat (go_big_quiet_step (first|(rename_i u;go_at_call 200;exact dk u (CS.out u))|(rename_i u;go_at_call 197;exact dk u (CO.out u))))
  refine wpQuiet_nil ?_;intro T H;obtain⟨d,rfl⟩:=H;have G9:=dJ d.gr;have V2:=fun(v:GrW d.val)=>Y ⟨v.val,d.gr.trans v.gr⟩;have F:=fun(v:GrW d.val)=>t ⟨v.val,d.gr.trans v.gr⟩;have E:=fun(v:GrW d.val)=>z ⟨v.val,d.gr.trans v.gr⟩;have VN:=fun(v:GrW d.val)=>UN ⟨v.val,d.gr.trans v.gr⟩;have O:=dJ t;clear Y t aa Z z UN;go_wp2_with (go_at_call 200;refine(CT.out _).mono ?_;rintro e w1 ⟨rfl,rfl⟩);refine dc (by kernel_rfl) (by kernel_rfl) ?_;repeat (go_big_quiet_step (fail))
  refine wpQuiet_nil ?_;intro w8 G;obtain⟨J,rfl⟩:=G;have M:=dJ (G9.out.trans J.gr);clear V2 F E VN;have aA:=O.out ⟨J.val,M.out⟩;obtain⟨⟨r0,r1,r2⟩,f0,f1,f2⟩:=U.out J.val M.out;obtain⟨C,I,B,A⟩:=K.out J.val ⟨false,(j:Int)+1,m⟩ M.out;obtain⟨W9,l⟩:=xJ (dy J.val (w.heap.size+1+1+1) ⟨false,(j:Int)+1,m⟩);rw[l]at C I B A;unfold dy at l;dsimp only at l I B A;have D:=dJ C;clear C;go_wp2;refine yq (v:=vv ⟨false,(j:Int)+1,m⟩) (by simp[results,results206,go_sem,I,B,A];rfl) rfl ?_;exact⟨rfl,D.out⟩
theorem qI {s:AN}{o:zO}(h:DS c pk w s bl o om wv bv)(hf:VFn c.f)(v:Int)(h0:0<=v)(h1:v<An c.f) :
  Calls prog 175 #[.pointer (some ⟨c.Bs,0,none⟩),.int .i64 v] w (RG (.tuple #[.int .i64 (Ref.kind c.f v),.bool true]) w):=by
 have c0:w.cell? ⟨c.Bs,0,none⟩=some c.vp:=h.cell 0;have c3:w.cell? ⟨c.Bs,3,none⟩=some c.vb:=h.cell 3;have Q:=h.fn;have D:=hf.val.size;obtain⟨al,am,ak,e,hp,-,hb⟩:=Q;injection e with e;injection e with e;injection e with M e;injection e with _ e;injection e with _ e;injection e with N _;rw[M]at c0;rw[N]at c3;have p:An c.f=c.f.p.length+AX c.f.b:=by unfold An yZ;rw[yv]
 rcases KC c.f h0 h1 with ⟨-,A⟩|⟨j,i,l,x,hl,H,rfl⟩
 ·obtain⟨k,rfl⟩:=xZ h0;obtain⟨Ap,cp,rfl,p1,p2,p3⟩:=hp;obtain⟨bp,op,rfl,-,p4⟩:=p3 (by omega);obtain⟨z,Y⟩:∃z,c.f.p[k]?=some z:=⟨_,xR (by omega)⟩;have hc:=p4 k z Y
  have t:Hid (Ref.kind c.f (k:Int)=z):=by show _=_;unfold Ref.kind;rw[yt (by omega),yr A,ya,xU,Y];rfl
  have G:k<c.f.p.length:=by omega
  clear p3 p4 Y hb h hf h0 h1 M N p
  go_enter func175, ntmps175
  go_wp2;go_ret2;exact⟨by rw[t.out];rfl,yO _⟩
 ·have ag:j<c.f.b.length:=(xS.1 hl).1;have af:i<l.length:=(xS.1 H).1;have t:Hid (Ref.kind c.f ((yZ c.f j+i:Nat):Int)=x.w):=JL c.f hl H;have HN:Hid (∀k d,k<j->c.f.b[k]?=some d->yZ c.f (k+1)=yZ c.f k+d.length/\yZ c.f k+d.length<=yZ c.f j):=fun k d G g=>⟨IY c.f g,Jv c.f g G⟩;have C:(c.f.p.length:Int)<=((yZ c.f j+i:Nat):Int):=by unfold yZ;omega
  have r:((yZ c.f j+i:Nat):Int)<100:=by omega
  have B:yZ c.f 0=c.f.p.length:=by unfold yZ AX;simp
  obtain⟨Ab,cb,rfl,b1,b2,b3⟩:=hb;obtain⟨bb,ob,rfl,-,L⟩:=b3 (by omega)
  have I:Hid (∀k d,c.f.b[k]?=some d->∃E F,w.cell? ⟨bb,ob+k,none⟩=some (.slice E d.length F)/\d.length<=17592186044416):=fun k d g=>by obtain⟨u,hu,E,F,rfl,q1,q2,q3⟩:=L k d g;exact⟨E,F,hu,q2⟩
  obtain⟨u,hu,O⟩:=L j l hl;obtain⟨E,F,rfl,l1,l2,l3⟩:=O;obtain⟨bl,ol,rfl,-,l4⟩:=l3 (by omega);obtain⟨-,-,-,hw,-⟩:=l4 i x H;obtain⟨Ap,cp,rfl,p1,p2,-⟩:=hp;have J:Hid (∀k,k<c.f.b.length->∃d,c.f.b[k]?=some d):=fun k G=>⟨_,xR G⟩;obtain⟨q,X⟩:=xJ (yZ c.f j);have HQ:=dJ X;rw[X]at C r t HN ⊢;obtain⟨v,hv⟩:∃v:Int,((q+i:Nat):Int)=v:=⟨_,rfl⟩;rw[hv]at C r t ⊢;have y:=dJ hv;have v0:0<=v:=by omega
  have K:=dJ B;have aa:c.f.b.length<=10:=D.2.2.2.1;clear X hv b3 L l3 l4 hl H h hf h0 h1 M N D p B
  go_enter func175, ntmps175
  go_wp2
  go_loop [6,7] (fun s6 Z=>∃(k m:Nat),k<=j/\Z=.int .i64 (k:Int)/\s6=.int .i64 (m:Int)/\Hid (m=yZ c.f k/\m<=q)) (fun _ Z=>j-(intOf Z).toNat)
  case atStart=>exact⟨0,c.f.p.length,yI _,rfl,rfl,K.out.symm,by rw[<-HQ.out];unfold yZ;omega⟩
  case round =>
   obtain⟨k,m,ah,rfl,rfl,hm⟩:=hrel;by_cases he:k=j
   ·subst he;have W:m=q:=by rw[hm.out.1,HQ.out]
    subst W;have A:v<(m:Int)+(l.length:Int):=by have:=y.out;omega
    have U:(m:Int)+(l.length:Int)<=17592186044516:=by have:=y.out;omega
    have aj:v-(m:Int)=(i:Int):=by have:=y.out;omega
    go_wp2;go_ret2;exact⟨by rw[t.out];rfl,yO _⟩
   ·have R:k<c.f.b.length:=by omega
    obtain⟨d,g⟩:=J.out k R;obtain⟨ac,ad,ai,ab⟩:=I.out k d g;obtain⟨n1,n2⟩:=HN.out k d (by omega) g;have S:=hm.out.1;have ae:¬v<(m:Int)+(d.length:Int):=by have:=y.out;omega
    have T:Hid (m+d.length=yZ c.f (k+1)/\m+d.length<=q):=⟨by omega,by omega⟩;have U:(m:Int)+(d.length:Int)<=100:=by have:=y.out;omega
    clear g n1 n2 S;go_wp2;go_round;case rel=>exact⟨k+1,m+d.length,by omega,by go_num,by go_num,T⟩
    case measure=>simp[intOf];omega
open Go.RowKit
theorem jI (a b l:Int)(w:World)(ha:0<=a/\a<4294967296)(hb:0<=b/\b<=4294967296)(hl:0<=l/\l<4294967296):Calls prog 214 #[.int .i64 a,.int .i64 b,.int .i64 l] w (RS (.bool (decide (l<a*b))) w):=by
 obtain⟨m,q⟩:=ha;obtain⟨r,t⟩:=hb;obtain⟨g,u⟩:=hl;by_cases d:a=0
 ·subst d
  go_enter func214, ntmps214
  go_wp2_with (fail);go_ret;refine⟨?_,rfl⟩;have:¬l<0*b:=by simp;omega
  simp[this]
  try omega
 ·have p:(a == 0)=false:=by simpa using d
  have a3:0<a:=by omega
  have y:0<=l / a:=yH g m;have z:l / a<=l:=Int.ediv_le_self a g
  have j:Hid (l / a<b↔l<a*b):=by show _↔_;rw[Int.ediv_lt_iff_lt_mul a3,Int.mul_comm]
  clear d
  go_enter func214, ntmps214
  go_wp2_with (fail);go_ret;refine⟨?_,rfl⟩;simp[j.out,bne,p]
theorem my (o f n a b:Int)(w:World)(ho:1<=o/\o<=13)(hf:0<=f/\f<=7)(hn:zi n)(ha:yX n a)(hb:yX n b)(hz:Wd.op o n a b=none):Calls prog 202 #[.int .i64 o,.int .i64 f,.int .i64 n,.int .u32 a,.int .u32 b] w (RG (.tuple #[.bool false,.int .i64 0]) w):=by
 have j:=dJ fun d=>sO o n a b d ho hn ha hb;have g:=dJ fun d=>qP o n a b d ho hn ha hb;unfold fk at g;rw[hz]at g;obtain⟨m,p⟩:=hf;clear hz ho hn ha hb
 go_enter func202, ntmps202
 go_wp2_with (first|(go_at_call 212;refine(j.out _).mono ?_;rintro e d ⟨rfl,rfl⟩)|(go_at_call 213;refine(g.out _).mono ?_;rintro e d ⟨rfl,l⟩))
 go_ret2;exact⟨rfl,l⟩
theorem mz (o f n a b z:Int)(w:World)(ho:1<=o/\o<=13)(hf:0<=f/\f<=7)(hn:zi n)(ha:yX n a)(hb:yX n b)(hz:Wd.op o n a b=some z):Calls prog 202 #[.int .i64 o,.int .i64 f,.int .i64 n,.int .u32 a,.int .u32 b] w (RG (.tuple #[.bool (Gw o f n a b),.int .i64 0]) w):=by
 have L:=dJ fun d=>sO o n a b d ho hn ha hb;have u:=dJ fun d=>qP o n a b d ho hn ha hb;unfold fk at u;rw[hz]at u;obtain⟨Z,f2⟩:=hf;obtain⟨A,B⟩:=dL hn ha;obtain⟨C,Q⟩:=dL hn hb;obtain⟨x1,x2⟩:=Eo hn ha;obtain⟨y1,y2⟩:=Eo hn hb;have hh:=Ft hn;have S:=C4 hn;have hp:=BC (n-1);have U:=BC n;have W:m9 (n-1)<=2147483648:=by omega
 obtain⟨n1,n2⟩:=id hn;have CS:=dJ fun d=>dO n a d hn A B;have M:=dJ fun d=>dO n b d hn C Q;have N:=dJ fun d=>dN n d (by omega) (by omega);have K:=dJ fun d=>dN (n-1) d (by omega) (by omega);have J:=dJ fun d=>jI a b (m9 n-1) d ⟨A,B⟩ ⟨C,by omega⟩ ⟨by omega,by omega⟩;have E:=jc (s:=2147483648) (by omega) (by omega) (show -2147483648<=zU n a by omega) (show zU n a<=2147483648 by omega) (show -2147483648<=zU n b by omega) (show zU n b<=2147483648 by omega)
 have g:11<=o->b<n:=fun h=>by rcases (by omega:o=11\/o=12\/o=13) with rfl|rfl|rfl<;>(simp[Wd.op]at hz;exact hz.1)
 have hk:=BC b;have T:(m9 b == 0)=false:=by simp;omega
 have j:11<=o->m9 b<=m9 (n-1):=fun h=>Hg (by have:=g h;omega);have r:=fun(h:11<=o)=>dJ fun d=>dN b d C (by have:=g h;omega);have q:=fun(h:11<=o)=>dJ fun d=>jI a (m9 b) (m9 n-1) d ⟨A,B⟩ ⟨by omega,by have:=j h;omega⟩ ⟨by omega,by omega⟩;have p:=fun(h:11<=o)=>jc (s:=2147483648) (by omega) (by omega) (show -2147483648<=zU n a by omega) (show zU n a<=2147483648 by omega) (show -2147483648<=m9 b by omega) (show m9 b<=2147483648 by have:=j h;omega);have l:o=4->¬b=0:=fun h=>by subst h;simp[Wd.op]at hz;exact hz.1
 have m:o=6->¬zU n b=0:=fun h=>by subst h;simp[Wd.op]at hz;have h1:=hz.1.1;have:=hb.2;unfold zU;split<;>omega
 unfold Gw;simp only[show (2:Int) ^ b.toNat=m9 b from rfl];obtain⟨s,F⟩:=xJ (m9 n);obtain⟨t,G⟩:=xJ (m9 (n-1));obtain⟨k,D⟩:=xJ (m9 b);obtain⟨x,H⟩:=xJ (zU n a);obtain⟨y,I⟩:=xJ (zU n b);simp only[F,G,D,H,I]at *;have O:=dJ hh;clear hn ha hb F G D H I hz hh;rcases (by omega:o=1\/o=2\/o=3\/o=4\/o=5\/o=6\/o=7\/o=8\/o=9\/o=10\/o=11\/o=12\/o=13) with rfl|rfl|rfl|rfl|rfl|rfl|rfl|rfl|rfl|rfl|rfl|rfl|rfl
 all_goals
  simp only[Int.reduceEq,reduceIte,or_self,or_false,or_true,false_or,true_or];clear ho
  first|replace g:=g (by decide)|clear g
  first|replace j:=j (by decide)|clear j
  first|replace r:=r (by decide)|clear r
  first|replace q:=q (by decide)|clear q
  first|replace E:=p (by decide)|skip
  obtain⟨m1,m2⟩:=E;clear p
  first|(replace l:=l rfl;have Y:(b == 0)=false:=by simpa using l)|clear l
  first|(replace m:=m rfl;have X:(y == 0)=false:=by simpa using m)|clear m
 all_goals
  go_enter func202, ntmps202
  go_wp2_with (first|(go_at_call 213;refine(u.out _).mono ?_;rintro e d ⟨rfl,R⟩)|(go_at_call 212;refine(L.out _).mono ?_;rintro e d ⟨rfl,rfl⟩)|(go_at_call 200;(with_reducible refine(CS.out _).mono ?_);rintro e d ⟨rfl,rfl⟩)|(go_at_call 200;(with_reducible refine(M.out _).mono ?_);rintro e d ⟨rfl,rfl⟩)|(go_at_call 74;(with_reducible refine(N.out _).mono ?_);rintro e d ⟨rfl,rfl⟩)|(go_at_call 74;(with_reducible refine(K.out _).mono ?_);rintro e d ⟨rfl,rfl⟩)|(go_at_call 74;(with_reducible refine(r.out _).mono ?_);rintro e d ⟨rfl,rfl⟩)|(go_at_call 214;(with_reducible refine(J.out _).mono ?_);rintro e d ⟨rfl,rfl⟩)|(go_at_call 214;(with_reducible refine(q.out _).mono ?_);rintro e d ⟨rfl,rfl⟩))
  all_goals
   go_ret2;refine⟨congrArg (fun v=>Ending.returned (.tuple #[.bool v,.int .i64 0])) (Bool.eq_iff_iff.mpr ?_),R⟩;have hh:=O.out;simp
   try omega
section
variable {a:Act}{K:Act->World->Prop}{ops:Array Oper}{c:Cfg}{Q:Exit->Act->World->Prop}{B bytes k n:Nat}{o:Oper}{P:Program}{e e':TypeId}{v z:Value}{w:World}
section
open Go.RowKit
theorem ij:∀a b:List Rn.V,dB (a++b)=dB a++dB b
 | [],b=>rfl
 | x::r,b=>by simp only[List.cons_append,dB,ij r b]
def VsAt (w:World)(v:Value)(l:List Rn.V):Prop:=∃B,w.ownsRow B 24 3 v l.length (dB l)
section
variable {w w':World}{v:Value}{l:List Rn.V}
theorem VsAt.gr (h:VsAt w v l)(g:Gr w w'):VsAt w' v l:=by obtain⟨B,h⟩:=h;exact⟨B,ec h g⟩
theorem VsAt.form (h:VsAt w v l):∃A c,v=.slice A l.length c/\l.length<=c:=by obtain⟨B,h⟩:=h;obtain⟨A,c,e,d,-⟩:=dE h;exact⟨A,c,e,d⟩
theorem VsAt.cells (h:VsAt w v l){y:Rn.V}(hy:l[k]?=some y):∃b c,v=.slice (some ⟨b,0,none⟩) l.length c/\l.length<=c/\b<w.heap.size/\w.cell? ⟨b,k*3,none⟩=some (.bool y.p)/\w.cell? ⟨b,k*3+1,none⟩=some (.int .i64 y.s)/\w.cell? ⟨b,k*3+2,none⟩=some (.int .u32 y.n):=by obtain⟨B,h⟩:=h;obtain⟨A,c,rfl,q,-⟩:=dE h;have t:=(xS.1 hy).1;obtain⟨b,rfl,r,-,d⟩:=dx h rfl (by omega);obtain⟨g,j,m⟩:=dX l k y hy;rw[Nat.mul_comm]at g j m;exact⟨b,c,rfl,q,r,(d _ (by omega)).trans g,(d _ (by omega)).trans j,(d _ (by omega)).trans m⟩
end
theorem wD:(prog.info? 24).map (fun i=>(i.zero,i.size,i.bytes))=some (some (.agg #[.bool false,.int .i64 0,.int .u32 0]),3,24):=by kernel_rfl
theorem kA {a b:World}{row:Option Nat}(g:Gr w a)(h:a.grownBy b row)(hr:∀k,row=some k->w.heap.size<=k):Gr w b :=
 ⟨h.os.trans g.os,h.tape.trans g.tape,h.output.trans g.output,Nat.le_trans g.size h.size,fun k d=>(h.block k (by have:=g.size;omega) (fun e=>by have:=hr k e.symm;omega)).trans (g.heap k d)⟩
theorem je {B' n' sz sz':Nat}{v':Value}{xs ys:List Value}(h:w.ownsRow B e sz v n xs)(h':w.ownsRow B' e' sz' v' n' ys)(hne:e≠e'):∀k,v.ownBlock=some k->v'.ownBlock≠some k:=by
 intro k j l
 have f:∀{B n sz:Nat} {e:TypeId} {v:Value} {xs:List Value},w.ownsRow B e sz v n xs->v.ownBlock=some k->∃d,w.heap[k]?=some (.cells d e (0,0)):=by
  intro B n sz e v xs h j;rcases h.2 with ⟨rfl,_⟩|⟨g,m,d,rfl,y,p,_⟩
  ·simp[Value.ownBlock]at j
  ·simp[Value.ownBlock]at j;subst j;exact⟨d,p⟩
 obtain⟨t,q⟩:=f h j;obtain⟨u,r⟩:=f h' l;exact de q r hne rfl
theorem me {F:Prop}{t:TypeId}{i:TypeInfo}
  (ht:P.underlying t=some (.slice e)) (hi:P.info? e=some i) (hz:i.zero=some z) (hsize:i.size=3) (hby:i.bytes=bytes) (hzs:z.cells.size=3) (hbb:bytes<=128)
  (hgd:o.guard=none) (s x:Operand) (ho:o.op=.call {callee:=.builtin .append,args:=#[s,x],argTypes:=#[t,t]})
   {l:List Rn.V} (hn:l.length=n) (hs:a.eval s=v) (hown:w.ownsRow B e 3 v n (dB l)) {y:Rn.V}  (hx:a.eval x=.slice (some ⟨w.heap.size,0,none⟩) 1 1) (hlt:n<1099511627776) (hB:B<=w.heap.size)
  (h:∀A c w',w'.ownsRow B e 3 (.slice A (n+1) c) (n+1) (dB (l++[y]))->(w.alloc (.cells #[.bool y.p,.int .i64 y.s,.int .u32 y.n] e')).grownBy w' v.ownBlock->K (a.put o.dst (.slice A (n+1) c)) w') :
  if Region.wanted o (yielded ops a.tmps)=true then Oper.wp P o a (w.alloc (.cells #[.bool y.p,.int .i64 y.s,.int .u32 y.n] e')) K Q else F:=by
 have r:Region.wanted o (yielded ops a.tmps)=true:=by simp[Region.wanted,hgd]
 rw[yr r];refine eN s x t ho B e i z 3 bytes ht hi hz hsize hby hzs (by omega) v n (dB l) hs (ec hown ((yO _).alloc _)) _ 1 [.bool y.p,.int .i64 y.s,.int .u32 y.n] hx (Src.newN _ [.bool y.p,.int .i64 y.s,.int .u32 y.n] _) ?_ ?_ ?_ ?_ ?_
 ·intro u g;simp at g;rcases g with rfl|rfl|rfl<;>rfl
 ·simp only[maxLen];omega
 ·have:(n+1)*bytes<=(n+1)*128:=Nat.mul_le_mul_left _ hbb;omega
 ·simp;omega
 ·intro C w' d q m;have j:dB l++[.bool y.p,.int .i64 y.s,.int .u32 y.n]=dB (l++[y]):=by rw[ij];rfl
  rw[j]at d;obtain⟨A,c,hv,-⟩:=dE d;subst hv;exact h A c w' d q
theorem qH {pk bl:List Int}{s:AN}{o:zO}{om wv bv:Value}(h:DS c pk w s bl o om wv bv)(hf:VFn c.f)(x:Ins)(va vt:Value)(hx:IntsAt c.n₀ w va x.args)(hl:x.args.length<=40)(hin:∀v∈x.args,0<=v/\v<s.v.length)(hsl:s.v.length=An c.f)(hsn:s.v.length<=1000) :
  Calls prog 155 #[.pointer (some ⟨c.Bs,0,none⟩),dj x va vt] w fun e w'=>∃A c1 A' c',e=.returned (.tuple #[.slice A x.args.length c1,.slice A' x.args.length c'])/\VsAt w' (.slice A x.args.length c1) (x.args.map s.get)/\IntsAt w'.heap.size w' (.slice A' x.args.length c') (x.args.map (Ref.kind c.f))/\Gr w w':=by
 obtain⟨i0,hi,au,av,aw⟩:=info_parts dK;obtain⟨iv,ao,ap,aq,ar⟩:=info_parts wD;obtain⟨W,U⟩:=xJ (dW w x va vt);have S:Gr w W:=by rw[<-U];exact(yO w).alloc _
 have gx:Gr (dW w x va vt) W:=by rw[U];exact yO _
 have az:W.heap.size=w.heap.size+1:=by rw[<-U];unfold dW;simp
 obtain⟨Aa,ca,rfl,a1,a2,a3⟩:=hx;have m:Hid (∀wr,Gr W wr->wr.cell? ⟨w.heap.size,3,none⟩=some (.slice Aa x.args.length ca)):=fun wr g=>(dl (gx.trans g)).2.2.2.1
 have L:Hid (∀(k:Nat)(z:Int),x.args[k]?=some z->∃R oa,Aa=some ⟨R,oa,none⟩/\∀wr,Gr W wr->wr.cell? ⟨R,oa+k,none⟩=some (.int .i64 z)):=fun k z d=>by obtain⟨R,oa,e,aA,a4⟩:=a3 (by have:=(xS.1 d).1;omega);exact⟨R,oa,e,fun wr g=>((S.trans g).cell _ _ (by have:=h.n₀;omega)).trans (a4 k z d)⟩
 have t:Hid (∀(z:Int),z∈x.args->∃l:Nat,z=(l:Int)/\l<s.v.length/\∀wr,Gr W wr->wr.cell? ⟨c.Bv,l*3,none⟩=some (.bool (s.get z).p)/\wr.cell? ⟨c.Bv,l*3+1,none⟩=some (.int .i64 (s.get z).s)/\wr.cell? ⟨c.Bv,l*3+2,none⟩=some (.int .u32 (s.get z).n)/\wr.cell? ⟨c.Bs,14,none⟩=some (.slice (some ⟨c.Bv,0,none⟩) s.v.length s.v.length)):=fun z d=>by
  obtain⟨z0,z1⟩:=hin z d;obtain⟨l,rfl⟩:=xZ z0;have r:l<s.v.length:=by omega
  refine⟨l,rfl,r,fun wr g=>?_⟩;have hp:=h.gr (S.trans g)
  have e:s.v[l]?=some (s.get (l:Int)):=by unfold AN.get;rw[ya,xU,xR r];rfl
  obtain⟨e0,e1,e2⟩:=dX _ _ _ e;rw[Nat.mul_comm]at e0 e1 e2;exact⟨(yo _ _ _ _ _ _ hp.v).trans (by simpa using e0),(yo _ _ _ _ _ _ hp.v).trans (by simpa using e1),(yo _ _ _ _ _ _ hp.v).trans (by simpa using e2),hp.cell 14⟩
 have ag:Hid (∀z,z∈x.args->∀wr,Gr W wr->Calls prog 175 #[.pointer (some ⟨c.Bs,0,none⟩),.int .i64 z] wr (RG (.tuple #[.int .i64 (Ref.kind c.f z),.bool true]) wr)):=fun z d wr g=>qI (h.gr (S.trans g)) hf z (hin z d).1 (by have:=(hin z d).2;omega);have ah:=dJ S;have M:Hid (∀k,k<x.args.length->∃z,x.args[k]?=some z):=fun k j=>⟨_,xR j⟩;obtain⟨n,hn⟩:=xJ x.args.length;have HN:=dJ hn;rw[hn]at a1 a2 m hl M ⊢;obtain⟨VN,T⟩:=xJ s.v.length;rw[T]at t hsn;have x3:=m.out W (yO W);have Z:W.ownsRow W.heap.size 24 3 (.slice none 0 0) 0 (dB ((x.args.take 0).map s.get)):=World.ownsRow_nil _ _ _ _;have Y:W.ownsRow W.heap.size 3 1 (.slice none 0 0) 0 (((x.args.take 0).map (Ref.kind c.f)).map (Value.int .i64)):=World.ownsRow_nil _ _ _ _;have am:=dJ Z;have al:=dJ Y;have X:=U;unfold dW at X;rw[hn]at X;unfold dj;clear h hf hin hsl a3 S gx Z Y T hn U
 go_enter func155, ntmps155
 go_wp2
 go_loopw [6,7,8] (fun s6 s7 s8 wr=>∃(k:Nat)(J H:Option Addr)(c1 I:Nat),k<=n/\s8=.int .i64 (k:Int)/\s6=.slice J k c1/\s7=.slice H k I/\Hid (wr.ownsRow W.heap.size 24 3 (.slice J k c1) k (dB ((x.args.take k).map s.get)))/\Hid (wr.ownsRow W.heap.size 3 1 (.slice H k I) k (((x.args.take k).map (Ref.kind c.f)).map (Value.int .i64)))/\Hid (Gr W wr)) (fun _ _ s8 _=>n-(intOf s8).toNat)
 case atStart=>exact⟨0,none,none,0,0,yI _,rfl,rfl,rfl,am,al,yO _⟩
 case round =>
  obtain⟨k,J,H,c1,I,j,rfl,rfl,rfl,hr,E,hg⟩:=hrel;have y3:=m.out wr hg.out;by_cases F:k<n
  ·obtain⟨z,d⟩:=M.out k F;obtain⟨R,oa,rfl,ha⟩:=L.out k z d;have G:=xT d;have ay:=ha wr hg.out;have CK:=dJ (ag.out z G wr hg.out);obtain⟨l,r,ax,af⟩:=t.out z G;have Q:=dJ af;have ai:=dJ ha;have O:Hid ((x.args.take (k+1)).map s.get=(x.args.take k).map s.get++[s.get z]):=by show _=_;rw[List.take_add_one,d];simp
   have N:Hid (((x.args.take (k+1)).map (Ref.kind c.f)).map (Value.int .i64)=((x.args.take k).map (Ref.kind c.f)).map (Value.int .i64)++[.int .i64 (Ref.kind c.f z)]):=by show _=_;rw[List.take_add_one,d];simp
   have B:Hid ((((x.args.take k).map (Ref.kind c.f)).map (Value.int .i64)).length=k):=by show _=_;simp;have:=HN.out;omega
   have ak:Hid (((x.args.take k).map s.get).length=k):=by show _=_;simp;have:=HN.out;omega
   obtain⟨kz,ab⟩:=xJ (Ref.kind c.f z);rw[ab]at CK N;obtain⟨sv,ae⟩:=xJ (s.get z);rw[ae]at Q O;have aj:Hid (k<n):=F;clear d G ha af ab ae;subst r
   go_wp2_with (first
     | (go_at_call 175;refine CK.out.mono ?_;rintro e w1 ⟨rfl,g1⟩;have G1:=dJ (hg.out.trans g1);have R1:=dJ (ec hr.out g1);have K1:=dJ (ec E.out g1);clear g1)
     | (at_builtin;refine kZ (n:=k) (v:=.slice H k I) underlying33 hi au av aw rfl (by omega) rfl (.tmp 28) (.tmp 30) rfl B.out rfl (by unfold Own1;rw[B.out];exact K1.out) rfl rfl (by omega) G1.out.size ?_;intro A4 c4 w4 ac C aa;
         have R4:=dJ (jf (ec R1.out ((yO _).alloc _)) C (fun k j=>je R1.out K1.out (by decide) k j));
         have K4:Hid (w4.ownsRow W.heap.size 3 1 (.slice A4 (k+1) c4) (k+1) (((x.args.take (k+1)).map (Ref.kind c.f)).map (Value.int .i64))):=(by show World.ownsRow _ _ _ _ _ _ _;rw[N.out];have q:=ac;unfold Own1 at q;rw[yK,B.out]at q;exact q);
         have K:=dJ (kA ((G1.out).alloc _) C (fun k j=>(dt K1.out k j).1));clear ac C aa))
   have v3:=m.out _ K.out;have va:=ai.out _ K.out;obtain⟨v0,v1,v2,aC⟩:=Q.out _ K.out;have mixed:(prog).follows .mixedOrders=true:=by kernel_rfl
   have R9:=dJ (ec R4.out ((yO w4).drew));have K9:=dJ (ec K4.out (((yO w4).drew).alloc (.cells #[.bool sv.p,.int .i64 sv.s,.int .u32 sv.n] 24)));obtain⟨S1,an⟩:=xJ w1.heap.size;rw[an]
   go_region_law_o ((refine me (n:=k) (v:=.slice J k c1) (y:=sv) underlying110 ao ap aq ar rfl (by omega) rfl (.tmp 32) (.tmp 45) rfl ak.out rfl R9.out rfl (by omega) (by show _<=w4.heap.size;exact K.out.size) ?_;intro A6 c6 w6 ad D;
                      have R6:Hid (w6.ownsRow W.heap.size 24 3 (.slice A6 (k+1) c6) (k+1) (dB ((x.args.take (k+1)).map s.get))):=(by show World.ownsRow _ _ _ _ _ _ _;rw[O.out];exact ad);
                      have K6:=dJ (jf K9.out D (fun k j=>je K4.out R4.out (by decide) k j));
                      have G6:=dJ (kA (K.out.trans (((yO w4).drew).alloc _)) D (fun k j=>(dt R9.out k j).1));clear ad D))
   all_goals
    go_wp2;have aB:=aj.out;exact⟨⟨k+1,A6,A4,c6,c4,by omega,by go_num,rfl,rfl,R6,K6,G6⟩,by simp[intOf];omega⟩
  ·obtain rfl:k=n:=by omega
   have e:x.args.take k=x.args:=yh (by have:=HN.out;omega);rw[e]at hr E;have u:Hid (x.args.length=k):=HN.out;clear F j;go_wp2;go_ret2;refine⟨J,c1,H,I,rfl,⟨W.heap.size,?_⟩,?_,ah.out.trans hg.out⟩
   ·rw[yl,u.out];exact hr.out
   ·have q:Own1 W.heap.size 3 wr (.slice H k I) ((x.args.map (Ref.kind c.f)).map (Value.int .i64)):=by
     unfold Own1;rw[yl,yl,u.out];exact E.out
    exact q.ints (by rw[yl,u.out];omega)
end
end

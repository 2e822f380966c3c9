/- Parts. -/
import Derived.Outline
import Derived.Test.YthfhamagopbgcaaGreatK38
set_option linter.unusedSimpArgs false
set_option linter.unusedVariables false
set_option maxRecDepth 100000
set_option maxHeartbeats 16000000
open Go.Proofs.Tryz
namespace Go.Proofs.YthfhamagopbgcaaGreat
open Go.RowKit
theorem w64 (z:Int)(h0:-9223372036854775808<=z)(h1:z<=9223372036854775807):wrap64 z=z:=by unfold wrap64;omega
theorem rn (o P Q:Int)(hP:0<=P/\P<=1)(hQ:0<=Q/\Q<=1):0<=Wd.bt o P Q/\Wd.bt o P Q<=1:=by
 have d:P=0\/P=1:=by omega
 have g:Q=0\/Q=1:=by omega
 unfold Wd.bt;rcases d with rfl|rfl<;>rcases g with rfl|rfl<;>(split<;>(try split)<;>decide)
theorem lF (o n a b:Int)(w:World)(ho:o=8\/o=9\/o=10)(hn:Wd.Wid n)(ha:Wd.Word n a)(hb:Wd.Word n b):Calls prog 217 #[.int .i64 o,.int .i64 n,.int .u32 a,.int .u32 b] w fun e w'=>e=fc (Wd.op o n a b)/\Gr w w':=by
 obtain⟨a1,a2⟩:=dK hn ha;obtain⟨b1,b2⟩:=dK hn hb;obtain⟨x,rfl⟩:=vF a1;obtain⟨y,rfl⟩:=vF b1;obtain⟨m,rfl⟩:=vF (show 0<=n by have:=hn.1;omega);have hm:m<=32:=by have:=hn.2;omega
 have hx:x<2 ^ m:=by have:=ha.2;rw[Wd.sz_nat,vG]at this;exact_mod_cast this
 have hy:y<2 ^ m:=by have:=hb.2;rw[Wd.sz_nat,vG]at this;exact_mod_cast this
 have W:=dJ (Wd.bw_bits o hm hx hy)
 have HE:Hid (Wd.op o (m:Int) (x:Int) (y:Int)=some (((Wd.bw o x y%2 ^ m:Nat):Nat):Int)):=by show _=_;rw[W.out];rcases ho with rfl|rfl|rfl<;>rfl
 rw[HE.out]
 have p:Hid (∀j:Nat,j<=32->((2:Int) ^ j<=4294967296/\0<(2:Int) ^ j)/\(((Wd.bw o x y%2 ^ j:Nat):Nat):Int)<2 ^ j):=fun j hj=>by
  have S:=Nat.pow_le_pow_right (show 0<2 by decide) hj;have e:2 ^ 32=4294967296:=by decide
  have h2:=Nat.mod_lt (Wd.bw o x y) (Nat.two_pow_pos j);have h3:((2:Int) ^ j)=((2 ^ j:Nat):Int):=by simp
  rw[h3];have:=Nat.two_pow_pos j;omega
 have t:Hid (∀j:Nat,((Wd.bw o x y%2 ^ (j+1):Nat):Int)=((Wd.bw o x y%2 ^ j:Nat):Int)+Wd.bt o ((x:Int) / 2 ^ j%2) ((y:Int) / 2 ^ j%2)*2 ^ j):=fun j=>Wd.bw_step o x y j;have I:Hid (∀P Q:Int,0<=P/\P<=1->0<=Q/\Q<=1->0<=Wd.bt o P Q/\Wd.bt o P Q<=1):=rn o;have E:Hid (∀P Q,o=8->Wd.bt o P Q=P*Q):=fun P Q h=>by subst h;rfl
 have H:Hid (∀P Q,o=9->Wd.bt o P Q=max P Q):=fun P Q h=>by subst h;rfl
 have r:Hid (∀P Q,o=10->Wd.bt o P Q=(P+Q)%2):=fun P Q h=>by subst h;rfl
 have CZ:Hid (∀(j:Nat) d,j<=32->Calls prog 79 #[.int .i64 j] d (RS (.int .i64 (2 ^ j)) d)):=fun j d hj=>by have:=dM (j:Int) d (by omega) (by omega);unfold Wd.sz at this;rw[vG]at this;exact this
 have u:Hid ((((Wd.bw o x y%2 ^ 0:Nat):Nat):Int)=0):=by show _=_;simp[Nat.mod_one]
 obtain⟨G,hG⟩:∃G:Int->Int->Int,Wd.bt o=G:=⟨_,rfl⟩;rw[hG]at t I E H r;clear hG;obtain⟨F,hF⟩:∃F:Nat->Int,(fun j=>(((Wd.bw o x y%2 ^ j:Nat):Nat):Int))=F:=⟨_,rfl⟩;have N:∀j,(((Wd.bw o x y%2 ^ j:Nat):Nat):Int)=F j:=fun j=>by rw[<-hF]
 simp only[N]at p t u ⊢;clear hF N W HE hn ha hb hx hy;rcases ho with rfl|rfl|rfl
 all_goals
  go_enter func217, ntmps217
  go_wp2_with (fail)
  go_loopw [10,11] (fun ad i wr=>∃j:Nat,j<=m/\i=.int .i64 j/\ad=.int .i64 (F j)/\Hid (0<=F j)/\Gr w wr) (fun _ i _=>m-(intOf i).toNat)
  case atStart=>exact⟨0,vU _,rfl,by rw[u.out],dJ (by rw[u.out];omega),wL _⟩
  case round =>
   obtain⟨j,hj,rfl,rfl,M,Y⟩:=hrel;by_cases ac:j<m
   ·obtain⟨⟨p1,p2⟩,p3⟩:=p.out j (by omega);have ag:=dJ (p.out (j+1) (by omega)).2;have U:=dJ fun d=>CZ.out j d (by omega);have q:=dJ (t.out j);obtain⟨s,hs⟩:∃s:Int,2 ^ j=s:=⟨_,rfl⟩;rw[hs]at p1 p2 p3 U q;have aj:0<=(x:Int) / s:=wD (by omega) (by omega);have ak:(x:Int) / s<=(x:Int):=Int.ediv_le_self _ (by omega);have al:0<=(y:Int) / s:=wD (by omega) (by omega);have am:(y:Int) / s<=(y:Int):=Int.ediv_le_self _ (by omega);obtain⟨P,hP⟩:=xJ ((x:Int) / s%2);obtain⟨Q,hQ⟩:=xJ ((y:Int) / s%2);have O:0<=P/\P<=1:=by omega
    have A:0<=Q/\Q<=1:=by omega
    rw[hP,hQ]at q;have D:=I.out P Q O A;have e8:=E.out P Q;have e9:=H.out P Q;have z:=r.out P Q;obtain⟨B,hB⟩:=xJ (G P Q);rw[hB]at q D e8 e9 z
    have ab:0<=P*Q/\P*Q<=1:=by
     have S:P=0\/P=1:=by omega
     rcases S with rfl|rfl
     ·simp
     ·simp;exact A
    have aa:0<=B*s/\B*s<=s:=by
     have S:B=0\/B=1:=by omega
     rcases S with rfl|rfl
     ·simp;omega
     ·simp;omega
    have f0:=M.out;have an:(s == 0)=false:=by simp;omega
    have z0:(0:Int)<=(j:Int):=by omega
    have z1:(j:Int)<(m:Int):=by omega
    have X:=dJ e8;have L:=dJ e9;have K:=dJ z;have W:=dJ hB;have af:=dJ hs;have g:=dJ hP;have l:=dJ hQ;obtain⟨P0,P1⟩:=O;obtain⟨Q0,Q1⟩:=A;obtain⟨ah,ai⟩:=ab;obtain⟨B0,B1⟩:=aa;have Z:=dJ Y;have J:=dJ D;clear e8 e9 z hB hs ac D
    go_upto_region 6 with (fail)
    go_quiet ((go_at_call 79;exact dm (U.out _)));clear hP hQ Y;go_wp2_with (go_at_call 79;refine(U.out _).mono ?_;rintro e d ⟨rfl,rfl⟩);go_roundw
    case rel =>
     have R:=q.out;refine⟨j+1,by omega,by go_num,?_,dJ (by omega),Z.out.drewN _⟩;have ae:=J.out;have w0:=w64 B (by omega) (by omega);have d:=w64 (B*s) (by omega) (by omega);have T:=w64 (F j+B*s) (by omega) (by omega)
     first
      | (have hb:P*Q=B:=(X.out (by simp)).symm
         rw[g.out,l.out,hb,w0,d,T,R])
      | (have hb:B=max P Q:=L.out (by simp)
         have C:(if P<Q then Q else P)=B:=by rw[hb];split<;>omega
         rw[g.out,l.out,C,d,T,R])
      | (have hb:B=max P Q:=L.out (by simp)
         rw[g.out,l.out,<-hb,d,T,R])
      | (have hb:B=(P+Q)%2:=K.out (by simp)
         have C:((x:Int) / s+(y:Int) / s)%2=B:=by rw[hb,<-g.out,<-l.out];omega
         rw[C,d,T,R])
    case measure=>simp[intOf]<;>omega
   ·obtain rfl:j=m:=by omega
    have f0:=M.out;have f1:F j<4294967296:=by obtain⟨⟨p1,p2⟩,p3⟩:=p.out j (by omega);omega
    go_wp2_with (fail);go_ret2;exact⟨rfl,Y⟩
theorem ko (o n a b:Int)(w:World)(ho:o=11\/o=12\/o=13)(hn:Wd.Wid n)(ha:Wd.Word n a)(hb:Wd.Word n b):Calls prog 217 #[.int .i64 o,.int .i64 n,.int .u32 a,.int .u32 b] w fun e w'=>e=fc (Wd.op o n a b)/\Gr w w':=by
 obtain⟨L,a2⟩:=dK hn ha;obtain⟨b1,b2⟩:=dK hn hb;obtain⟨n1,n2⟩:=id hn;have C:Hid (Wd.op o n a b=none->fc (Wd.op o n a b)=.returned (.tuple #[.int .u32 0,.bool false])):=fun h=>by rw[h];rfl
 have B:Hid (∀z,Wd.op o n a b=some z->fc (Wd.op o n a b)=.returned (.tuple #[.int .u32 z,.bool true])):=fun z h=>by rw[h];rfl
 have m:Hid (Wd.op 11 n a b=if n<=b then none else some (a*2 ^ b.toNat%Wd.sz n)):=rfl;have p:Hid (Wd.op 12 n a b=if n<=b then none else some (a / 2 ^ b.toNat)):=rfl;have d:Hid (Wd.op 13 n a b=if n<=b then none else some (Wd.sg n a / 2 ^ b.toNat%Wd.sz n)):=rfl;by_cases t:n<=b
 ·have l:=dJ t;clear hn ha hb;rcases ho with rfl|rfl|rfl
  all_goals
   go_enter func217, ntmps217
   go_wp2_with (fail);go_ret2
   first
    | exact⟨(C.out (by rw[m.out,wa l.out])).symm,wL _⟩
    | exact⟨(C.out (by rw[p.out,wa l.out])).symm,wL _⟩
    | exact⟨(C.out (by rw[d.out,wa l.out])).symm,wL _⟩
 ·have l:=dJ t;obtain⟨k,Z⟩:=vF b1;have A:b.toNat=k:=by omega
  rw[A]at m p d;have q:k<32:=by omega
  have ab:b<n:=by omega
  have E:=dJ Z;clear Z;rcases ho with rfl|rfl|rfl
  ·have R:=Wd.sz_32 hn;have Q:=Wd.sz_pos n;have U:=dJ fun g=>dM n g (by omega) (by omega);have H:Hid (∀i,2*(a*2 ^ i%Wd.sz n)%Wd.sz n=a*2 ^ (i+1)%Wd.sz n):=Wd.shl_step a n;have G:Hid (∀i:Nat,0<=a*2 ^ i%Wd.sz n/\a*2 ^ i%Wd.sz n<Wd.sz n):=fun i=>Wd.mod_word _;have I:Hid (a*2 ^ 0%Wd.sz n=a):=by show _=_;simp;exact Int.emod_eq_of_lt ha.1 ha.2
   obtain⟨s,hs⟩:=xJ (Wd.sz n);rw[hs]at R Q U H G I m;have ac:(s == 0)=false:=by simp;omega
   clear hn ha hb hs t A;have W:=dJ q;clear q
   go_enter func217, ntmps217
   go_wp2_with (fail)
   go_loop [16,17] (fun S i=>∃j:Nat,j<=k/\i=.int .i64 j/\S=.int .i64 (a*2 ^ j%s)) (fun _ i=>k-(intOf i).toNat)
   case atStart=>exact⟨0,vU _,rfl,by rw[I.out]⟩
   case round =>
    obtain⟨j,hj,rfl,rfl⟩:=hrel;have X:=dJ (H.out j);obtain⟨r1,r2⟩:=G.out j;obtain⟨y,u⟩:=xJ (a*2 ^ j%s);rw[u]at X r1 r2 ⊢;have Y:=dJ u;by_cases K:j<k
    ·have z1:(j:Int)<b:=by have:=E.out;omega
     clear u K;go_wp2_with (go_at_call 79;refine(U.out _).mono ?_;rintro e g ⟨rfl,rfl⟩);go_round;case rel=>exact⟨j+1,by have:=E.out;omega,by go_num,by rw[<-X.out]⟩
     case measure=>have:=E.out;simp[intOf]<;>omega
    ·have J:j=k:=by omega
     have N:(j:Int)=b:=by have:=E.out;omega
     rw[J]at Y;have z2:¬(j:Int)<b:=by omega
     clear u K J N;have aa:y<4294967296:=by omega
     go_wp2_with (fail);go_ret2;exact⟨(B.out y (by rw[m.out,wb (by have:=l.out;omega),Y.out])).symm,wL _⟩
  ·have F:Hid (∀g,Calls prog 220 #[.int .i64 a,.int .i64 b] g (RS (.int .i64 (a / 2 ^ k)) g)):=fun g=>by
    have h:=mF a k g (by omega) (by omega) (by omega);rw[<-E.out]at h;exact h
   have O:(0:Int)<2 ^ k:=Int.pow_pos (by decide);have q1:0<=a / 2 ^ k:=wD L (by omega);have q2:a / 2 ^ k<=a:=Int.ediv_le_self _ L;obtain⟨y,u⟩:=xJ (a / 2 ^ k);rw[u]at F q1 q2 p;have q3:y<4294967296:=by omega
   clear hn ha hb u t A O q
   go_enter func217, ntmps217
   go_wp2_with (go_at_call 220;refine(F.out _).mono ?_;rintro e g ⟨rfl,rfl⟩);go_ret2;exact⟨(B.out y (by rw[p.out,wb (by have:=l.out;omega)])).symm,wL _⟩
  ·have hh:=Wd.sz_half hn;have M:=Wd.sz_32 hn;obtain⟨x1,x2⟩:=Wd.sg_range hn ha;have CS:=dJ fun g=>dN n a g hn L a2;obtain⟨x,hx⟩:=xJ (Wd.sg n a);rw[hx]at x1 x2 CS d
   have F:Hid (∀g,Calls prog 220 #[.int .i64 x,.int .i64 b] g (RS (.int .i64 (x / 2 ^ k)) g)):=fun g=>by have h:=mF x k g (by omega) (by omega) (by omega);rw[<-E.out]at h;exact h
   have O:(1:Int)<=2 ^ k:=Int.pow_pos (by decide)
   have D:-4611686018427387904<=x / 2 ^ k/\x / 2 ^ k<=4611686018427387904:=by
    rcases Int.le_total 0 x with h|h
    ·have:=wD h (show (0:Int)<=2 ^ k by omega);have:=Int.ediv_le_self (2 ^ k) h;omega
    ·have h3:x<=x / 2 ^ k:=by
      rw[Int.le_ediv_iff_mul_le (by omega)];have:x*2 ^ k<=x*1:=Int.mul_le_mul_of_nonpos_left h (by omega);omega
     have h2:x / 2 ^ k<=0:=by have:=Int.ediv_le_ediv (show (0:Int)<2 ^ k by omega) h;simpa using this
     omega
   obtain⟨y,u⟩:=xJ (x / 2 ^ k);rw[u]at F D d;have T:=dJ fun g=>ey n y g hn D.1 D.2;obtain⟨r,hr⟩:=xJ (y%Wd.sz n);rw[hr]at T d;clear hn ha hb u t A O hr hx hh M q
   go_enter func217, ntmps217
   go_wp2_with (first|(go_at_call 174;refine(CS.out _).mono ?_;rintro e g ⟨rfl,rfl⟩)|(go_at_call 220;refine(F.out _).mono ?_;rintro e g ⟨rfl,rfl⟩)|(go_at_call 202;refine(T.out _).mono ?_;rintro e g ⟨rfl,rfl⟩))
   go_ret2;exact⟨(B.out r (by rw[d.out,wb (by have:=l.out;omega)])).symm,wL _⟩
theorem pw (o n a b:Int)(w:World)(ho:1<=o/\o<=13)(hn:Wd.Wid n)(ha:Wd.Word n a)(hb:Wd.Word n b):Calls prog 204 #[.int .i64 o,.int .i64 n,.int .u32 a,.int .u32 b] w fun e w'=>e=fc (Wd.op o n a b)/\Gr w w':=by
 rcases (by omega:(o=1\/o=2\/o=3)\/(o=4\/o=5)\/(o=6\/o=7)\/8<=o) with h|h|h|h
 ·exact(tR o n a b w h hn ha hb).mono fun e w' ⟨g,j⟩=>⟨g,j ▸ wL w⟩
 ·exact(sS o n a b w h hn ha hb).mono fun e w' ⟨g,j⟩=>⟨g,j ▸ wL w⟩
 ·exact(sR o n a b w h hn ha hb).mono fun e w' ⟨g,j⟩=>⟨g,j ▸ wL w⟩
 ·obtain⟨A,B⟩:=dK hn ha;obtain⟨C,D⟩:=dK hn hb
  have l:Hid (∀d,Calls prog 217 #[.int .i64 o,.int .i64 n,.int .u32 a,.int .u32 b] d fun e w'=>e=fc (Wd.op o n a b)/\Gr d w'):=fun d=>by
   rcases (by omega:(o=8\/o=9\/o=10)\/(o=11\/o=12\/o=13)) with q|q
   ·exact lF o n a b d q hn ha hb
   ·exact ko o n a b d q hn ha hb
  have CS:=dJ fun d=>dN n a d hn A B;have m:=dJ fun d=>dN n b d hn C D;unfold fc at l ⊢;obtain⟨z,u⟩:=xJ ((Wd.op o n a b).getD 0);obtain⟨k,p⟩:=xJ ((Wd.op o n a b).isSome);obtain⟨x,r⟩:=xJ (Wd.sg n a);obtain⟨y,t⟩:=xJ (Wd.sg n b);rw[u,p]at l ⊢;rw[r]at CS;rw[t]at m;obtain⟨M,N⟩:=ho;have F:(o == 1)=false:=by simp;omega
  have G:(o == 2)=false:=by simp;omega
  have H:(o == 3)=false:=by simp;omega
  have I:(o == 4)=false:=by simp;omega
  have J:(o == 5)=false:=by simp;omega
  have K:(o == 6)=false:=by simp;omega
  have L:(o == 7)=false:=by simp;omega
  clear u p r t hn ha hb
  go_enter func204, ntmps204
  go_wp2_with (first|(go_at_call 174;(with_reducible refine(CS.out _).mono ?_);rintro e d ⟨rfl,rfl⟩)|(go_at_call 174;(with_reducible refine(m.out _).mono ?_);rintro e d ⟨rfl,rfl⟩)|(go_at_call 217;refine(l.out _).mono ?_;rintro e d ⟨rfl,E⟩))
  go_ret2;exact⟨rfl,E⟩
theorem sB (o n a b:Int)(w:World)(ho:1<=o/\o<=13)(hn:Wd.Wid n)(ha:Wd.Word n a)(hb:Wd.Word n b):Calls prog 175 #[.int .i64 o,.int .i64 n,.int .u32 a,.int .u32 b] w (RG (.tuple #[.int .u32 ((Wd.op o n a b).getD 0),.bool (Wd.op o n a b).isSome,.int .i64 0]) w):=by
 have l:=dJ fun d=>qV o n a b d ho hn ha hb;have g:=dJ fun d=>pw o n a b d ho hn ha hb;unfold fc at g
 cases hz:Wd.op o n a b with
 | none =>
  rw[hz]at g;clear hz ho hn ha hb
  go_enter func175, ntmps175
  go_wp2_with (first|(go_at_call 203;refine(l.out _).mono ?_;rintro e d ⟨rfl,rfl⟩)|(go_at_call 204;refine(g.out _).mono ?_;rintro e d ⟨rfl,j⟩))
  go_ret3
  exact⟨rfl,j⟩
 | some z =>
  rw[hz]at g;clear hz ho hn ha hb
  go_enter func175, ntmps175
  go_wp2_with (first|(go_at_call 203;refine(l.out _).mono ?_;rintro e d ⟨rfl,rfl⟩)|(go_at_call 204;refine(g.out _).mono ?_;rintro e d ⟨rfl,j⟩))
  go_ret3
  exact⟨rfl,j⟩
theorem kr (o:Int)(w:World):Calls prog 173 #[.int .i64 o] w (RT (.bool (decide (4<=o) && decide (o<=7))) w):=by
 go_enter func173, ntmps173
 go_wp2;all_goals go_ret
 all_goals exact⟨cZ (by (try simp[*])<;>(try omega)),rfl⟩
def iX (o n:Int)(a b:Rn.V):Bool:=decide ((4<=o/\o<=7)/\((b.p=true\/b.n=0)\/(o=6\/o=7)/\Wd.sg n b.n=-1/\(a.p=true\/Wd.sg n a.n=-Wd.sz (n-1))))
theorem eZ (x:Ins)(va vt:Value)(a b:Rn.V)(w:World)(hd:4<=x.op/\x.op<=7->Wd.Wid x.width/\Wd.Word x.width a.n/\Wd.Word x.width b.n) :
  Calls prog 156 #[df x va vt,vv a,vv b] w (RG (.bool (iX x.op x.width a b)) w):=by
 obtain⟨W,Q⟩:=xJ (((w.alloc (.cells #[.int .i64 x.op,.int .i64 x.width,.int .i64 x.flags,va,.int .u32 x.imm,vt] 67)).alloc (.cells #[.bool a.p,.int .i64 a.s,.int .u32 a.n] 37)).alloc (.cells #[.bool b.p,.int .i64 b.s,.int .u32 b.n] 37));have G:=AF.boxes w x va vt a b 67 37;rw[Q]at G;have O:Gr w W:=by rw[<-Q];exact(((wL w).alloc _).alloc _).alloc _
 have u:=dJ O;have m:=dJ fun g=>kr x.op g;obtain⟨R,t⟩:=xJ (iX x.op x.width a b);rw[t];obtain⟨op,E,fl,args,im,tt⟩:=x;obtain⟨Y,Z,K⟩:=a;obtain⟨bp,aa,A⟩:=b;dsimp only at *;unfold df vv;dsimp only;obtain⟨k0,k1,k2,k3,k4,k5,k6⟩:=G;by_cases B:4<=op/\op<=7
 ·obtain⟨M,S,L⟩:=hd B;have I:(decide (4<=op) && decide (op<=7))=true:=by simp[B]
  rw[I]at m;have hu:=Wd.sz_32 M;have CS:=dJ fun g=>dN E A g M L.1 (by have:=L.2;omega);have N:=dJ fun g=>sB op E K A g (by omega) M S L;have y:=dJ (le (o:=op) (n:=E) (a:=K) (b:=A) B);obtain⟨z,U⟩:=xJ (Wd.op op E K A);rw[U]at N y;obtain⟨X,C⟩:=xJ (Wd.sg E A);rw[C]at CS y;unfold iX at t;dsimp only at t;rw[C]at t;have F:=dJ t;have H:=dJ B;have r:=(by omega:op=4\/op=5\/op=6\/op=7);clear hd t I M S L hu U C O B
  cases bp with
  | true =>
   have j:Hid (R=true):=by show _=_;rw[<-F.out];simp[H.out]
   go_enter func156, ntmps156
   go_wp2_with (go_at_call 173;refine(m.out _).mono ?_;rintro e g ⟨rfl,rfl⟩);go_ret;exact⟨cZ j.out.symm,u.out⟩
  | false =>
   by_cases l:A=0
   ·subst l;have j:Hid (R=true):=by show _=_;rw[<-F.out];simp[H.out]
    go_enter func156, ntmps156
    go_wp2_with (go_at_call 173;refine(m.out _).mono ?_;rintro e g ⟨rfl,rfl⟩);go_ret;exact⟨cZ j.out.symm,u.out⟩
   ·by_cases d:op=6\/op=7
    ·by_cases D:X=-1
     ·subst D
      cases Y with
      | true =>
       have j:Hid (R=true):=by show _=_;rw[<-F.out];simp[H.out,d]
       rcases d with rfl|rfl
       all_goals
        clear r
        go_enter func156, ntmps156
        go_wp2_with (first|(go_at_call 173;refine(m.out _).mono ?_;rintro e g ⟨rfl,rfl⟩)|(go_at_call 174;refine(CS.out _).mono ?_;rintro e g ⟨rfl,rfl⟩))
        go_ret;exact⟨cZ j.out.symm,u.out⟩
      | false =>
       have j:Hid (R=!z.isSome):=by
        show _=_;rw[<-F.out];have:=y.out
        cases z with
        | none =>
         have q:=this.1 rfl;rcases q with q|q
         ·exact absurd q l
         ·simp[H.out,d,q.2.2]
        | some z =>
         have q:¬(A=0\/(op=6\/op=7)/\-1=-1/\Wd.sg E K=-Wd.sz (E-1)):=fun q=>by have:=this.2 q;cases this
         simp[l,d]at q;simp[H.out,d,l,q]
       obtain⟨zb,J⟩:=xJ z.isSome;rw[J]at N j;clear J;rcases d with rfl|rfl
       all_goals
        clear r
        go_enter func156, ntmps156
        go_wp2_with (first|(go_at_call 173;refine(m.out _).mono ?_;rintro e g ⟨rfl,rfl⟩)|(go_at_call 174;refine(CS.out _).mono ?_;rintro e g ⟨rfl,rfl⟩)|(go_at_call 175;refine(N.out _).mono ?_;rintro e g ⟨rfl,g1⟩))
        go_ret;exact⟨cZ j.out.symm,u.out.trans g1⟩
     ·have j:Hid (R=false):=by show _=_;rw[<-F.out];simp[l,D]
      have T:(X != -1)=true:=by simpa using D
      rcases d with rfl|rfl
      all_goals
       clear r
       go_enter func156, ntmps156
       go_wp2_with (first|(go_at_call 173;refine(m.out _).mono ?_;rintro e g ⟨rfl,rfl⟩)|(go_at_call 174;refine(CS.out _).mono ?_;rintro e g ⟨rfl,rfl⟩))
       go_ret;exact⟨cZ j.out.symm,u.out⟩
    ·have j:Hid (R=false):=by show _=_;rw[<-F.out];simp[l,d]
     rcases (by omega:op=4\/op=5) with rfl|rfl
     all_goals
      clear r d
      go_enter func156, ntmps156
      go_wp2_with (go_at_call 173;refine(m.out _).mono ?_;rintro e g ⟨rfl,rfl⟩);go_ret;exact⟨cZ j.out.symm,u.out⟩
 ·have I:(decide (4<=op) && decide (op<=7))=false:=by
   rcases (by omega:¬4<=op\/¬op<=7) with q|q<;>simp[q]
  rw[I]at m;have j:Hid (R=false):=by show _=_;rw[<-t];unfold iX;simp[B]
  clear hd t I O B
  go_enter func156, ntmps156
  go_wp2_with (go_at_call 173;refine(m.out _).mono ?_;rintro e g ⟨rfl,rfl⟩);go_ret;exact⟨cZ j.out.symm,u.out⟩
theorem um {m:Int}(h0:0<=m)(h1:m<4294967296){n:Int}(hn0:0<=n)(hn1:n<=1000):(Wd.sg 32 m<0\/n<Wd.sg 32 m)↔n<m:=by
 have e:Wd.sg 32 m=if 2147483648<=m then m-4294967296 else m:=rfl
 rw[e];split<;>omega
theorem nE {c:Cfg}{pk bl:List Int}{w:World}{s:Rn.St}{o:Rn.Out}{om wv bv:Value}(h:DS c pk w s bl o om wv bv)(hf:VFn c.f)(x:Ins)(va vt:Value)(p b:Rn.V)(hp:Rn.VOK c.f 33 p)(hpp:p.p=false)(k:Int)(hk:Wd.Wid k)(hb:Wd.Word k b.n) :
  Calls prog 180 #[.pointer (some ⟨c.Bs,0,none⟩),df x va vt,vv p,vv b,.int .i64 k] w (RG (vv (Rn.gep c.f.slots x.flags k p b)) w):=by
 obtain⟨p1,p2,p3,p4⟩:=hp.ptr hpp;obtain⟨W0,R⟩:=xJ (((w.alloc (.cells #[.int .i64 x.op,.int .i64 x.width,.int .i64 x.flags,va,.int .u32 x.imm,vt] 67)).alloc (.cells #[.bool p.p,.int .i64 p.s,.int .u32 p.n] 37)).alloc (.cells #[.bool b.p,.int .i64 b.s,.int .u32 b.n] 37));obtain⟨W,hW⟩:=xJ (fF W0);have ad:=AF.boxes w x va vt p b 67 37;rw[R]at ad;have s0:W0.heap.size=w.heap.size+3:=by rw[<-R];exact jC _ _ _ _
 have g0:Gr w W0:=by rw[<-R];exact(((wL w).alloc _).alloc _).alloc _
 have g1:Gr W0 W:=by rw[<-hW];exact(wL W0).alloc _
 have gW:=g0.trans g1
 have ak:W0.cell? ⟨w.heap.size+1,1,none⟩=some (.int .i64 p.s):=by rw[<-R];exact nx _ _ 1 ((wL ((w.alloc (.cells #[.int .i64 x.op,.int .i64 x.width,.int .i64 x.flags,va,.int .u32 x.imm,vt] 67)).alloc (.cells #[.bool p.p,.int .i64 p.s,.int .u32 p.n] 37))).alloc _) (by simp)
 have UA:=fun(u:GrW W)=>AF.gr ad (by omega) (g1.trans u.gr);have Y:=fun u=>(UA u).2.2.1;have t:=gc g1 (show w.heap.size+1<W0.heap.size by omega) ak;have aa:=fun u=>(UA u).2.2.2.2.1;have Z:=fun u=>(UA u).2.2.2.2.2.2;have af:W.heap[w.heap.size+3]?=some (.cells #[.bool false,.int .i64 0,.int .u32 0] 37 (0,0)):=by rw[<-hW,<-s0];exact heap_alloc_new _ _
 have aC:W.heap.size=w.heap.size+4:=by rw[<-hW];unfold fF;simp[s0]
 have ag:Hid (∀w',Gr W w'->w'.heap[w.heap.size+1+1+1]?=some (.cells #[.bool false,.int .i64 0,.int .u32 0] 37 (0,0))):=fun w' g=>(g.heap _ (cY af)).trans af
 have K:Hid (∀(T:World)(v:Rn.V),Gr W T->Gr w (dw T (w.heap.size+1+1+1) v)/\((dw T (w.heap.size+1+1+1) v).cell? ⟨w.heap.size+1+1+1,0,none⟩=some (.bool v.p)/\(dw T (w.heap.size+1+1+1) v).cell? ⟨w.heap.size+1+1+1,1,none⟩=some (.int .i64 v.s)/\(dw T (w.heap.size+1+1+1) v).cell? ⟨w.heap.size+1+1+1,2,none⟩=some (.int .u32 v.n))):=fun T v g =>
  ⟨gr_frs' (gW.trans g) (ei _ _ v) (fun k hk=>by omega),eo (ag.out T g) v⟩
 have U:Hid (∀w',Gr W w'->(w'.cell? ⟨w.heap.size+1+1+1,0,none⟩=some (.bool false)/\w'.cell? ⟨w.heap.size+1+1+1,1,none⟩=some (.int .i64 0)/\w'.cell? ⟨w.heap.size+1+1+1,2,none⟩=some (.int .u32 0))/\w'.frozen? ⟨w.heap.size+1+1+1,0,none⟩=false/\w'.frozen? ⟨w.heap.size+1+1+1,1,none⟩=false/\w'.frozen? ⟨w.heap.size+1+1+1,2,none⟩=false):=fun w' g=>by have r:=ag.out w' g;exact⟨⟨vX _ _ 0 _ _ _ r,vX _ _ 1 _ _ _ r,vX _ _ 2 _ _ _ r⟩,vY _ _ 0 _ _ r,vY _ _ 1 _ _ r,vY _ _ 2 _ _ r⟩
 have ar:=h.fn;obtain⟨aK,aL,aJ,e,-,az,-⟩:=ar;injection e with e;injection e with e;injection e with _ e;injection e with _ e;injection e with e1 e;have c2:w.cell? ⟨c.Bs,2,none⟩=some c.vs:=h.cell 2;rw[e1]at c2;obtain⟨As,cs,rfl,B,A,q3⟩:=az;obtain⟨bs,os,rfl,aq,q4⟩:=q3 (by omega);obtain⟨j,hj⟩:∃j:Nat,p.s=(j:Int)+1:=⟨(p.s-1).toNat,by omega⟩;have ax:j<c.f.slots.length:=by omega
 obtain⟨N,hN⟩:∃N,c.f.slots[j]?=some N:=⟨_,vu ax⟩;have ah:=q4 j N hN
 have ae:0<=N/\N<=1000:=by have:=vT.1 hf.val.head.2 N (vz hN);unfold Ref.isSlot at this;simp at this;omega
 have ab:c.f.slots.getD (p.s-1).toNat 0=N:=by rw[show (p.s-1).toNat=j by omega,vA,hN];rfl
 have z:=gc gW (cY h.st) c2;have UN:=gc gW (by have:=h.n₀;omega:bs<w.heap.size) ah;obtain⟨m,hm⟩:=xJ ((p.n+Wd.sg k b.n)%4294967296);have ai:0<=m:=by rw[<-hm];exact Int.emod_nonneg _ (by decide)
 have aj:m<4294967296:=by rw[<-hm];exact Int.emod_lt_of_pos _ (by decide)
 have an:=Wd.sg_range hk hb;have hu:=Wd.sz_32 hk;have au:=Wd.sz_half hk;have CS:=dJ fun(u:GrW W)=>el ((dN k b.n u.val hk hb.1 (by have:=hb.2;omega)).mono fun e w' q=>⟨q.1,q.2.symm⟩);have CO:=dJ fun(u:GrW W)=>el ((mE 32 (p.n+Wd.sg k b.n) u.val ⟨by decide,by decide⟩ (by omega) (by omega)).mono fun e w' q=>⟨q.1,q.2.symm⟩);have CT:=dJ fun w1=>dN 32 m w1 ⟨by decide,by decide⟩ ai aj;have ao:Wd.sz 32=4294967296:=rfl;rw[ao]at CO;rw[hm]at CO;have X:=dJ (um ai aj ae.1 ae.2)
 have hg:Rn.gep c.f.slots x.flags k p b=if x.flags=8/\N<m then Rn.poison else ⟨false,p.s,m⟩:=by unfold Rn.gep;rw[ab,hm]
 obtain⟨S,hS⟩:=xJ (Wd.sg 32 m);rw[hS]at CT X
 have ap:-2147483648<=S/\S<=4294967296:=by rw[<-hS,show Wd.sg 32 m=if 2147483648<=m then m-4294967296 else m from rfl];split<;>omega
 rw[hg];obtain⟨sk,al⟩:=xJ (Wd.sg k b.n);rw[al]at CS CO an;have am:-4294967296<=sk/\sk<=4294967296:=by omega
 obtain⟨aF,aG⟩:=am;obtain⟨aH,aI⟩:=ap;obtain⟨aD,aE⟩:=ae;have av:=hj;rw[hj]at t ⊢;have aw:c.f.slots.length<=17592186044416:=A;clear hpp hj au h hf hp p1 p2 av hg ab hN ah q3 q4 hS hm al ad UA ak c2 e1 e hu an g0 g1 af aq hb hk;subst R;unfold fF at hW;unfold df vv;by_cases y:x.flags=8
 ·rw[y]at Y hW;by_cases L:S<0
  ·have Q:(if x.flags=8/\N<m then Rn.poison else (⟨false,(j:Int)+1,m⟩:Rn.V))=Rn.poison:=by rw[wa ⟨y,X.out.1 (.inl L)⟩]
   rw[Q,y];clear Q y
   go_enter func180, ntmps180
   go_wp2;refine dc (by kernel_rfl) (by kernel_rfl) ?_
   repeat (go_big_quiet_step (first|(rename_i u;go_at_call 174;exact di u (CS.out u))|(rename_i u;go_at_call 171;exact di u (CO.out u))))
   refine wpQuiet_nil ?_;intro T H;obtain⟨d,rfl⟩:=H;have G9:=dJ d.gr;have V2:=fun(v:GrW d.val)=>Y ⟨v.val,d.gr.trans v.gr⟩;have F:=fun(v:GrW d.val)=>t ⟨v.val,d.gr.trans v.gr⟩;have E:=fun(v:GrW d.val)=>z ⟨v.val,d.gr.trans v.gr⟩;have VN:=fun(v:GrW d.val)=>UN ⟨v.val,d.gr.trans v.gr⟩;have O:=dJ t;clear Y t aa Z z UN;go_wp2_with (go_at_call 174;refine(CT.out _).mono ?_;rintro e w1 ⟨rfl,rfl⟩);refine dc (by kernel_rfl) (by kernel_rfl) ?_;repeat (go_big_quiet_step (fail))
   refine wpQuiet_nil ?_;intro w8 G;obtain⟨J,rfl⟩:=G;have M:=dJ (G9.out.trans J.gr);clear V2 F E VN;go_wp2_with (go_at_call 152;refine(dQ _).mono ?_;rintro e w7 ⟨rfl,g7⟩;have G7:=dJ (M.out.trans g7);obtain⟨⟨r0,r1,r2⟩,f0,f1,f2⟩:=U.out w7 G7.out;obtain⟨C,I,B,A⟩:=K.out w7 Rn.poison G7.out;obtain⟨W9,l⟩:=xJ (dw w7 (w.heap.size+1+1+1) Rn.poison);rw[l]at C I B A;unfold dw at l;dsimp only[Rn.poison]at l I B A;have D:=dJ C;clear C);refine vZ (v:=vv Rn.poison) (by simp[results,results180,go_sem,I,B,A];rfl) rfl ?_;exact⟨rfl,D.out⟩
  ·by_cases ac:N<S
   ·have Q:(if x.flags=8/\N<m then Rn.poison else (⟨false,(j:Int)+1,m⟩:Rn.V))=Rn.poison:=by rw[wa ⟨y,X.out.1 (.inr ac)⟩]
    rw[Q,y];have ay:decide (S<0)=false:=by simpa using L
    have ab:decide (N<S)=true:=by simpa using ac
    clear Q y
    go_enter func180, ntmps180
    go_wp2;refine dc (by kernel_rfl) (by kernel_rfl) ?_
    repeat (go_big_quiet_step (first|(rename_i u;go_at_call 174;exact di u (CS.out u))|(rename_i u;go_at_call 171;exact di u (CO.out u))))
    refine wpQuiet_nil ?_;intro T H;obtain⟨d,rfl⟩:=H;have G9:=dJ d.gr;have V2:=fun(v:GrW d.val)=>Y ⟨v.val,d.gr.trans v.gr⟩;have F:=fun(v:GrW d.val)=>t ⟨v.val,d.gr.trans v.gr⟩;have E:=fun(v:GrW d.val)=>z ⟨v.val,d.gr.trans v.gr⟩;have VN:=fun(v:GrW d.val)=>UN ⟨v.val,d.gr.trans v.gr⟩;have O:=dJ t;clear Y t aa Z z UN;go_wp2_with (go_at_call 174;refine(CT.out _).mono ?_;rintro e w1 ⟨rfl,rfl⟩);refine dc (by kernel_rfl) (by kernel_rfl) ?_;repeat (go_big_quiet_step (fail))
    refine wpQuiet_nil ?_;intro w8 G;obtain⟨J,rfl⟩:=G;have M:=dJ (G9.out.trans J.gr);clear V2 F E VN;go_wp2_with (go_at_call 152;refine(dQ _).mono ?_;rintro e w7 ⟨rfl,g7⟩;have G7:=dJ (M.out.trans g7);obtain⟨⟨r0,r1,r2⟩,f0,f1,f2⟩:=U.out w7 G7.out;obtain⟨C,I,B,A⟩:=K.out w7 Rn.poison G7.out;obtain⟨W9,l⟩:=xJ (dw w7 (w.heap.size+1+1+1) Rn.poison);rw[l]at C I B A;unfold dw at l;dsimp only[Rn.poison]at l I B A;have D:=dJ C;clear C);refine vZ (v:=vv Rn.poison) (by simp[results,results180,go_sem,I,B,A];rfl) rfl ?_;exact⟨rfl,D.out⟩
   ·have Q:(if x.flags=8/\N<m then Rn.poison else (⟨false,(j:Int)+1,m⟩:Rn.V))=⟨false,(j:Int)+1,m⟩:=by rw[wb];rintro⟨-,q⟩;rcases X.out.2 q with q|q;exact L q;exact ac q
    rw[Q,y];have ay:decide (S<0)=false:=by simpa using L
    have ab:decide (N<S)=false:=by simpa using ac
    clear Q y
    go_enter func180, ntmps180
    go_wp2;refine dc (by kernel_rfl) (by kernel_rfl) ?_
    repeat (go_big_quiet_step (first|(rename_i u;go_at_call 174;exact di u (CS.out u))|(rename_i u;go_at_call 171;exact di u (CO.out u))))
    refine wpQuiet_nil ?_;intro T H;obtain⟨d,rfl⟩:=H;have G9:=dJ d.gr;have V2:=fun(v:GrW d.val)=>Y ⟨v.val,d.gr.trans v.gr⟩;have F:=fun(v:GrW d.val)=>t ⟨v.val,d.gr.trans v.gr⟩;have E:=fun(v:GrW d.val)=>z ⟨v.val,d.gr.trans v.gr⟩;have VN:=fun(v:GrW d.val)=>UN ⟨v.val,d.gr.trans v.gr⟩;have O:=dJ t;clear Y t aa Z z UN;go_wp2_with (go_at_call 174;refine(CT.out _).mono ?_;rintro e w1 ⟨rfl,rfl⟩);refine dc (by kernel_rfl) (by kernel_rfl) ?_;repeat (go_big_quiet_step (fail))
    refine wpQuiet_nil ?_;intro w8 G;obtain⟨J,rfl⟩:=G;have M:=dJ (G9.out.trans J.gr);clear V2 F E VN;have aA:=O.out ⟨J.val,M.out⟩;obtain⟨⟨r0,r1,r2⟩,f0,f1,f2⟩:=U.out J.val M.out;obtain⟨C,I,B,A⟩:=K.out J.val ⟨false,(j:Int)+1,m⟩ M.out;obtain⟨W9,l⟩:=xJ (dw J.val (w.heap.size+1+1+1) ⟨false,(j:Int)+1,m⟩);rw[l]at C I B A;unfold dw at l;dsimp only at l I B A;have D:=dJ C;clear C;go_wp2;refine vZ (v:=vv ⟨false,(j:Int)+1,m⟩) (by simp[results,results180,go_sem,I,B,A];rfl) rfl ?_;exact⟨rfl,D.out⟩
 ·have Q:(if x.flags=8/\N<m then Rn.poison else (⟨false,(j:Int)+1,m⟩:Rn.V))=⟨false,(j:Int)+1,m⟩:=by rw[wb];rintro⟨q,-⟩;exact y q
  rw[Q];have aB:(x.flags == 8)=false:=by simpa using y
  clear Q
  go_enter func180, ntmps180
  go_wp2;refine dc (by kernel_rfl) (by kernel_rfl) ?_
  repeat (go_big_quiet_step (first|(rename_i u;go_at_call 174;exact di u (CS.out u))|(rename_i u;go_at_call 171;exact di u (CO.out u))))
  refine wpQuiet_nil ?_;intro T H;obtain⟨d,rfl⟩:=H;have G9:=dJ d.gr;have V2:=fun(v:GrW d.val)=>Y ⟨v.val,d.gr.trans v.gr⟩;have F:=fun(v:GrW d.val)=>t ⟨v.val,d.gr.trans v.gr⟩;have E:=fun(v:GrW d.val)=>z ⟨v.val,d.gr.trans v.gr⟩;have VN:=fun(v:GrW d.val)=>UN ⟨v.val,d.gr.trans v.gr⟩;have O:=dJ t;clear Y t aa Z z UN;go_wp2_with (go_at_call 174;refine(CT.out _).mono ?_;rintro e w1 ⟨rfl,rfl⟩);refine dc (by kernel_rfl) (by kernel_rfl) ?_;repeat (go_big_quiet_step (fail))
  refine wpQuiet_nil ?_;intro w8 G;obtain⟨J,rfl⟩:=G;have M:=dJ (G9.out.trans J.gr);clear V2 F E VN;have aA:=O.out ⟨J.val,M.out⟩;obtain⟨⟨r0,r1,r2⟩,f0,f1,f2⟩:=U.out J.val M.out;obtain⟨C,I,B,A⟩:=K.out J.val ⟨false,(j:Int)+1,m⟩ M.out;obtain⟨W9,l⟩:=xJ (dw J.val (w.heap.size+1+1+1) ⟨false,(j:Int)+1,m⟩);rw[l]at C I B A;unfold dw at l;dsimp only at l I B A;have D:=dJ C;clear C;go_wp2;refine vZ (v:=vv ⟨false,(j:Int)+1,m⟩) (by simp[results,results180,go_sem,I,B,A];rfl) rfl ?_;exact⟨rfl,D.out⟩
theorem xM {c:Cfg}{pk bl:List Int}{w:World}{s:Rn.St}{o:Rn.Out}{om wv bv:Value}(h:DS c pk w s bl o om wv bv)(hf:VFn c.f)(v:Int)(h0:0<=v)(h1:v<Ref.count c.f) :
  Calls prog 151 #[.pointer (some ⟨c.Bs,0,none⟩),.int .i64 v] w (RG (.tuple #[.int .i64 (Ref.kind c.f v),.bool true]) w):=by
 have c0:w.cell? ⟨c.Bs,0,none⟩=some c.vp:=h.cell 0;have c3:w.cell? ⟨c.Bs,3,none⟩=some c.vb:=h.cell 3;have Q:=h.fn;have D:=hf.val.size;obtain⟨al,am,ak,e,hp,-,hb⟩:=Q;injection e with e;injection e with e;injection e with M e;injection e with _ e;injection e with _ e;injection e with N _;rw[M]at c0;rw[N]at c3;have p:Ref.count c.f=c.f.params.length+Ref.total c.f.blocks:=by unfold Ref.count Ref.number;rw[wg]
 rcases Ref.home_of c.f h0 h1 with ⟨-,A⟩|⟨j,i,l,x,hl,H,rfl⟩
 ·obtain⟨k,rfl⟩:=vF h0;obtain⟨Ap,cp,rfl,p1,p2,p3⟩:=hp;obtain⟨bp,op,rfl,-,p4⟩:=p3 (by omega);obtain⟨z,Y⟩:∃z,c.f.params[k]?=some z:=⟨_,vu (by omega)⟩;have hc:=p4 k z Y
  have t:Hid (Ref.kind c.f (k:Int)=z):=by show _=_;unfold Ref.kind;rw[wb (by omega),wa A,vG,vA,Y];rfl
  have G:k<c.f.params.length:=by omega
  clear p3 p4 Y hb h hf h0 h1 M N p
  go_enter func151, ntmps151
  go_wp2;go_ret2;exact⟨by rw[t.out];rfl,wL _⟩
 ·have ag:j<c.f.blocks.length:=(yq.1 hl).1;have af:i<l.length:=(yq.1 H).1;have t:Hid (Ref.kind c.f ((Ref.number c.f j+i:Nat):Int)=x.width):=Ref.kind_at c.f hl H;have HN:Hid (∀k d,k<j->c.f.blocks[k]?=some d->Ref.number c.f (k+1)=Ref.number c.f k+d.length/\Ref.number c.f k+d.length<=Ref.number c.f j):=fun k d G g=>⟨Ref.number_next c.f g,Ref.number_le c.f g G⟩;have C:(c.f.params.length:Int)<=((Ref.number c.f j+i:Nat):Int):=by unfold Ref.number;omega
  have r:((Ref.number c.f j+i:Nat):Int)<100:=by omega
  have B:Ref.number c.f 0=c.f.params.length:=by unfold Ref.number Ref.total;simp
  obtain⟨Ab,cb,rfl,b1,b2,b3⟩:=hb;obtain⟨bb,ob,rfl,-,L⟩:=b3 (by omega)
  have I:Hid (∀k d,c.f.blocks[k]?=some d->∃E F,w.cell? ⟨bb,ob+k,none⟩=some (.slice E d.length F)/\d.length<=17592186044416):=fun k d g=>by obtain⟨u,hu,E,F,rfl,q1,q2,q3⟩:=L k d g;exact⟨E,F,hu,q2⟩
  obtain⟨u,hu,O⟩:=L j l hl;obtain⟨E,F,rfl,l1,l2,l3⟩:=O;obtain⟨bl,ol,rfl,-,l4⟩:=l3 (by omega);obtain⟨-,-,-,hw,-⟩:=l4 i x H;obtain⟨Ap,cp,rfl,p1,p2,-⟩:=hp;have J:Hid (∀k,k<c.f.blocks.length->∃d,c.f.blocks[k]?=some d):=fun k G=>⟨_,vu G⟩;obtain⟨q,X⟩:=xJ (Ref.number c.f j);have HQ:=dJ X;rw[X]at C r t HN ⊢;obtain⟨v,hv⟩:∃v:Int,((q+i:Nat):Int)=v:=⟨_,rfl⟩;rw[hv]at C r t ⊢;have y:=dJ hv;have v0:0<=v:=by omega
  have K:=dJ B;have aa:c.f.blocks.length<=10:=D.2.2.2.1;clear X hv b3 L l3 l4 hl H h hf h0 h1 M N D p B
  go_enter func151, ntmps151
  go_wp2
  go_loop [6,7] (fun s6 Z=>∃(k m:Nat),k<=j/\Z=.int .i64 (k:Int)/\s6=.int .i64 (m:Int)/\Hid (m=Ref.number c.f k/\m<=q)) (fun _ Z=>j-(intOf Z).toNat)
  case atStart=>exact⟨0,c.f.params.length,vU _,rfl,rfl,K.out.symm,by rw[<-HQ.out];unfold Ref.number;omega⟩
  case round =>
   obtain⟨k,m,ah,rfl,rfl,hm⟩:=hrel;by_cases he:k=j
   ·subst he;have W:m=q:=by rw[hm.out.1,HQ.out]
    subst W;have A:v<(m:Int)+(l.length:Int):=by have:=y.out;omega
    have U:(m:Int)+(l.length:Int)<=17592186044516:=by have:=y.out;omega
    have aj:v-(m:Int)=(i:Int):=by have:=y.out;omega
    go_wp2;go_ret2;exact⟨by rw[t.out];rfl,wL _⟩
   ·have R:k<c.f.blocks.length:=by omega
    obtain⟨d,g⟩:=J.out k R;obtain⟨ac,ad,ai,ab⟩:=I.out k d g;obtain⟨n1,n2⟩:=HN.out k d (by omega) g;have S:=hm.out.1;have ae:¬v<(m:Int)+(d.length:Int):=by have:=y.out;omega
    have T:Hid (m+d.length=Ref.number c.f (k+1)/\m+d.length<=q):=⟨by omega,by omega⟩;have U:(m:Int)+(d.length:Int)<=100:=by have:=y.out;omega
    clear g n1 n2 S;go_wp2;go_round;case rel=>exact⟨k+1,m+d.length,by omega,by go_num,by go_num,T⟩
    case measure=>simp[intOf];omega

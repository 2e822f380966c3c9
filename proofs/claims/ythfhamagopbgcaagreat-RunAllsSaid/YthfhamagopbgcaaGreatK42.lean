/- Parts. -/
import Derived.Test.YthfhamagopbgcaaGreatK41
import Derived.Test.YthfhamagopbgcaaGreatK40
set_option linter.unusedSimpArgs false
set_option linter.unusedVariables false
set_option maxRecDepth 100000
set_option maxHeartbeats 16000000
open Go.Proofs.Tryz
namespace Go.Proofs.YthfhamagopbgcaaGreat
open Go.RowKit
theorem ng (o f n a b:Int)(w:World)(ho:1<=o/\o<=13)(hf:0<=f/\f<=7)(hn:Wd.Wid n)(ha:Wd.Word n a)(hb:Wd.Word n b):Calls prog 176 #[.int .i64 o,.int .i64 f,.int .i64 n,.int .u32 a,.int .u32 b] w (RG (.tuple #[.bool (Wd.broken o f n a b),.int .i64 0]) w):=by
 cases hz:Wd.op o n a b with
 | none =>
  have e:Wd.broken o f n a b=false:=by unfold Wd.broken;rw[hz];rfl
  rw[e];exact lG o f n a b w ho hf hn ha hb hz
 | some z =>
  have e:Wd.broken o f n a b=Wd.brk o f n a b:=by unfold Wd.broken;rw[hz];rfl
  rw[e];exact lH o f n a b z w ho hf hn ha hb hz
theorem xL (p a b:Int)(w:World)(hp:0<=p/\p<=9):Calls prog 207 #[.int .i64 p,.int .i64 a,.int .i64 b] w (RS (.bool (Wd.cmpN p a b)) w):=by
 rcases (by omega:p=0\/p=1\/p=2\/p=3\/p=4\/p=5\/p=6\/p=7\/p=8\/p=9) with rfl|rfl|rfl|rfl|rfl|rfl|rfl|rfl|rfl|rfl
 all_goals
  clear hp
  go_enter func207, ntmps207
  go_wp2_with (fail);go_ret;exact⟨rfl,rfl⟩
theorem iF (p:Int)(w:World)(hp:0<=p/\p<=9):Calls prog 206 #[.int .i64 p] w (RS (.bool true) w):=by
 obtain⟨d,g⟩:=hp
 go_enter func206, ntmps206
 go_wp2_with (fail);go_ret;exact⟨by simp[*]<;>omega,rfl⟩
theorem lx (p n a b:Int)(w:World)(hp:0<=p/\p<=9)(hn:Wd.Wid n)(ha:Wd.Word n a)(hb:Wd.Word n b):Calls prog 177 #[.int .i64 p,.int .i64 n,.int .u32 a,.int .u32 b] w (RS (.tuple #[.bool (Wd.cmp p n a b),.int .i64 0]) w):=by
 obtain⟨z,A⟩:=dK hn ha;obtain⟨B,C⟩:=dK hn hb
 have t:Hid (∀d,Calls prog 206 #[.int .i64 p] d (RS (.bool true) d)):=fun d=>by exact iF p d hp
 have j:=dJ fun d=>ep n a d z A;have l:=dJ fun d=>ep n b d B C;rw[eB hn ha]at j;rw[eB hn hb]at l;have CS:=dJ fun d=>dN n a d hn z A;have u:=dJ fun d=>dN n b d hn B C;have r:=dJ fun x y d=>xL p x y d hp;have g:Hid (6<=p->Wd.cmp p n a b=Wd.cmpN p (Wd.sg n a) (Wd.sg n b)):=fun h=>by unfold Wd.cmp;rw[wa h]
 have q:Hid (¬6<=p->Wd.cmp p n a b=Wd.cmpN p a b):=fun h=>by unfold Wd.cmp;rw[wb h]
 obtain⟨x,E⟩:=xJ (Wd.sg n a);obtain⟨y,F⟩:=xJ (Wd.sg n b);rw[E]at CS g;rw[F]at u g;clear hn ha hb E F hp;by_cases D:6<=p
 ·have m:=dJ D
  go_enter func177, ntmps177
  go_wp2_with (first|(go_at_call 206;refine(t.out _).mono ?_;rintro e d ⟨rfl,rfl⟩)|(go_at_call 43;(with_reducible refine(j.out _).mono ?_);rintro e d ⟨rfl,rfl⟩)|(go_at_call 43;(with_reducible refine(l.out _).mono ?_);rintro e d ⟨rfl,rfl⟩)|(go_at_call 174;(with_reducible refine(CS.out _).mono ?_);rintro e d ⟨rfl,rfl⟩)|(go_at_call 174;(with_reducible refine(u.out _).mono ?_);rintro e d ⟨rfl,rfl⟩)|(go_at_call 207;refine(r.out _ _ _).mono ?_;rintro e d ⟨rfl,rfl⟩))
  go_ret2;exact⟨by rw[g.out m.out];rfl,rfl⟩
 ·have m:=dJ D
  go_enter func177, ntmps177
  go_wp2_with (first|(go_at_call 206;refine(t.out _).mono ?_;rintro e d ⟨rfl,rfl⟩)|(go_at_call 43;(with_reducible refine(j.out _).mono ?_);rintro e d ⟨rfl,rfl⟩)|(go_at_call 43;(with_reducible refine(l.out _).mono ?_);rintro e d ⟨rfl,rfl⟩)|(go_at_call 207;refine(r.out _ _ _).mono ?_;rintro e d ⟨rfl,rfl⟩))
  go_ret2;exact⟨by rw[q.out (by have:=m.out;omega)];rfl,rfl⟩
theorem nh (o m n a:Int)(w:World)(ho:o=16\/o=17\/o=18)(hm:Wd.Wid m)(hn:Wd.Wid n)(ha:Wd.Word m a)(hd:if o=18 then n<m else m<n):Calls prog 178 #[.int .i64 o,.int .i64 m,.int .i64 n,.int .u32 a] w (RS (.tuple #[.int .u32 (Wd.ext o m n a),.int .i64 0]) w):=by
 obtain⟨B,G⟩:=dK hm ha;obtain⟨D,E⟩:=Wd.sg_range hm ha;have hh:=Wd.sz_half hm;have q:=Wd.sz_32 hm;have C:=Wd.sz_pos (m-1);have y:=dJ fun d=>eI n d;rw[ej hn]at y;have A:=dJ fun d=>ep m a d B G;rw[eB hm ha]at A;have CS:=dJ fun d=>dN m a d hm B G;have t:=dJ fun d=>ey n a d hn (by omega) (by omega);have r:=dJ fun d=>ey n (Wd.sg m a) d hn (by omega) (by omega)
 have g:Hid (o=16->a%Wd.sz n=Wd.ext o m n a):=fun h=>by
  show _=_;subst h;have I:m<n:=by simpa using hd
  have J:Wd.sz m<=Wd.sz n:=Wd.sz_le (by omega);have:=ha.2;rw[Int.emod_eq_of_lt B (by omega)];rfl
 have j:Hid (Wd.sg m a%Wd.sz n=Wd.ext 17 m n a):=rfl;have l:Hid (a%Wd.sz n=Wd.ext 18 m n a):=rfl;rcases ho with rfl|rfl|rfl
 ·have u:m<n:=by simpa using hd
  have F:=dJ (g.out rfl);obtain⟨z,p⟩:=xJ (a%Wd.sz n);rw[p]at F t;clear hm hn ha hd p hh q C D E g CS r
  go_enter func178, ntmps178
  go_wp2_with (first|(go_at_call 78;refine(y.out _).mono ?_;rintro e d ⟨rfl,rfl⟩)|(go_at_call 43;refine(A.out _).mono ?_;rintro e d ⟨rfl,rfl⟩)|(go_at_call 202;refine(t.out _).mono ?_;rintro e d ⟨rfl,rfl⟩))
  go_ret2;exact⟨by rw[F.out];rfl,rfl⟩
 ·have u:m<n:=by simpa using hd
  obtain⟨z,p⟩:=xJ (Wd.sg m a%Wd.sz n);rw[p]at j r;obtain⟨x,H⟩:=xJ (Wd.sg m a);rw[H]at CS r;clear hm hn ha hd p H hh q C D E g t
  go_enter func178, ntmps178
  go_wp2_with (first|(go_at_call 78;refine(y.out _).mono ?_;rintro e d ⟨rfl,rfl⟩)|(go_at_call 43;refine(A.out _).mono ?_;rintro e d ⟨rfl,rfl⟩)|(go_at_call 174;refine(CS.out _).mono ?_;rintro e d ⟨rfl,rfl⟩)|(go_at_call 202;refine(r.out _).mono ?_;rintro e d ⟨rfl,rfl⟩))
  go_ret2;exact⟨by rw[j.out];rfl,rfl⟩
 ·have u:n<m:=by simpa using hd
  obtain⟨z,p⟩:=xJ (a%Wd.sz n);rw[p]at l t;clear hm hn ha hd p hh q C D E g CS r
  go_enter func178, ntmps178
  go_wp2_with (first|(go_at_call 78;refine(y.out _).mono ?_;rintro e d ⟨rfl,rfl⟩)|(go_at_call 43;refine(A.out _).mono ?_;rintro e d ⟨rfl,rfl⟩)|(go_at_call 202;refine(t.out _).mono ?_;rintro e d ⟨rfl,rfl⟩))
  go_ret2;exact⟨by rw[l.out];rfl,rfl⟩
theorem oT (o n l a b:Int)(w:World)(ho:o=19\/o=20)(hn:Wd.Wid n)(ha:Wd.Word n a)(hb:Wd.Word n b)(hl1:1<=l)(hl2:l<n)(hl3:n%l=0):Calls prog 179 #[.int .i64 o,.int .i64 n,.int .i64 l,.int .u32 a,.int .u32 b] w (RG (.tuple #[.int .u32 (Wd.lanes o l (n / l).toNat a b),.int .i64 0]) w):=by
 obtain⟨a1,a2⟩:=dK hn ha;obtain⟨b1,b2⟩:=dK hn hb;obtain⟨n1,n2⟩:=id hn;have N:Wd.Wid l:=⟨hl1,by omega⟩;have C2:=dJ fun d=>ep n a d a1 a2;have C3:=dJ fun d=>ep n b d b1 b2;rw[eB hn ha]at C2;rw[eB hn hb]at C3;have CL:=dJ fun d=>dM l d (by omega) (by omega);have CQ:Hid (∀q d,0<=q->q<=62->Calls prog 79 #[.int .i64 q] d (RS (.int .i64 (Wd.sz q)) d)):=fun q d h1 h2=>dM q d h1 h2;have CW:Hid (∀z d,-4611686018427387904<=z->z<=4611686018427387904->Calls prog 202 #[.int .i64 l,.int .i64 z] d (RS (.int .u32 (z%Wd.sz l)) d)):=fun z d h1 h2=>ey l z d N h1 h2;obtain⟨m,O⟩:=vF (show 0<=l by omega);obtain⟨K,hK⟩:=vF (show 0<=n / l from wD (by omega) (by omega))
 have ac:n=l*(K:Int):=by have:=Int.emod_add_mul_ediv n l;rw[hl3,hK]at this;omega
 have hS:=Wd.sz_pos l;have aj:=Wd.sz_32 N;have ab:(n / l).toNat=K:=by omega
 rw[ab]
 have C:Hid (∀j:Nat,Wd.sz l ^ j=Wd.sz (l*(j:Int))):=fun j=>by rw[O,Wd.sz_pow];simp
 have g:Hid (∀j:Nat,j<=K->Wd.sz l ^ j<=4294967296/\0<Wd.sz l ^ j):=fun j hj=>by
  rw[C.out];have h1:l*(j:Int)<=l*(K:Int):=Int.mul_le_mul_of_nonneg_left (by omega) (by omega);have h0:0<=l*(j:Int):=Int.mul_nonneg (by omega) (by omega);have:=Wd.sz_le (n:=l*(j:Int)) (m:=32) (by omega);have e:Wd.sz 32=4294967296:=by decide
  exact⟨by omega,Wd.sz_pos _⟩
 have u:Hid (∀j:Nat,Wd.lanes o l (j+1) a b=Wd.lanes o l j a b+Wd.lane1 o (Wd.sz l) (a / Wd.sz l ^ j) (b / Wd.sz l ^ j)*Wd.sz l ^ j):=fun j=>Wd.lanes_step o l j a b;have r:Hid (∀j:Nat,0<=Wd.lanes o l j a b/\Wd.lanes o l j a b<Wd.sz l ^ j):=fun j=>Wd.lanes_range o l j a b;have Y:Hid (Wd.lanes o l 0 a b=0):=rfl;have R:Hid (∀S x y,o=19->Wd.lane1 o S x y=(x%S+y%S)%S):=fun S x y h=>by unfold Wd.lane1;rw[wa h]
 have T:Hid (∀S x y,o=20->Wd.lane1 o S x y=(x%S-y%S)%S):=fun S x y h=>by unfold Wd.lane1;rw[wb (by omega)]
 have U:Hid (∀S x y,0<S->0<=Wd.lane1 o S x y/\Wd.lane1 o S x y<S):=fun S x y h=>Wd.lane1_range o S x y h;obtain⟨F,hF⟩:∃F:Nat->Int,(fun j=>Wd.lanes o l j a b)=F:=⟨_,rfl⟩;have aa:∀j,Wd.lanes o l j a b=F j:=fun j=>by rw[<-hF]
 obtain⟨G,hG⟩:∃G:Int->Int->Int->Int,Wd.lane1 o=G:=⟨_,rfl⟩;simp only[aa]at u r Y ⊢;rw[hG]at u R T U;obtain⟨S,I⟩:=xJ (Wd.sz l);rw[I]at CL hS aj C g u r;have Q:Hid (∀z d,-4611686018427387904<=z->z<=4611686018427387904->Calls prog 202 #[.int .i64 l,.int .i64 z] d (RS (.int .u32 (z%S)) d)):=by rw[I]at CW;exact CW
 have W:=dJ ac;have ao:(l == 0)=false:=by simp;omega
 have an:(S == 0)=false:=by simp;omega
 clear hF aa hG I O hK ab ac hn ha hb N CW;rcases ho with rfl|rfl
 all_goals
  go_enter func179, ntmps179
  go_wp2_with (first|(go_at_call 43;(with_reducible refine(C2.out _).mono ?_);rintro e d ⟨rfl,rfl⟩)|(go_at_call 43;(with_reducible refine(C3.out _).mono ?_);rintro e d ⟨rfl,rfl⟩))
  go_loopw [12,13] (fun am i wr=>∃j:Nat,j<=K/\i=.int .i64 (l*(j:Int))/\am=.int .i64 (F j)/\Gr w wr) (fun _ i _=>(n-intOf i).toNat)
  case atStart=>exact⟨0,vU _,by simp,by rw[Y.out],wL _⟩
  case round =>
   obtain⟨j,hj,rfl,rfl,HG⟩:=hrel;by_cases J:j<K
   ·obtain⟨p2,p1⟩:=g.out j (by omega);have ad:0<=l*(j:Int):=Int.mul_nonneg (by omega) (by omega);have M:l*((j+1:Nat):Int)=l*(j:Int)+l:=by push_cast;rw[Int.mul_add];omega
    have ae:l*((j+1:Nat):Int)<=l*(K:Int):=Int.mul_le_mul_of_nonneg_left (by omega) (by omega);rw[M,<-W.out]at ae;have X:=dJ M;have ai:=(g.out (j+1) (by omega)).1;have t:=dJ (u.out j);have B:=C.out j;obtain⟨f0,f1⟩:=r.out j;have H:=(r.out (j+1)).2;have Z:=(r.out (j+1)).1;rw[t.out]at H Z;obtain⟨q,hq⟩:=xJ (l*(j:Int));rw[hq]at ad ae B X ⊢;have CJ:=dJ fun d=>CQ.out q d ad (by omega);rw[<-B]at CJ;obtain⟨p,hp⟩:=xJ (S ^ j);rw[hp]at p1 p2 CJ t f1 H Z;have x1:0<=a / p:=wD a1 (by omega);have x2:a / p<=a:=Int.ediv_le_self _ a1;have y1:0<=b / p:=wD b1 (by omega);have y2:b / p<=b:=Int.ediv_le_self _ b1;have g1:0<=a / p%S:=Int.emod_nonneg _ (by omega);have g2:a / p%S<S:=Int.emod_lt_of_pos _ hS;have g3:0<=b / p%S:=Int.emod_nonneg _ (by omega);have g4:b / p%S<S:=Int.emod_lt_of_pos _ hS;have CX:=dJ fun d=>Q.out (a / p%S+b / p%S) d (by omega) (by omega);have CY:=dJ fun d=>Q.out (a / p%S+-(b / p%S)) d (by omega) (by omega);have D:=R.out S (a / p) (b / p);have E:=T.out S (a / p) (b / p);obtain⟨l1,l2⟩:=U.out S (a / p) (b / p) hS;obtain⟨L,hL⟩:=xJ (G S (a / p) (b / p));rw[hL]at D E l1 l2 t H Z;have m1:0<=L*p:=Int.mul_nonneg l1 (by omega)
    have m2:L*p<=4294967296:=by have:F j+L*p<S ^ (j+1):=H;omega
    have q3:q<n:=by omega
    have M3:Hid (F j+L*p<4294967297):=(by omega:F j+L*p<4294967297);have ap:(p == 0)=false:=by simp;omega
    have af:=dJ D;have ag:=dJ E;have ah:Hid (j+1<=K):=dJ J;have A:=dJ HG;clear D E hq hp hL M J B HG Z H ai
    go_upto_region 7 with (fail)
    go_quiet (first|(go_at_call 79;exact dm (CJ.out _))|(go_at_call 79;exact dm (CL.out _)))
    go_wp2_with (first|(go_at_call 79;refine(CJ.out _).mono ?_;rintro e d ⟨rfl,rfl⟩)|(go_at_call 202;(with_reducible refine(CX.out _).mono ?_);rintro e d ⟨rfl,rfl⟩)|(go_at_call 202;(with_reducible refine(CY.out _).mono ?_);rintro e d ⟨rfl,rfl⟩))
    go_roundw
    case rel =>
     refine⟨j+1,ah.out,?_,?_,A.out.drewN _⟩
     ·rw[X.out]
     ·have m3:=M3.out;have w0:=w64 L (by omega) (by omega);have d:=w64 (L*p) (by omega) (by omega);have w2:=w64 (F j+L*p) (by omega) (by omega);rw[t.out]
      first
       | (have O:(a / p+b / p)%S=L:=by rw[af.out (by simp),<-Int.add_emod]
          rw[O,w0,d,w2])
       | (have O:(a / p+-(b / p%S))%S=L:=by rw[ag.out (by simp),Int.sub_eq_add_neg,Int.emod_add_emod]
          rw[O,w0,d,w2])
    case measure=>simp only[intOf];omega
   ·have al:j=K:=by omega
    subst al;have f1:=(g.out j (by omega)).1;obtain⟨f2,H⟩:=r.out j;have ak:¬l*(j:Int)<n:=by rw[W.out];omega
    obtain⟨q,hq⟩:=xJ (l*(j:Int));rw[hq]at ak ⊢;have Z:F j<4294967296:=by omega
    have A:=dJ HG;clear hq J HG H f1;go_wp2_with (fail);go_ret2;exact⟨rfl,A.out⟩
theorem VsAt.one {w:World}{v:Value}{A:Rn.V}(h:VsAt w v [A]):∃b c,v=.slice (some ⟨b,0,none⟩) 1 c/\1<=c/\b<w.heap.size/\w.cell? ⟨b,0,none⟩=some (.bool A.p)/\w.cell? ⟨b,1,none⟩=some (.int .i64 A.s)/\w.cell? ⟨b,2,none⟩=some (.int .u32 A.n):=by obtain⟨b,c,e,d,g,j,l,m⟩:=h.cells (k:=0) rfl;exact⟨b,c,e,d,g,j,l,m⟩
theorem VsAt.two {w:World}{v:Value}{A B:Rn.V}(h:VsAt w v [A,B]):∃b c,v=.slice (some ⟨b,0,none⟩) 2 c/\2<=c/\b<w.heap.size/\(w.cell? ⟨b,0,none⟩=some (.bool A.p)/\w.cell? ⟨b,1,none⟩=some (.int .i64 A.s)/\w.cell? ⟨b,2,none⟩=some (.int .u32 A.n))/\(w.cell? ⟨b,3,none⟩=some (.bool B.p)/\w.cell? ⟨b,4,none⟩=some (.int .i64 B.s)/\w.cell? ⟨b,5,none⟩=some (.int .u32 B.n)):=by obtain⟨b,c,e,g,j,l,m,q⟩:=h.cells (k:=0) rfl;obtain⟨y,z,d,-,-,r,t,u⟩:=h.cells (k:=1) rfl;rw[e]at d;injection d with d;injection d with d;injection d with d _;subst d;exact⟨b,c,e,g,j,⟨l,m,q⟩,r,t,u⟩
theorem mM {B:Nat}{w:World}{v:Value}{a:Int}(h:IntsAt B w v [a]):∃b o c,v=.slice (some ⟨b,o,none⟩) 1 c/\1<=c/\b<B/\w.cell? ⟨b,o,none⟩=some (.int .i64 a):=by obtain⟨A,c,rfl,d,-,g⟩:=h;obtain⟨b,o,rfl,l,j⟩:=g (by simp);exact⟨b,o,c,rfl,d,l,j 0 a rfl⟩
theorem eT {B:Nat}{w:World}{v:Value}{a d:Int}(h:IntsAt B w v [a,d]):∃b o c,v=.slice (some ⟨b,o,none⟩) 2 c/\2<=c/\b<B/\w.cell? ⟨b,o,none⟩=some (.int .i64 a)/\w.cell? ⟨b,o+1,none⟩=some (.int .i64 d):=by obtain⟨A,c,rfl,j,-,l⟩:=h;obtain⟨b,o,rfl,m,g⟩:=l (by simp);exact⟨b,o,c,rfl,j,m,g 0 a rfl,g 1 d rfl⟩
def tN (o fl n a b:Int):Rn.V:=match Wd.op o n a b with
 | none=>Rn.poison
 | some z=>if Wd.broken o fl n a b=true then Rn.poison else Rn.word z
theorem jN {w:World}(Bs:Nat)(x:Ins)(va vt vl vk:Value)(A B:Rn.V)(ka kb:Int)(hl:VsAt w vl [A,B])(hk:IntsAt w.heap.size w vk [ka,kb])(ho:1<=x.op/\x.op<=13)(hf:0<=x.flags/\x.flags<=7)(hn:Wd.Wid x.width)(hA:Wd.Word x.width A.n)(hB:Wd.Word x.width B.n) :
  Calls prog 157 #[.pointer (some ⟨Bs,0,none⟩),df x va vt,vl,vk] w (RG (vv (tN x.op x.flags x.width A.n B.n)) w):=by
 obtain⟨W0,F⟩:=xJ (dY w x va vt);obtain⟨W,hW⟩:=xJ (fF W0);obtain⟨g0,g1,E⟩:=oO F hW;have j:=dJ E.gr;have X:=fun(u:GrW W)=>dk (w:=w) (x:=x) (va:=va) (vt:=vt) (w':=u.val) (by rw[F];exact g1.trans u.gr);have X0:=fun u=>(X u).1;have X1:=fun u=>(X u).2.1;have X2:=fun u=>(X u).2.2.1;have X3:=fun u=>(X u).2.2.2.1;have X4:=fun u=>(X u).2.2.2.2.1;have X5:=fun u=>(X u).2.2.2.2.2;obtain⟨b,cl,rfl,ac,I,⟨q0,q1,q2⟩,q3,q4,q5⟩:=hl.two;have L0:=gc j.out I q0;have L1:=gc j.out I q1;have L2:=gc j.out I q2;have L3:=gc j.out I q3;have L4:=gc j.out I q4;have L5:=gc j.out I q5;obtain⟨bk,ok,ck,rfl,ab,K,p0,p1⟩:=eT hk;have K0:=gc j.out K p0;have K1:=gc j.out K p1;have N:=dJ fun(u:GrW W)=>sB x.op x.width A.n B.n u.val ho hn hA hB;have M:=dJ fun(u:GrW W)=>ng x.op x.flags x.width A.n B.n u.val ho hf hn hA hB
 have D:tN x.op x.flags x.width A.n B.n=if (Wd.op x.op x.width A.n B.n).isSome=true then (if Wd.broken x.op x.flags x.width A.n B.n=true then Rn.poison else Rn.word ((Wd.op x.op x.width A.n B.n).getD 0)) else Rn.poison:=by unfold tN;cases Wd.op x.op x.width A.n B.n<;>rfl
 rw[D];obtain⟨z,hz⟩:=xJ ((Wd.op x.op x.width A.n B.n).getD 0);obtain⟨aa,H⟩:=xJ ((Wd.op x.op x.width A.n B.n).isSome);obtain⟨br,G⟩:=xJ (Wd.broken x.op x.flags x.width A.n B.n);rw[hz,H]at N;rw[G]at M;rw[hz,H,G];have g:=dJ E;have O:=fun u=>(g.out.cells u).1;have Q:=fun u=>(g.out.cells u).2.1;have R:=fun u=>(g.out.cells u).2.2.1;have S:=fun u=>(g.out.cells u).2.2.2.1;have T:=fun u=>(g.out.cells u).2.2.2.2.1;have U:=fun u=>(g.out.cells u).2.2.2.2.2;obtain⟨ad,ae⟩:=ho;clear D hz H G g0 g1 E X q0 q1 q2 q3 q4 q5 p0 p1 hl hk hA hB hn hf X3 X4 X5 L0 L1 L3 L4 K0 K1;subst F;unfold fF dY at hW;unfold df;have an:W.cell? _=_:=X0 ⟨W,wL W⟩;have ao:W.cell? _=_:=X1 ⟨W,wL W⟩;have ap:W.cell? _=_:=X2 ⟨W,wL W⟩;have al:W.cell? _=_:=L2 ⟨W,wL W⟩;have am:W.cell? _=_:=L5 ⟨W,wL W⟩;have af:W.cell? _=_:=O ⟨W,wL W⟩;have ag:W.cell? _=_:=Q ⟨W,wL W⟩;have ah:W.cell? _=_:=R ⟨W,wL W⟩;have ai:W.frozen? _=_:=S ⟨W,wL W⟩;have aj:W.frozen? _=_:=T ⟨W,wL W⟩;have ak:W.frozen? _=_:=U ⟨W,wL W⟩
 cases aa with
 | false =>
  go_enter func157, ntmps157
  go_wp2;refine dh (W:=W) (wL W) (by kernel_rfl) (by kernel_rfl) ?_
  repeat (go_big_quiet_step (first|(rename_i u;go_at_call 175;exact di u (N.out u))))
  refine wpQuiet_nil ?_;intro w9 t;obtain⟨L,rfl⟩:=t;go_wp2;refine dh (W:=W) (L.gr) (by kernel_rfl) (by kernel_rfl) ?_
  repeat (go_big_quiet_step (first|(rename_i u;go_at_call 176;exact di u (M.out u))))
  refine wpQuiet_nil ?_;intro w8 r;obtain⟨J,rfl⟩:=r;have Y:=dJ J.gr;go_wp2_with (go_at_call 152;refine(dQ _).mono ?_;rintro e m ⟨rfl,Z⟩;have l:=dJ (Y.out.trans Z);obtain⟨p,z0,y,C⟩:=g.out.ret l.out Rn.poison;have y0:=O ⟨m,l.out⟩;have y1:=Q ⟨m,l.out⟩;have y2:=R ⟨m,l.out⟩;have y3:=S ⟨m,l.out⟩;have y4:=T ⟨m,l.out⟩;have y5:=U ⟨m,l.out⟩;dsimp only at y0 y1 y2 y3 y4 y5;obtain⟨W9,d⟩:=xJ (dw m (w.heap.size+1) Rn.poison);rw[d]at p z0 y C;unfold dw at d;dsimp only[Rn.poison]at d z0 y C;have q:=dJ p;clear p);refine vZ (v:=vv Rn.poison) (by simp[results,results157,go_sem,z0,y,C];rfl) rfl ?_;exact⟨rfl,q.out⟩
 | true =>
  cases br with
  | true =>
   go_enter func157, ntmps157
   go_wp2;refine dh (W:=W) (wL W) (by kernel_rfl) (by kernel_rfl) ?_
   repeat (go_big_quiet_step (first|(rename_i u;go_at_call 175;exact di u (N.out u))))
   refine wpQuiet_nil ?_;intro w9 t;obtain⟨L,rfl⟩:=t;go_wp2;refine dh (W:=W) (L.gr) (by kernel_rfl) (by kernel_rfl) ?_
   repeat (go_big_quiet_step (first|(rename_i u;go_at_call 176;exact di u (M.out u))))
   refine wpQuiet_nil ?_;intro w8 r;obtain⟨J,rfl⟩:=r;have Y:=dJ J.gr;go_wp2_with (go_at_call 152;refine(dQ _).mono ?_;rintro e m ⟨rfl,Z⟩;have l:=dJ (Y.out.trans Z);obtain⟨p,z0,y,C⟩:=g.out.ret l.out Rn.poison;have y0:=O ⟨m,l.out⟩;have y1:=Q ⟨m,l.out⟩;have y2:=R ⟨m,l.out⟩;have y3:=S ⟨m,l.out⟩;have y4:=T ⟨m,l.out⟩;have y5:=U ⟨m,l.out⟩;dsimp only at y0 y1 y2 y3 y4 y5;obtain⟨W9,d⟩:=xJ (dw m (w.heap.size+1) Rn.poison);rw[d]at p z0 y C;unfold dw at d;dsimp only[Rn.poison]at d z0 y C;have q:=dJ p;clear p);refine vZ (v:=vv Rn.poison) (by simp[results,results157,go_sem,z0,y,C];rfl) rfl ?_;exact⟨rfl,q.out⟩
  | false =>
   go_enter func157, ntmps157
   go_wp2;refine dh (W:=W) (wL W) (by kernel_rfl) (by kernel_rfl) ?_
   repeat (go_big_quiet_step (first|(rename_i u;go_at_call 175;exact di u (N.out u))))
   refine wpQuiet_nil ?_;intro w9 t;obtain⟨L,rfl⟩:=t;go_wp2;refine dh (W:=W) (L.gr) (by kernel_rfl) (by kernel_rfl) ?_
   repeat (go_big_quiet_step (first|(rename_i u;go_at_call 176;exact di u (M.out u))))
   refine wpQuiet_nil ?_;intro w8 r;obtain⟨J,rfl⟩:=r;obtain⟨p,z0,y,C⟩:=g.out.ret J.gr (Rn.word z);obtain⟨W9,d⟩:=xJ (dw J.val (w.heap.size+1) (Rn.word z));rw[d]at p z0 y C;unfold dw at d;have q:=dJ p;clear p
   try dsimp only[Rn.word,Rn.zero]at d z0 y C
   go_wp2;refine vZ (v:=vv (Rn.word z)) (by simp[results,results157,go_sem,z0,y,C];rfl) rfl ?_;exact⟨rfl,q.out⟩
theorem lO {w:World}(Bs:Nat)(x:Ins)(va vt vl vk:Value)(A B:Rn.V)(ka kb:Int)(hl:VsAt w vl [A,B])(hk:IntsAt w.heap.size w vk [ka,kb])(ho:x.op=14)(hi:0<=x.imm/\x.imm<=9)(hn:Wd.Wid ka)(hA:Wd.Word ka A.n)(hB:Wd.Word ka B.n) :
  Calls prog 157 #[.pointer (some ⟨Bs,0,none⟩),df x va vt,vl,vk] w (RG (vv (Rn.truth (Wd.cmp x.imm ka A.n B.n))) w):=by
 obtain⟨W0,t⟩:=xJ (dY w x va vt);obtain⟨W,J⟩:=xJ (fF W0);obtain⟨g0,I,p⟩:=oO t J;have d:=dJ p.gr;have X:=fun(u:GrW W)=>dk (w:=w) (x:=x) (va:=va) (vt:=vt) (w':=u.val) (by rw[t];exact I.trans u.gr);have X0:=fun u=>(X u).1;have X1:=fun u=>(X u).2.1;have X2:=fun u=>(X u).2.2.1;have X3:=fun u=>(X u).2.2.2.1;have X4:=fun u=>(X u).2.2.2.2.1;have X5:=fun u=>(X u).2.2.2.2.2;obtain⟨b,cl,rfl,ab,D,⟨M,N,O⟩,Q,R,S⟩:=hl.two;have L0:=gc d.out D M;have L1:=gc d.out D N;have L2:=gc d.out D O;have L3:=gc d.out D Q;have L4:=gc d.out D R;have L5:=gc d.out D S;obtain⟨bk,ok,ck,rfl,aa,E,K,L⟩:=eT hk;have K0:=gc d.out E K;have K1:=gc d.out E L;have G:=dJ fun(u:GrW W)=>el ((lx x.imm ka A.n B.n u.val hi hn hA hB).mono fun e w' q=>⟨q.1,q.2.symm⟩);obtain⟨r,H⟩:=xJ (Wd.cmp x.imm ka A.n B.n);rw[H]at G;rw[H];clear H;obtain⟨i1,i2⟩:=hi;have g:=dJ p;have T:=fun u=>(g.out.cells u).1;have U:=fun u=>(g.out.cells u).2.1;have Y:=fun u=>(g.out.cells u).2.2.1;have Z:=fun u=>(g.out.cells u).2.2.2.1;have F4:=fun u=>(g.out.cells u).2.2.2.2.1;have F5:=fun u=>(g.out.cells u).2.2.2.2.2;clear g0 I p X M N O Q R S K L hl hk hA hB hn X1 X2 X3 X5 L0 L1 L3 L4 K1;subst t;unfold fF dY at J;unfold df;obtain⟨op,wd,fl,args,im,tt⟩:=x;dsimp only at *;subst ho;have al:W.cell? _=_:=X0 ⟨W,wL W⟩;have am:W.cell? _=_:=X4 ⟨W,wL W⟩;have ai:W.cell? _=_:=K0 ⟨W,wL W⟩;have aj:W.cell? _=_:=L2 ⟨W,wL W⟩;have ak:W.cell? _=_:=L5 ⟨W,wL W⟩;have ac:W.cell? _=_:=T ⟨W,wL W⟩;have ad:W.cell? _=_:=U ⟨W,wL W⟩;have ae:W.cell? _=_:=Y ⟨W,wL W⟩;have af:W.frozen? _=_:=Z ⟨W,wL W⟩;have ag:W.frozen? _=_:=F4 ⟨W,wL W⟩;have ah:W.frozen? _=_:=F5 ⟨W,wL W⟩
 cases r with
 | false =>
  go_enter func157, ntmps157
  go_wp2;refine dh (W:=W) (wL W) (by kernel_rfl) (by kernel_rfl) ?_
  repeat (go_big_quiet_step (first|(rename_i u;go_at_call 177;exact di u (G.out u))))
  refine wpQuiet_nil ?_;intro w9 y;obtain⟨F,rfl⟩:=y;obtain⟨l,z0,z,C⟩:=g.out.ret F.gr (Rn.word 0);obtain⟨W9,j⟩:=xJ (dw F.val (w.heap.size+1) (Rn.word 0));rw[j]at l z0 z C;unfold dw at j;have m:=dJ l;clear l
  try dsimp only[Rn.word,Rn.zero]at j z0 z C
  go_wp2;refine vZ (v:=vv (Rn.word 0)) (by simp[results,results157,go_sem,z0,z,C];rfl) rfl ?_;exact⟨rfl,m.out⟩
 | true =>
  go_enter func157, ntmps157
  go_wp2;refine dh (W:=W) (wL W) (by kernel_rfl) (by kernel_rfl) ?_
  repeat (go_big_quiet_step (first|(rename_i u;go_at_call 177;exact di u (G.out u))))
  refine wpQuiet_nil ?_;intro w9 y;obtain⟨F,rfl⟩:=y;obtain⟨l,z0,z,C⟩:=g.out.ret F.gr (Rn.word 1);obtain⟨W9,j⟩:=xJ (dw F.val (w.heap.size+1) (Rn.word 1));rw[j]at l z0 z C;unfold dw at j;have m:=dJ l;clear l
  try dsimp only[Rn.word,Rn.zero]at j z0 z C
  go_wp2;refine vZ (v:=vv (Rn.word 1)) (by simp[results,results157,go_sem,z0,z,C];rfl) rfl ?_;exact⟨rfl,m.out⟩
theorem lP {w:World}(Bs:Nat)(x:Ins)(va vt vl vk:Value)(A:Rn.V)(ka:Int)(hl:VsAt w vl [A])(hk:IntsAt w.heap.size w vk [ka])(ho:x.op=16\/x.op=17\/x.op=18)(hm:Wd.Wid ka)(hn:Wd.Wid x.width)(hA:Wd.Word ka A.n)(hd:if x.op=18 then x.width<ka else ka<x.width) :
  Calls prog 157 #[.pointer (some ⟨Bs,0,none⟩),df x va vt,vl,vk] w (RG (vv (Rn.word (Wd.ext x.op ka x.width A.n))) w):=by
 obtain⟨W0,l⟩:=xJ (dY w x va vt);obtain⟨W,H⟩:=xJ (fF W0);obtain⟨g0,G,j⟩:=oO l H;have g:=dJ j.gr;have X:=fun(u:GrW W)=>dk (w:=w) (x:=x) (va:=va) (vt:=vt) (w':=u.val) (by rw[l];exact G.trans u.gr);have X0:=fun u=>(X u).1;have X1:=fun u=>(X u).2.1;have X2:=fun u=>(X u).2.2.1;have X3:=fun u=>(X u).2.2.2.1;have X4:=fun u=>(X u).2.2.2.2.1;have X5:=fun u=>(X u).2.2.2.2.2;obtain⟨b,cl,rfl,ab,y,J,K,L⟩:=hl.one;have Y:=gc g.out y J;have Z:=gc g.out y K;have L2:=gc g.out y L;obtain⟨bk,ok,ck,rfl,aa,z,I⟩:=mM hk;have U:=gc g.out z I;have F:=dJ fun(u:GrW W)=>el ((nh x.op ka x.width A.n u.val ho hm hn hA hd).mono fun e w' q=>⟨q.1,q.2.symm⟩);obtain⟨r,B⟩:=xJ (Wd.ext x.op ka x.width A.n);rw[B]at F;rw[B];clear B hd;have d:=dJ j;have N:=fun u=>(d.out.cells u).1;have O:=fun u=>(d.out.cells u).2.1;have Q:=fun u=>(d.out.cells u).2.2.1;have R:=fun u=>(d.out.cells u).2.2.2.1;have S:=fun u=>(d.out.cells u).2.2.2.2.1;have T:=fun u=>(d.out.cells u).2.2.2.2.2;clear g0 G j X J K L I hl hk hA hn hm X2 X3 X4 X5 Y Z;subst l;unfold fF dY at H;unfold df;obtain⟨op,wd,fl,args,im,tt⟩:=x;dsimp only at *;rcases ho with rfl|rfl|rfl;all_goals have ak:W.cell? _=_:=X0 ⟨W,wL W⟩
 all_goals have al:W.cell? _=_:=X1 ⟨W,wL W⟩
 all_goals have ai:W.cell? _=_:=U ⟨W,wL W⟩
 all_goals have aj:W.cell? _=_:=L2 ⟨W,wL W⟩
 all_goals have ac:W.cell? _=_:=N ⟨W,wL W⟩
 all_goals have ad:W.cell? _=_:=O ⟨W,wL W⟩
 all_goals have ae:W.cell? _=_:=Q ⟨W,wL W⟩
 all_goals have af:W.frozen? _=_:=R ⟨W,wL W⟩
 all_goals have ag:W.frozen? _=_:=S ⟨W,wL W⟩
 all_goals have ah:W.frozen? _=_:=T ⟨W,wL W⟩
 all_goals
  go_enter func157, ntmps157
  go_wp2;refine dh (W:=W) (wL W) (by kernel_rfl) (by kernel_rfl) ?_
  repeat (go_big_quiet_step (first|(rename_i u;go_at_call 178;exact di u (F.out u))))
  refine wpQuiet_nil ?_;intro w9 C;obtain⟨M,rfl⟩:=C;obtain⟨p,z0,D,E⟩:=d.out.ret M.gr (Rn.word r);obtain⟨W9,m⟩:=xJ (dw M.val (w.heap.size+1) (Rn.word r));rw[m]at p z0 D E;unfold dw at m;have t:=dJ p;clear p
  try dsimp only[Rn.word,Rn.zero]at m z0 D E
  go_wp2;refine vZ (v:=vv (Rn.word r)) (by simp[results,results157,go_sem,z0,D,E];rfl) rfl ?_;exact⟨rfl,t.out⟩
theorem jO {w:World}(Bs:Nat)(x:Ins)(va vt vl vk:Value)(A B:Rn.V)(ka kb:Int)(hl:VsAt w vl [A,B])(hk:IntsAt w.heap.size w vk [ka,kb])(ho:x.op=19\/x.op=20)(hn:Wd.Wid x.width)(hA:Wd.Word x.width A.n)(hB:Wd.Word x.width B.n)(h1:1<=x.imm)(h2:x.imm<x.width)(h3:x.width%x.imm=0) :
  Calls prog 157 #[.pointer (some ⟨Bs,0,none⟩),df x va vt,vl,vk] w (RG (vv (Rn.word (Wd.lanes x.op x.imm (x.width / x.imm).toNat A.n B.n))) w):=by
 obtain⟨W0,l⟩:=xJ (dY w x va vt);obtain⟨W,H⟩:=xJ (fF W0);obtain⟨g0,G,j⟩:=oO l H;have d:=dJ j.gr;have X:=fun(u:GrW W)=>dk (w:=w) (x:=x) (va:=va) (vt:=vt) (w':=u.val) (by rw[l];exact G.trans u.gr);have X0:=fun u=>(X u).1;have X1:=fun u=>(X u).2.1;have X2:=fun u=>(X u).2.2.1;have X3:=fun u=>(X u).2.2.2.1;have X4:=fun u=>(X u).2.2.2.2.1;have X5:=fun u=>(X u).2.2.2.2.2;obtain⟨b,cl,rfl,ab,p,⟨L,M,N⟩,O,Q,R⟩:=hl.two;have L0:=gc d.out p L;have L1:=gc d.out p M;have L2:=gc d.out p N;have L3:=gc d.out p O;have L4:=gc d.out p Q;have L5:=gc d.out p R;obtain⟨bk,ok,ck,rfl,aa,q,J,K⟩:=eT hk;have K0:=gc d.out q J;have K1:=gc d.out q K;have F:=dJ fun(u:GrW W)=>oT x.op x.width x.imm A.n B.n u.val ho hn hA hB h1 h2 h3;obtain⟨r,z⟩:=xJ (Wd.lanes x.op x.imm (x.width / x.imm).toNat A.n B.n);rw[z]at F;rw[z];have I:x.imm<=32:=by have:=hn.2;omega
 clear z h3;have g:=dJ j;have T:=fun u=>(g.out.cells u).1;have U:=fun u=>(g.out.cells u).2.1;have Y:=fun u=>(g.out.cells u).2.2.1;have Z:=fun u=>(g.out.cells u).2.2.2.1;have F4:=fun u=>(g.out.cells u).2.2.2.2.1;have F5:=fun u=>(g.out.cells u).2.2.2.2.2;clear g0 G j X L M N O Q R J K hl hk hA hB hn X2 X3 X5 L0 L1 L3 L4 K0 K1 h2;subst l;unfold fF dY at H;unfold df;obtain⟨op,wd,fl,args,im,tt⟩:=x;dsimp only at *;rcases ho with rfl|rfl;all_goals have ak:W.cell? _=_:=X0 ⟨W,wL W⟩
 all_goals have al:W.cell? _=_:=X1 ⟨W,wL W⟩
 all_goals have am:W.cell? _=_:=X4 ⟨W,wL W⟩
 all_goals have ai:W.cell? _=_:=L2 ⟨W,wL W⟩
 all_goals have aj:W.cell? _=_:=L5 ⟨W,wL W⟩
 all_goals have ac:W.cell? _=_:=T ⟨W,wL W⟩
 all_goals have ad:W.cell? _=_:=U ⟨W,wL W⟩
 all_goals have ae:W.cell? _=_:=Y ⟨W,wL W⟩
 all_goals have af:W.frozen? _=_:=Z ⟨W,wL W⟩
 all_goals have ag:W.frozen? _=_:=F4 ⟨W,wL W⟩
 all_goals have ah:W.frozen? _=_:=F5 ⟨W,wL W⟩
 all_goals
  go_enter func157, ntmps157
  go_wp2;refine dh (W:=W) (wL W) (by kernel_rfl) (by kernel_rfl) ?_
  repeat (go_big_quiet_step (first|(rename_i u;go_at_call 179;exact di u (F.out u))))
  refine wpQuiet_nil ?_;intro w9 C;obtain⟨S,rfl⟩:=C;obtain⟨t,z0,D,E⟩:=g.out.ret S.gr (Rn.word r);obtain⟨W9,m⟩:=xJ (dw S.val (w.heap.size+1) (Rn.word r));rw[m]at t z0 D E;unfold dw at m;have y:=dJ t;clear t
  try dsimp only[Rn.word,Rn.zero]at m z0 D E
  go_wp2;refine vZ (v:=vv (Rn.word r)) (by simp[results,results157,go_sem,z0,D,E];rfl) rfl ?_;exact⟨rfl,y.out⟩
theorem lQ {c:Cfg}{pk bl:List Int}{w:World}{s:Rn.St}{o:Rn.Out}{om wv bv:Value}(h:DS c pk w s bl o om wv bv)(hf:VFn c.f)(x:Ins)(va vt vl vk:Value)(A B:Rn.V)(ka kb:Int)(hl:VsAt w vl [A,B])(hk:IntsAt w.heap.size w vk [ka,kb])(ho:x.op=25)(hA:Rn.VOK c.f 33 A)(hAp:A.p=false)(hn:Wd.Wid kb)(hB:Wd.Word kb B.n) :
  Calls prog 157 #[.pointer (some ⟨c.Bs,0,none⟩),df x va vt,vl,vk] w (RG (vv (Rn.gep c.f.slots x.flags kb A B)) w):=by
 obtain⟨W0,l⟩:=xJ (dY w x va vt);obtain⟨W,I⟩:=xJ (fF W0);obtain⟨g0,H,j⟩:=oO l I;have d:=dJ j.gr;have X:=fun(u:GrW W)=>dk (w:=w) (x:=x) (va:=va) (vt:=vt) (w':=u.val) (by rw[l];exact H.trans u.gr);have X0:=fun u=>(X u).1;have X1:=fun u=>(X u).2.1;have X2:=fun u=>(X u).2.2.1;have X3:=fun u=>(X u).2.2.2.1;have X4:=fun u=>(X u).2.2.2.2.1;have X5:=fun u=>(X u).2.2.2.2.2;obtain⟨b,cl,rfl,ab,q,⟨L,M,N⟩,O,Q,R⟩:=hl.two;have L0:=gc d.out q L;have L1:=gc d.out q M;have L2:=gc d.out q N;have L3:=gc d.out q O;have L4:=gc d.out q Q;have L5:=gc d.out q R;obtain⟨bk,ok,ck,rfl,aa,t,J,K⟩:=eT hk;have K0:=gc d.out t J;have K1:=gc d.out t K;have y:=dJ fun(u:GrW W)=>nE (h.gr (d.out.trans u.gr)) hf x va vt A B hA hAp kb hn hB;obtain⟨r,D⟩:=xJ (Rn.gep c.f.slots x.flags kb A B);rw[D]at y;rw[D];clear D;have g:=dJ j;have T:=fun u=>(g.out.cells u).1;have U:=fun u=>(g.out.cells u).2.1;have Y:=fun u=>(g.out.cells u).2.2.1;have Z:=fun u=>(g.out.cells u).2.2.2.1;have F4:=fun u=>(g.out.cells u).2.2.2.2.1;have F5:=fun u=>(g.out.cells u).2.2.2.2.2;clear g0 H j X L M N O Q R J K hl hk hA hB hn hAp h hf K0;subst l;unfold fF dY at I;unfold df;unfold df vv at y;unfold vv;obtain⟨op,wd,fl,args,im,tt⟩:=x;dsimp only at *;subst ho;have ap:W.cell? _=_:=X0 ⟨W,wL W⟩;have aq:W.cell? _=_:=X1 ⟨W,wL W⟩;have ar:W.cell? _=_:=X2 ⟨W,wL W⟩;have au:W.cell? _=_:=X3 ⟨W,wL W⟩;have av:W.cell? _=_:=X4 ⟨W,wL W⟩;have aw:W.cell? _=_:=X5 ⟨W,wL W⟩;have ai:W.cell? _=_:=K1 ⟨W,wL W⟩;have aj:W.cell? _=_:=L0 ⟨W,wL W⟩;have ak:W.cell? _=_:=L1 ⟨W,wL W⟩;have al:W.cell? _=_:=L2 ⟨W,wL W⟩;have am:W.cell? _=_:=L3 ⟨W,wL W⟩;have an:W.cell? _=_:=L4 ⟨W,wL W⟩;have ao:W.cell? _=_:=L5 ⟨W,wL W⟩;have ac:W.cell? _=_:=T ⟨W,wL W⟩;have ad:W.cell? _=_:=U ⟨W,wL W⟩;have ae:W.cell? _=_:=Y ⟨W,wL W⟩;have af:W.frozen? _=_:=Z ⟨W,wL W⟩;have ag:W.frozen? _=_:=F4 ⟨W,wL W⟩;have ah:W.frozen? _=_:=F5 ⟨W,wL W⟩
 go_enter func157, ntmps157
 go_wp2;refine dO (W:=W) 12 (wL W) (by kernel_rfl) (by kernel_rfl) ?_;simp only[wt,List.take_zero,wz,List.drop_zero];repeat (go_big_quiet_step ((rename_i u;go_at_call 180;exact di u (y.out u))))
 refine wpQuiet_nil ?_;intro w9 E;obtain⟨S,rfl⟩:=E;obtain⟨z,z0,F,G⟩:=g.out.ret S.gr r;obtain⟨W9,m⟩:=xJ (dw S.val (w.heap.size+1) r);rw[m]at z z0 F G;unfold dw at m;have C:=dJ z;clear z
 try dsimp only[Rn.word,Rn.zero]at m z0 F G
 go_wp2;refine vZ (v:=vv r) (by simp[results,results157,go_sem,z0,F,G];rfl) rfl ?_;exact⟨rfl,C.out⟩
def lz (c:Cfg)(pk:List Int)(w:World)(s:Rn.St)(bl:List Int)(o:Rn.Out)(om wv bv:Value)(r:Option (List (List Int)))(e:Ending)(w':World):Prop :=
 match r with
 | none=>e=.returned (.bool false)/\Gr w w'
 | some m=>e=.returned (.bool true)/\DS c pk w' {s with mem:=m} bl o om wv bv/\FrS (Mut c) w w'
theorem jk {c:Cfg}{pk bl:List Int}{w:World}{s:Rn.St}{o:Rn.Out}{om wv bv:Value}(h:DS c pk w s bl o om wv bv)(hf:VFn c.f)(hi:Rn.Inv c.f s)(p x:Rn.V)(hp:Rn.VOK c.f 33 p)(n:Nat)(hn1:1<=n)(hn:n<=4)(hx:0<=x.n/\x.n<4294967296)(wd:Int)(hwd:wd=8*(n:Int)) :
  Calls prog 155 #[.pointer (some ⟨c.Bs,0,none⟩),vv p,vv x,.int .i64 wd] w (lz c pk w s bl o om wv bv (Rn.store s.mem p x n)):=by
 obtain⟨W1,z⟩:=xJ (w.alloc (.cells #[.bool p.p,.int .i64 p.s,.int .u32 p.n] 37));obtain⟨W,hW⟩:=xJ (W1.alloc (.cells #[.bool x.p,.int .i64 x.s,.int .u32 x.n] 37));have g1:Gr w W1:=by rw[<-z];exact(wL w).alloc _
 have g2:Gr W1 W:=by rw[<-hW];exact(wL W1).alloc _
 have s1:W1.heap.size=w.heap.size+1:=by rw[<-z];simp
 have s2:W.heap.size=w.heap.size+2:=by rw[<-hW];simp[s1]
 have D:Gr w W:=g1.trans g2;have K:W1.heap[w.heap.size]?=some (.cells #[.bool p.p,.int .i64 p.s,.int .u32 p.n] 37 (0,0)):=by rw[<-z];exact heap_alloc_new _ _
 have E:W.heap[w.heap.size+1]?=some (.cells #[.bool x.p,.int .i64 x.s,.int .u32 x.n] 37 (0,0)):=by rw[<-hW,<-s1];exact heap_alloc_new _ _
 have r:=(g2.heap _ (by omega)).trans K;have G:∀u:GrW W,u.val.cell? ⟨w.heap.size,0,none⟩=some (.bool p.p):=fun u=>vX _ _ 0 _ _ _ ((u.gr.heap _ (by omega)).trans r);have H:∀u:GrW W,u.val.cell? ⟨w.heap.size,1,none⟩=some (.int .i64 p.s):=fun u=>vX _ _ 1 _ _ _ ((u.gr.heap _ (by omega)).trans r);have I:∀u:GrW W,u.val.cell? ⟨w.heap.size,2,none⟩=some (.int .u32 p.n):=fun u=>vX _ _ 2 _ _ _ ((u.gr.heap _ (by omega)).trans r);have af:=dJ D
 cases hpp:p.p with
 | true =>
  have HE:Hid (Rn.store s.mem p x n=none):=by show _=_;unfold Rn.store;rw[wa (.inl hpp)]
  rw[hpp]at G;unfold vv;rw[hpp,HE.out];rw[hpp]at z;clear h hi hp g1 g2 D K E s1 s2 hpp r;subst z
  go_enter func155, ntmps155
  go_wp2;refine dc (by kernel_rfl) (by kernel_rfl) ?_;repeat (go_big_quiet_step (fail))
  refine wpQuiet_nil ?_;intro w9 t;obtain⟨U,rfl⟩:=t;have G9:=dJ (af.out.trans U.gr);clear G H I;go_wp2;go_ret;exact⟨rfl,G9.out⟩
 | false =>
  obtain⟨p1,p2,p3,p4⟩:=hp.ptr hpp;obtain⟨j,y,cp,l,hj,aa,L,ac,hl,aN,aK,aL,aQ,aJ,hA,A,aM,d⟩:=h.slot hf hi p1 p2
  have g:∃B:Array Value,w.heap[c.Bm]?=some (.cells B 22 (0,0)):=by obtain⟨-,-,q⟩:=h.slots;obtain⟨-,B,q2,-⟩:=q (by omega);exact⟨B,q2⟩
  have aj:c.Bm<w.heap.size:=by obtain⟨B,q⟩:=g;exact cY q
  have an:y<w.heap.size:=by obtain⟨B,q,-⟩:=d;exact cY q
  have az:c.Bm≠y:=by obtain⟨B,q⟩:=g;obtain⟨O,q',-⟩:=d;exact gs q q' (by decide)
  have aA:c.Bs≠y:=by obtain⟨O,q',-⟩:=d;exact gs h.st q' (by decide)
  have c4:w.cell? ⟨c.Bs,4,none⟩=some (.slice (some ⟨c.Bm,0,none⟩) c.us.length c.cm):=by have:w.cell? ⟨c.Bs,4,none⟩=some c.mv:=h.cell 4;rw[this];unfold Cfg.mv;rw[hA]
  have ak:=cY h.st;have U4:∀u:GrW W,u.val.cell? ⟨c.Bs,4,none⟩=some (.slice (some ⟨c.Bm,0,none⟩) c.us.length c.cm):=fun u=>((D.trans u.gr).cell _ _ ak).trans c4;have UM:∀u:GrW W,u.val.cell? ⟨c.Bm,j,none⟩=some (.slice (some ⟨y,0,none⟩) l.length cp):=fun u=>((D.trans u.gr).cell _ _ aj).trans A;obtain⟨pp,S,PN⟩:=p;dsimp only at *;subst hpp;obtain rfl:S=(j:Int)+1:=by omega
  have CI:=dJ fun(u:GrW W)=>el (il (l.length:Int) PN (n:Int) u.val ⟨p3,p4⟩ ⟨by omega,by omega⟩);have aS:wd.tdiv 8=(n:Int):=by rw[Int.tdiv_eq_ediv_of_nonneg (by omega)];omega
  have aF:wd / 8=(n:Int):=by omega
  have aR:0<=wd:=by omega
  have aE:wd<=32:=by omega
  clear hwd;by_cases ap:PN+(n:Int)<=(l.length:Int)
  ·obtain⟨N,rfl⟩:=vF p3;have aq:N+n<=l.length:=by omega
   obtain⟨C,J⟩:=xJ (Rn.bytesOf x n x.n);have ao:C.length=n:=by rw[<-J];exact Rn.bytesOf_len _ _ _
   have av:Hid (∀k,k<n->C[k]?=some (if x.p=true then -1 else x.n / 256 ^ k%256)):=fun k hk=>by rw[<-J];exact Rn.bytesOf_get x n k x.n hk
   have ax:Hid (Rn.store s.mem ⟨false,(j:Int)+1,(N:Int)⟩ x n=some (s.mem.set j (Rn.overlay l N C))):=by show _=_;unfold Rn.store;dsimp only at hl ⊢;rw[hl,wb (by simp;omega),J,aa,vG]
   have ae:Hid (∀w',RowIs y (Rn.overlay l N C) w'->FrS (·=y) W w'->DS c pk w' {s with mem:=s.mem.set j (Rn.overlay l N C)} bl o om wv bv/\FrS (Mut c) w w'):=fun w' hr m=>by obtain⟨O,r1,r2⟩:=hr;exact⟨(h.gr D).memSet L ac (Rn.overlay_len (by omega)) m r1 r2,(FrS.of_gr D).trans (m.mono fun k hk=>by rw[hk];exact .inr (.inr (.inr ⟨_,cp,L⟩)))⟩
   have ah:Hid (RowIs y l W):=d.gr D
   have HK:Hid (∀w',FrS (·=y) W w'->w'.cell? ⟨c.Bs,4,none⟩=some (.slice (some ⟨c.Bm,0,none⟩) c.us.length c.cm)/\w'.cell? ⟨c.Bm,j,none⟩=some (.slice (some ⟨y,0,none⟩) l.length cp)/\w'.cell? ⟨w.heap.size,1,none⟩=some (.int .i64 ((j:Int)+1))/\w'.cell? ⟨w.heap.size,2,none⟩=some (.int .u32 N)/\w'.cell? ⟨w.heap.size+1,0,none⟩=some (.bool x.p)/\w'.cell? ⟨w.heap.size+1,2,none⟩=some (.int .u32 x.n)):=fun w' q=>by
    have b0:=q.block w.heap.size (by omega) (by omega);have b1:=q.block (w.heap.size+1) (by omega) (by omega);have b2:=q.block c.Bs (by have:=D.size;omega) aA;have b3:=q.block c.Bm (by have:=D.size;omega) az
    exact⟨(wA (a:=⟨c.Bs,4,none⟩) b2).trans (U4 ⟨W,wL W⟩),(wA (a:=⟨c.Bm,j,none⟩) b3).trans (UM ⟨W,wL W⟩),(wA (a:=⟨w.heap.size,1,none⟩) b0).trans (H ⟨W,wL W⟩),(wA (a:=⟨w.heap.size,2,none⟩) b0).trans (I ⟨W,wL W⟩),
      vX _ _ 0 _ _ _ (b1.trans E),vX _ _ 2 _ _ _ (b1.trans E)⟩
   have Y:=dJ aq;have aC:=hx.1;have aD:=hx.2;have hd:decide ((N:Int)+(n:Int)<=(l.length:Int))=true:=by simpa using ap
   rw[hd]at CI;have M:=dJ ao;have aG:=dJ an;unfold vv;dsimp only;rw[ax.out];clear h hi hp g1 g2 D K E s1 s2 r hl L ac d A hA hf hx hd hj aa p1 p2 c4 g J ao;subst z
   go_enter func155, ntmps155
   go_wp2;refine dc (by kernel_rfl) (by kernel_rfl) ?_;repeat (go_big_quiet_step ((rename_i u;go_at_call 172;exact di u (CI.out u))))
   refine wpQuiet_nil ?_;intro w9 t;obtain⟨U,rfl⟩:=t;have G9:=dJ U.gr;have aw:=dJ (ah.out.gr U.gr);obtain⟨-,-,-,-,z0,z2⟩:=HK.out U.val (FrS.of_gr U.gr);clear G H I U4 UM;go_wp2
   go_loopw [9,10] (fun s9 ad wr=>∃(k:Nat)(X:Int),k<=n/\ad=.int .i64 (k:Int)/\s9=.int .i64 X/\0<=X/\X<4294967296/\Hid (X=x.n / 256 ^ k)/\Hid (RowIs y (Rn.overlay l N (C.take k)) wr)/\Hid (FrS (·=y) W wr)) (fun _ ad _=>n-(intOf ad).toNat)
   case atStart=>exact⟨0,x.n,vU _,rfl,rfl,aC,aD,(by (show _=_);simp),by (show RowIs _ _ _);rw[List.take_zero,Rn.overlay_zero];exact aw.out,FrS.of_gr G9.out⟩
   case round =>
    obtain⟨k,X,hk,rfl,rfl,al,aI,am,d,m⟩:=hrel;by_cases ar:k<n
    ·have aB:(Rn.overlay l N (C.take k)).length=l.length:=Rn.overlay_len (by rw[List.length_take];have:=Y.out;omega);have Z:N+k<(Rn.overlay l N (C.take k)).length:=by have:=Y.out;omega
     have aH:N+k<l.length:=by omega
     obtain⟨old,T⟩:∃v:Int,(Rn.overlay l N (C.take k))[N+k]?=some v:=⟨_,vu Z⟩;obtain⟨-,-,-,-,y0,y2⟩:=HK.out wr m.out;have V4:=fun(u:GrW wr)=>(HK.out u.val (m.out.trans (FrS.of_gr u.gr))).1;have VM:=fun(u:GrW wr)=>(HK.out u.val (m.out.trans (FrS.of_gr u.gr))).2.1;have V1:=fun(u:GrW wr)=>(HK.out u.val (m.out.trans (FrS.of_gr u.gr))).2.2.1;have V2:=fun(u:GrW wr)=>(HK.out u.val (m.out.trans (FrS.of_gr u.gr))).2.2.2.1;have HD:Hid (∀u:GrW wr,u.val.cell? ⟨y,N+k,none⟩=some (.int .i64 old)/\u.val.frozen? ⟨y,N+k,none⟩=false):=fun u=>⟨(d.out.gr u.gr).cell T,(d.out.gr u.gr).free _⟩;have au:=Rn.overlay_step (l:=l) (a:=N) (by rw[M.out];exact Y.out) (av.out k ar)
     have F:Hid (∀(u:GrW wr)(yb:Int),yb=(if x.p=true then -1 else x.n / 256 ^ k%256)->RowIs y (Rn.overlay l N (C.take (k+1))) (u.val.setCell ⟨y,N+k,none⟩ (.int .i64 yb))/\FrS (·=y) W (u.val.setCell ⟨y,N+k,none⟩ (.int .i64 yb))):=fun u yb hyb=>by subst hyb;rw[au];exact⟨(d.out.gr u.gr).set Z _,(m.out.trans (FrS.of_gr u.gr)).setCell (p:=⟨y,N+k,none⟩) rfl _⟩
     have ai:Hid (X / 256=x.n / 256 ^ (k+1)):=by show _=_;rw[am.out,Int.pow_succ,Int.ediv_ediv_of_nonneg (by exact Int.le_of_lt (Int.pow_pos (by decide)))]
     have Q:0<=X / 256:=by omega
     have R:X / 256<4294967296:=by omega
     have ay:Hid (X%256=x.n / 256 ^ k%256):=by show _=_;rw[am.out]
     have aO:0<=X%256:=by omega
     have aP:X%256<256:=by omega
     have ag:=dJ ar;have e1:X.tmod 256=X%256:=Int.tmod_eq_emod_of_nonneg al;have e2:X.tdiv 256=X / 256:=Int.tdiv_eq_ediv_of_nonneg al;clear au T Z aB
     cases hxp:x.p with
     | true =>
      rw[hxp]at y0 F;clear hxp;go_wp2;refine dD 16 (by kernel_rfl) (by kernel_rfl) ?_;simp only[wt,List.take_zero,wz,List.drop_zero];repeat (go_big_quiet_step (fail))
      refine wpQuiet_nil ?_;intro w9 t;obtain⟨u8,rfl⟩:=t;obtain⟨d0,d1⟩:=HD.out u8;obtain⟨n1,n2⟩:=F.out u8 (-1) (by simp);have N1:=dJ n1;have N2:=dJ n2;clear V4 VM V1 V2 n1 n2;go_wp2;have ab:=ag.out;exact⟨⟨k+1,X / 256,by omega,by go_num,rfl,Q,R,ai,N1,N2⟩,by simp[intOf];omega⟩
     | false =>
      rw[hxp]at y0 F;clear hxp;go_wp2;refine dD 16 (by kernel_rfl) (by kernel_rfl) ?_;simp only[wt,List.take_zero,wz,List.drop_zero];repeat (go_big_quiet_step (fail))
      refine wpQuiet_nil ?_;intro w9 t;obtain⟨u8,rfl⟩:=t;obtain⟨d0,d1⟩:=HD.out u8;obtain⟨n1,n2⟩:=F.out u8 (X%256) (by simp[ay.out]);have N1:=dJ n1;have N2:=dJ n2;clear V4 VM V1 V2 n1 n2;go_wp2;have ab:=ag.out;exact⟨⟨k+1,X / 256,by omega,by go_num,rfl,Q,R,ai,N1,N2⟩,by simp[intOf];omega⟩
    ·have ab:k=n:=by omega
     subst ab;have e:C.take k=C:=vO (by have:=M.out;omega);rw[e]at d;obtain⟨r1,r2⟩:=ae.out _ d.out m.out;have R1:=dJ r1;have R2:=dJ r2;clear r1 r2;go_wp2;go_ret;exact⟨rfl,R1.out,R2.out⟩
  ·have HE:Hid (Rn.store s.mem ⟨false,(j:Int)+1,PN⟩ x n=none):=by
    show _=_;unfold Rn.store;dsimp only at hl ⊢;rw[hl,wa (.inr (by omega))]
   unfold vv;dsimp only;rw[HE.out];have hd:decide (PN+(n:Int)<=(l.length:Int))=false:=by simpa using ap
   rw[hd]at CI;clear h hi hp g1 g2 D K E s1 s2 r hl L ac d A hA hf hx hd hj aa p1 p2 c4 g;subst z
   go_enter func155, ntmps155
   go_wp2;refine dc (by kernel_rfl) (by kernel_rfl) ?_;repeat (go_big_quiet_step ((rename_i u;go_at_call 172;exact di u (CI.out u))))
   refine wpQuiet_nil ?_;intro w9 t;obtain⟨U,rfl⟩:=t;have G9:=dJ (af.out.trans U.gr);clear G H I U4 UM;go_wp2;go_ret;exact⟨rfl,G9.out⟩

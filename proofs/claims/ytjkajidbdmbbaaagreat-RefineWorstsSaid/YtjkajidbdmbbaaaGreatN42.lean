import Derived.Test.YtjkajidbdmbbaaaGreatN39
set_option linter.unusedSimpArgs false
set_option linter.unusedVariables false
set_option maxRecDepth 100000
set_option maxHeartbeats 16000000
open Go.Proofs.Tryz
namespace Go.Proofs.YtjkajidbdmbbaaaGreat
open Ref Rn Wd Ir Rf
open Go.RowKit
variable {c:Cfg}{a:Int}{bl pk:List Int}{B:Nat}{bv om v wv:Value}{w:World}
theorem oA (o f n a b:Int)(w:World)(ho:1<=o/\o<=13)(hf:0<=f/\f<=7)(hn:zi n)(ha:yX n a)(hb:yX n b):Calls prog 202 #[.int .i64 o,.int .i64 f,.int .i64 n,.int .u32 a,.int .u32 b] w (RG (.tuple #[.bool (BZ o f n a b),.int .i64 0]) w):=by
 cases hz:Wd.op o n a b with
 | none =>
  have e:BZ o f n a b=false:=by unfold BZ;rw[hz];rfl
  rw[e];exact my o f n a b w ho hf hn ha hb hz
 | some z =>
  have e:BZ o f n a b=Gw o f n a b:=by unfold BZ;rw[hz];rfl
  rw[e];exact mz o f n a b z w ho hf hn ha hb hz
theorem qG (p a b:Int)(w:World)(hp:0<=p/\p<=9):Calls prog 216 #[.int .i64 p,.int .i64 a,.int .i64 b] w (RS (.bool (JW p a b)) w):=by
 rcases (by omega:p=0\/p=1\/p=2\/p=3\/p=4\/p=5\/p=6\/p=7\/p=8\/p=9) with rfl|rfl|rfl|rfl|rfl|rfl|rfl|rfl|rfl|rfl
 all_goals
  clear hp
  go_enter func216, ntmps216
  go_wp2_with (fail);go_ret;exact⟨rfl,rfl⟩
theorem iZ (p:Int)(w:World)(hp:0<=p/\p<=9):Calls prog 215 #[.int .i64 p] w (RS (.bool true) w):=by
 obtain⟨d,g⟩:=hp
 go_enter func215, ntmps215
 go_wp2_with (fail);go_ret;exact⟨by simp[*]<;>omega,rfl⟩
theorem mn (p n a b:Int)(w:World)(hp:0<=p/\p<=9)(hn:zi n)(ha:yX n a)(hb:yX n b):Calls prog 203 #[.int .i64 p,.int .i64 n,.int .u32 a,.int .u32 b] w (RS (.tuple #[.bool (Gy p n a b),.int .i64 0]) w):=by
 obtain⟨z,A⟩:=dL hn ha;obtain⟨B,C⟩:=dL hn hb
 have t:Hid (∀d,Calls prog 215 #[.int .i64 p] d (RS (.bool true) d)):=fun d=>by exact iZ p d hp
 have j:=dJ fun d=>en n a d z A;have l:=dJ fun d=>en n b d B C;rw[eB hn ha]at j;rw[eB hn hb]at l;have CS:=dJ fun d=>dO n a d hn z A;have u:=dJ fun d=>dO n b d hn B C;have r:=dJ fun x y d=>qG p x y d hp;have g:Hid (6<=p->Gy p n a b=JW p (zU n a) (zU n b)):=fun h=>by unfold Gy;rw[yr h]
 have q:Hid (¬6<=p->Gy p n a b=JW p a b):=fun h=>by unfold Gy;rw[yt h]
 obtain⟨x,E⟩:=xJ (zU n a);obtain⟨y,F⟩:=xJ (zU n b);rw[E]at CS g;rw[F]at u g;clear hn ha hb E F hp;by_cases D:6<=p
 ·have m:=dJ D
  go_enter func203, ntmps203
  go_wp2_with (first|(go_at_call 215;refine(t.out _).mono ?_;rintro e d ⟨rfl,rfl⟩)|(go_at_call 48;(with_reducible refine(j.out _).mono ?_);rintro e d ⟨rfl,rfl⟩)|(go_at_call 48;(with_reducible refine(l.out _).mono ?_);rintro e d ⟨rfl,rfl⟩)|(go_at_call 200;(with_reducible refine(CS.out _).mono ?_);rintro e d ⟨rfl,rfl⟩)|(go_at_call 200;(with_reducible refine(u.out _).mono ?_);rintro e d ⟨rfl,rfl⟩)|(go_at_call 216;refine(r.out _ _ _).mono ?_;rintro e d ⟨rfl,rfl⟩))
  go_ret2;exact⟨by rw[g.out m.out];rfl,rfl⟩
 ·have m:=dJ D
  go_enter func203, ntmps203
  go_wp2_with (first|(go_at_call 215;refine(t.out _).mono ?_;rintro e d ⟨rfl,rfl⟩)|(go_at_call 48;(with_reducible refine(j.out _).mono ?_);rintro e d ⟨rfl,rfl⟩)|(go_at_call 48;(with_reducible refine(l.out _).mono ?_);rintro e d ⟨rfl,rfl⟩)|(go_at_call 216;refine(r.out _ _ _).mono ?_;rintro e d ⟨rfl,rfl⟩))
  go_ret2;exact⟨by rw[q.out (by have:=m.out;omega)];rfl,rfl⟩
theorem oB (o m n a:Int)(w:World)(ho:o=16\/o=17\/o=18)(hm:zi m)(hn:zi n)(ha:yX m a)(hd:if o=18 then n<m else m<n):Calls prog 204 #[.int .i64 o,.int .i64 m,.int .i64 n,.int .u32 a] w (RS (.tuple #[.int .u32 (E0 o m n a),.int .i64 0]) w):=by
 obtain⟨B,G⟩:=dL hm ha;obtain⟨D,E⟩:=Eo hm ha;have hh:=Ft hm;have q:=C4 hm;have C:=BC (m-1);have y:=dJ fun d=>eK n d;rw[ei hn]at y;have A:=dJ fun d=>en m a d B G;rw[eB hm ha]at A;have CS:=dJ fun d=>dO m a d hm B G;have t:=dJ fun d=>ew n a d hn (by omega) (by omega);have r:=dJ fun d=>ew n (zU m a) d hn (by omega) (by omega)
 have g:Hid (o=16->a%m9 n=E0 o m n a):=fun h=>by
  show _=_;subst h;have I:m<n:=by simpa using hd
  have J:m9 m<=m9 n:=Hg (by omega);have:=ha.2;rw[Int.emod_eq_of_lt B (by omega)];rfl
 have j:Hid (zU m a%m9 n=E0 17 m n a):=rfl;have l:Hid (a%m9 n=E0 18 m n a):=rfl;rcases ho with rfl|rfl|rfl
 ·have u:m<n:=by simpa using hd
  have F:=dJ (g.out rfl);obtain⟨z,p⟩:=xJ (a%m9 n);rw[p]at F t;clear hm hn ha hd p hh q C D E g CS r
  go_enter func204, ntmps204
  go_wp2_with (first|(go_at_call 73;refine(y.out _).mono ?_;rintro e d ⟨rfl,rfl⟩)|(go_at_call 48;refine(A.out _).mono ?_;rintro e d ⟨rfl,rfl⟩)|(go_at_call 211;refine(t.out _).mono ?_;rintro e d ⟨rfl,rfl⟩))
  go_ret2;exact⟨by rw[F.out];rfl,rfl⟩
 ·have u:m<n:=by simpa using hd
  obtain⟨z,p⟩:=xJ (zU m a%m9 n);rw[p]at j r;obtain⟨x,H⟩:=xJ (zU m a);rw[H]at CS r;clear hm hn ha hd p H hh q C D E g t
  go_enter func204, ntmps204
  go_wp2_with (first|(go_at_call 73;refine(y.out _).mono ?_;rintro e d ⟨rfl,rfl⟩)|(go_at_call 48;refine(A.out _).mono ?_;rintro e d ⟨rfl,rfl⟩)|(go_at_call 200;refine(CS.out _).mono ?_;rintro e d ⟨rfl,rfl⟩)|(go_at_call 211;refine(r.out _).mono ?_;rintro e d ⟨rfl,rfl⟩))
  go_ret2;exact⟨by rw[j.out];rfl,rfl⟩
 ·have u:n<m:=by simpa using hd
  obtain⟨z,p⟩:=xJ (a%m9 n);rw[p]at l t;clear hm hn ha hd p hh q C D E g CS r
  go_enter func204, ntmps204
  go_wp2_with (first|(go_at_call 73;refine(y.out _).mono ?_;rintro e d ⟨rfl,rfl⟩)|(go_at_call 48;refine(A.out _).mono ?_;rintro e d ⟨rfl,rfl⟩)|(go_at_call 211;refine(t.out _).mono ?_;rintro e d ⟨rfl,rfl⟩))
  go_ret2;exact⟨by rw[l.out];rfl,rfl⟩
theorem qh (o n l a b:Int)(w:World)(ho:o=19\/o=20)(hn:zi n)(ha:yX n a)(hb:yX n b)(hl1:1<=l)(hl2:l<n)(hl3:n%l=0):Calls prog 205 #[.int .i64 o,.int .i64 n,.int .i64 l,.int .u32 a,.int .u32 b] w (RG (.tuple #[.int .u32 (CP o l (n / l).toNat a b),.int .i64 0]) w):=by
 obtain⟨a1,a2⟩:=dL hn ha;obtain⟨b1,b2⟩:=dL hn hb;obtain⟨n1,n2⟩:=id hn;have N:zi l:=⟨hl1,by omega⟩;have C2:=dJ fun d=>en n a d a1 a2;have C3:=dJ fun d=>en n b d b1 b2;rw[eB hn ha]at C2;rw[eB hn hb]at C3;have CL:=dJ fun d=>dN l d (by omega) (by omega);have CQ:Hid (∀q d,0<=q->q<=62->Calls prog 74 #[.int .i64 q] d (RS (.int .i64 (m9 q)) d)):=fun q d h1 h2=>dN q d h1 h2;have CW:Hid (∀z d,-4611686018427387904<=z->z<=4611686018427387904->Calls prog 211 #[.int .i64 l,.int .i64 z] d (RS (.int .u32 (z%m9 l)) d)):=fun z d h1 h2=>ew l z d N h1 h2;obtain⟨m,O⟩:=xZ (show 0<=l by omega);obtain⟨K,hK⟩:=xZ (show 0<=n / l from yH (by omega) (by omega))
 have ac:n=l*(K:Int):=by have:=Int.emod_add_mul_ediv n l;rw[hl3,hK]at this;omega
 have hS:=BC l;have aj:=C4 N;have ab:(n / l).toNat=K:=by omega
 rw[ab]
 have C:Hid (∀j:Nat,m9 l ^ j=m9 (l*(j:Int))):=fun j=>by rw[O,KV];simp
 have g:Hid (∀j:Nat,j<=K->m9 l ^ j<=4294967296/\0<m9 l ^ j):=fun j hj=>by
  rw[C.out];have h1:l*(j:Int)<=l*(K:Int):=Int.mul_le_mul_of_nonneg_left (by omega) (by omega);have h0:0<=l*(j:Int):=Int.mul_nonneg (by omega) (by omega);have:=Hg (n:=l*(j:Int)) (m:=32) (by omega);have e:m9 32=4294967296:=by decide
  exact⟨by omega,BC _⟩
 have u:Hid (∀j:Nat,CP o l (j+1) a b=CP o l j a b+Fo o (m9 l) (a / m9 l ^ j) (b / m9 l ^ j)*m9 l ^ j):=fun j=>Ko o l j a b;have r:Hid (∀j:Nat,0<=CP o l j a b/\CP o l j a b<m9 l ^ j):=fun j=>IM o l j a b;have Y:Hid (CP o l 0 a b=0):=rfl;have R:Hid (∀S x y,o=19->Fo o S x y=(x%S+y%S)%S):=fun S x y h=>by unfold Fo;rw[yr h]
 have T:Hid (∀S x y,o=20->Fo o S x y=(x%S-y%S)%S):=fun S x y h=>by unfold Fo;rw[yt (by omega)]
 have U:Hid (∀S x y,0<S->0<=Fo o S x y/\Fo o S x y<S):=fun S x y h=>I8 o S x y h;obtain⟨F,hF⟩:∃F:Nat->Int,(fun j=>CP o l j a b)=F:=⟨_,rfl⟩;have aa:∀j,CP o l j a b=F j:=fun j=>by rw[<-hF]
 obtain⟨G,hG⟩:∃G:Int->Int->Int->Int,Fo o=G:=⟨_,rfl⟩;simp only[aa]at u r Y ⊢;rw[hG]at u R T U;obtain⟨S,I⟩:=xJ (m9 l);rw[I]at CL hS aj C g u r;have Q:Hid (∀z d,-4611686018427387904<=z->z<=4611686018427387904->Calls prog 211 #[.int .i64 l,.int .i64 z] d (RS (.int .u32 (z%S)) d)):=by rw[I]at CW;exact CW
 have W:=dJ ac;have ao:(l == 0)=false:=by simp;omega
 have an:(S == 0)=false:=by simp;omega
 clear hF aa hG I O hK ab ac hn ha hb N CW;rcases ho with rfl|rfl
 all_goals
  go_enter func205, ntmps205
  go_wp2_with (first|(go_at_call 48;(with_reducible refine(C2.out _).mono ?_);rintro e d ⟨rfl,rfl⟩)|(go_at_call 48;(with_reducible refine(C3.out _).mono ?_);rintro e d ⟨rfl,rfl⟩))
  go_loopw [12,13] (fun am i wr=>∃j:Nat,j<=K/\i=.int .i64 (l*(j:Int))/\am=.int .i64 (F j)/\Gr w wr) (fun _ i _=>(n-intOf i).toNat)
  case atStart=>exact⟨0,yI _,by simp,by rw[Y.out],yO _⟩
  case round =>
   obtain⟨j,hj,rfl,rfl,HG⟩:=hrel;by_cases J:j<K
   ·obtain⟨p2,p1⟩:=g.out j (by omega);have ad:0<=l*(j:Int):=Int.mul_nonneg (by omega) (by omega);have M:l*((j+1:Nat):Int)=l*(j:Int)+l:=by push_cast;rw[Int.mul_add];omega
    have ae:l*((j+1:Nat):Int)<=l*(K:Int):=Int.mul_le_mul_of_nonneg_left (by omega) (by omega);rw[M,<-W.out]at ae;have X:=dJ M;have ai:=(g.out (j+1) (by omega)).1;have t:=dJ (u.out j);have B:=C.out j;obtain⟨f0,f1⟩:=r.out j;have H:=(r.out (j+1)).2;have Z:=(r.out (j+1)).1;rw[t.out]at H Z;obtain⟨q,hq⟩:=xJ (l*(j:Int));rw[hq]at ad ae B X ⊢;have CJ:=dJ fun d=>CQ.out q d ad (by omega);rw[<-B]at CJ;obtain⟨p,hp⟩:=xJ (S ^ j);rw[hp]at p1 p2 CJ t f1 H Z;have x1:0<=a / p:=yH a1 (by omega);have x2:a / p<=a:=Int.ediv_le_self _ a1;have y1:0<=b / p:=yH b1 (by omega);have y2:b / p<=b:=Int.ediv_le_self _ b1;have g1:0<=a / p%S:=Int.emod_nonneg _ (by omega);have g2:a / p%S<S:=Int.emod_lt_of_pos _ hS;have g3:0<=b / p%S:=Int.emod_nonneg _ (by omega);have g4:b / p%S<S:=Int.emod_lt_of_pos _ hS;have CX:=dJ fun d=>Q.out (a / p%S+b / p%S) d (by omega) (by omega);have CY:=dJ fun d=>Q.out (a / p%S+-(b / p%S)) d (by omega) (by omega);have D:=R.out S (a / p) (b / p);have E:=T.out S (a / p) (b / p);obtain⟨l1,l2⟩:=U.out S (a / p) (b / p) hS;obtain⟨L,hL⟩:=xJ (G S (a / p) (b / p));rw[hL]at D E l1 l2 t H Z;have m1:0<=L*p:=Int.mul_nonneg l1 (by omega)
    have m2:L*p<=4294967296:=by have:F j+L*p<S ^ (j+1):=H;omega
    have q3:q<n:=by omega
    have M3:Hid (F j+L*p<4294967297):=(by omega:F j+L*p<4294967297);have ap:(p == 0)=false:=by simp;omega
    have af:=dJ D;have ag:=dJ E;have ah:Hid (j+1<=K):=dJ J;have A:=dJ HG;clear D E hq hp hL M J B HG Z H ai
    go_upto_region 7 with (fail)
    go_quiet (first|(go_at_call 74;exact dq (CJ.out _))|(go_at_call 74;exact dq (CL.out _)))
    go_wp2_with (first|(go_at_call 74;refine(CJ.out _).mono ?_;rintro e d ⟨rfl,rfl⟩)|(go_at_call 211;(with_reducible refine(CX.out _).mono ?_);rintro e d ⟨rfl,rfl⟩)|(go_at_call 211;(with_reducible refine(CY.out _).mono ?_);rintro e d ⟨rfl,rfl⟩))
    go_roundw
    case rel =>
     refine⟨j+1,ah.out,?_,?_,A.out.drewN _⟩
     ·rw[X.out]
     ·have m3:=M3.out;have w0:=w64 L (by omega) (by omega);have d:=w64 (L*p) (by omega) (by omega);have w2:=w64 (F j+L*p) (by omega) (by omega);rw[t.out]
      first
       | (have O:(a / p+b / p)%S=L:=by rw[af.out (by simp),<-Int.add_emod]
          rw[O,w0,d,w2])
       | (have O:(a / p+-(b / p%S))%S=L:=by rw[ag.out (by simp),Int.sub_eq_add_neg,Int.emod_add_emod]
          rw[O,w0,d,w2])
    case measure=>simp only[intOf];omega
   ·have al:j=K:=by omega
    subst al;have f1:=(g.out j (by omega)).1;obtain⟨f2,H⟩:=r.out j;have ak:¬l*(j:Int)<n:=by rw[W.out];omega
    obtain⟨q,hq⟩:=xJ (l*(j:Int));rw[hq]at ak ⊢;have Z:F j<4294967296:=by omega
    have A:=dJ HG;clear hq J HG H f1;go_wp2_with (fail);go_ret2;exact⟨rfl,A.out⟩
theorem VsAt.one {A:Rn.V}(h:VsAt w v [A]):∃b c,v=.slice (some ⟨b,0,none⟩) 1 c/\1<=c/\b<w.heap.size/\w.cell? ⟨b,0,none⟩=some (.bool A.p)/\w.cell? ⟨b,1,none⟩=some (.int .i64 A.s)/\w.cell? ⟨b,2,none⟩=some (.int .u32 A.n):=by obtain⟨b,c,e,d,g,j,l,m⟩:=h.cells (k:=0) rfl;exact⟨b,c,e,d,g,j,l,m⟩
theorem VsAt.two {A B:Rn.V}(h:VsAt w v [A,B]):∃b c,v=.slice (some ⟨b,0,none⟩) 2 c/\2<=c/\b<w.heap.size/\(w.cell? ⟨b,0,none⟩=some (.bool A.p)/\w.cell? ⟨b,1,none⟩=some (.int .i64 A.s)/\w.cell? ⟨b,2,none⟩=some (.int .u32 A.n))/\(w.cell? ⟨b,3,none⟩=some (.bool B.p)/\w.cell? ⟨b,4,none⟩=some (.int .i64 B.s)/\w.cell? ⟨b,5,none⟩=some (.int .u32 B.n)):=by obtain⟨b,c,e,g,j,l,m,q⟩:=h.cells (k:=0) rfl;obtain⟨y,z,d,-,-,r,t,u⟩:=h.cells (k:=1) rfl;rw[e]at d;injection d with d;injection d with d;injection d with d _;subst d;exact⟨b,c,e,g,j,⟨l,m,q⟩,r,t,u⟩
theorem nS (h:IntsAt B w v [a]):∃b o c,v=.slice (some ⟨b,o,none⟩) 1 c/\1<=c/\b<B/\w.cell? ⟨b,o,none⟩=some (.int .i64 a):=by obtain⟨A,c,rfl,d,-,g⟩:=h;obtain⟨b,o,rfl,l,j⟩:=g (by simp);exact⟨b,o,c,rfl,d,l,j 0 a rfl⟩
theorem eU {d:Int}(h:IntsAt B w v [a,d]):∃b o c,v=.slice (some ⟨b,o,none⟩) 2 c/\2<=c/\b<B/\w.cell? ⟨b,o,none⟩=some (.int .i64 a)/\w.cell? ⟨b,o+1,none⟩=some (.int .i64 d):=by obtain⟨A,c,rfl,j,-,l⟩:=h;obtain⟨b,o,rfl,m,g⟩:=l (by simp);exact⟨b,o,c,rfl,j,m,g 0 a rfl,g 1 d rfl⟩
def wh (o fl n a b:Int):Rn.V:=match Wd.op o n a b with
 | none=>zX
 | some z=>if BZ o fl n a b=true then zX else Ae z
theorem kw (Bs:Nat)(x:Ins)(va vt vl vk:Value)(A B:Rn.V)(ka kb:Int)(hl:VsAt w vl [A,B])(hk:IntsAt w.heap.size w vk [ka,kb])(ho:1<=x.op/\x.op<=13)(hf:0<=x.g/\x.g<=7)(hn:zi x.w)(hA:yX x.w A.n)(hB:yX x.w B.n) :
  Calls prog 181 #[.pointer (some ⟨Bs,0,none⟩),dj x va vt,vl,vk] w (RG (vv (wh x.op x.g x.w A.n B.n)) w):=by
 obtain⟨W0,F⟩:=xJ (dW w x va vt);obtain⟨W,hW⟩:=xJ (fR W0);obtain⟨g0,g1,E⟩:=qa F hW;have j:=dJ E.gr;have X:=fun(u:GrW W)=>dl (w:=w) (x:=x) (va:=va) (vt:=vt) (w':=u.val) (by rw[F];exact g1.trans u.gr);have X0:=fun u=>(X u).1;have X1:=fun u=>(X u).2.1;have X2:=fun u=>(X u).2.2.1;have X3:=fun u=>(X u).2.2.2.1;have X4:=fun u=>(X u).2.2.2.2.1;have X5:=fun u=>(X u).2.2.2.2.2;obtain⟨b,cl,rfl,ac,I,⟨q0,q1,q2⟩,q3,q4,q5⟩:=hl.two;have L0:=gc j.out I q0;have L1:=gc j.out I q1;have L2:=gc j.out I q2;have L3:=gc j.out I q3;have L4:=gc j.out I q4;have L5:=gc j.out I q5;obtain⟨bk,ok,ck,rfl,ab,K,p0,p1⟩:=eU hk;have K0:=gc j.out K p0;have K1:=gc j.out K p1;have N:=dJ fun(u:GrW W)=>uB x.op x.w A.n B.n u.val ho hn hA hB;have M:=dJ fun(u:GrW W)=>oA x.op x.g x.w A.n B.n u.val ho hf hn hA hB
 have D:wh x.op x.g x.w A.n B.n=if (Wd.op x.op x.w A.n B.n).isSome=true then (if BZ x.op x.g x.w A.n B.n=true then zX else Ae ((Wd.op x.op x.w A.n B.n).getD 0)) else zX:=by unfold wh;cases Wd.op x.op x.w A.n B.n<;>rfl
 rw[D];obtain⟨z,hz⟩:=xJ ((Wd.op x.op x.w A.n B.n).getD 0);obtain⟨aa,H⟩:=xJ ((Wd.op x.op x.w A.n B.n).isSome);obtain⟨br,G⟩:=xJ (BZ x.op x.g x.w A.n B.n);rw[hz,H]at N;rw[G]at M;rw[hz,H,G];have g:=dJ E;have O:=fun u=>(g.out.cells u).1;have Q:=fun u=>(g.out.cells u).2.1;have R:=fun u=>(g.out.cells u).2.2.1;have S:=fun u=>(g.out.cells u).2.2.2.1;have T:=fun u=>(g.out.cells u).2.2.2.2.1;have U:=fun u=>(g.out.cells u).2.2.2.2.2;obtain⟨ad,ae⟩:=ho;clear D hz H G g0 g1 E X q0 q1 q2 q3 q4 q5 p0 p1 hl hk hA hB hn hf X3 X4 X5 L0 L1 L3 L4 K0 K1;subst F;unfold fR dW at hW;unfold dj;have an:W.cell? _=_:=X0 ⟨W,yO W⟩;have ao:W.cell? _=_:=X1 ⟨W,yO W⟩;have ap:W.cell? _=_:=X2 ⟨W,yO W⟩;have al:W.cell? _=_:=L2 ⟨W,yO W⟩;have am:W.cell? _=_:=L5 ⟨W,yO W⟩;have af:W.cell? _=_:=O ⟨W,yO W⟩;have ag:W.cell? _=_:=Q ⟨W,yO W⟩;have ah:W.cell? _=_:=R ⟨W,yO W⟩;have ai:W.frozen? _=_:=S ⟨W,yO W⟩;have aj:W.frozen? _=_:=T ⟨W,yO W⟩;have ak:W.frozen? _=_:=U ⟨W,yO W⟩
 cases aa with
 | false =>
  go_enter func181, ntmps181
  go_wp2;refine dh (W:=W) (yO W) (by kernel_rfl) (by kernel_rfl) ?_
  repeat (go_big_quiet_step (first|(rename_i u;go_at_call 201;exact dk u (N.out u))))
  refine wpQuiet_nil ?_;intro w9 t;obtain⟨L,rfl⟩:=t;go_wp2;refine dh (W:=W) (L.gr) (by kernel_rfl) (by kernel_rfl) ?_
  repeat (go_big_quiet_step (first|(rename_i u;go_at_call 202;exact dk u (M.out u))))
  refine wpQuiet_nil ?_;intro w8 r;obtain⟨J,rfl⟩:=r;have Y:=dJ J.gr;go_wp2_with (go_at_call 176;refine(dS _).mono ?_;rintro e m ⟨rfl,Z⟩;have l:=dJ (Y.out.trans Z);obtain⟨p,z0,y,C⟩:=g.out.ret l.out zX;have y0:=O ⟨m,l.out⟩;have y1:=Q ⟨m,l.out⟩;have y2:=R ⟨m,l.out⟩;have y3:=S ⟨m,l.out⟩;have y4:=T ⟨m,l.out⟩;have y5:=U ⟨m,l.out⟩;dsimp only at y0 y1 y2 y3 y4 y5;obtain⟨W9,d⟩:=xJ (dy m (w.heap.size+1) zX);rw[d]at p z0 y C;unfold dy at d;dsimp only[zX]at d z0 y C;have q:=dJ p;clear p);refine yq (v:=vv zX) (by simp[results,results181,go_sem,z0,y,C];rfl) rfl ?_;exact⟨rfl,q.out⟩
 | true =>
  cases br with
  | true =>
   go_enter func181, ntmps181
   go_wp2;refine dh (W:=W) (yO W) (by kernel_rfl) (by kernel_rfl) ?_
   repeat (go_big_quiet_step (first|(rename_i u;go_at_call 201;exact dk u (N.out u))))
   refine wpQuiet_nil ?_;intro w9 t;obtain⟨L,rfl⟩:=t;go_wp2;refine dh (W:=W) (L.gr) (by kernel_rfl) (by kernel_rfl) ?_
   repeat (go_big_quiet_step (first|(rename_i u;go_at_call 202;exact dk u (M.out u))))
   refine wpQuiet_nil ?_;intro w8 r;obtain⟨J,rfl⟩:=r;have Y:=dJ J.gr;go_wp2_with (go_at_call 176;refine(dS _).mono ?_;rintro e m ⟨rfl,Z⟩;have l:=dJ (Y.out.trans Z);obtain⟨p,z0,y,C⟩:=g.out.ret l.out zX;have y0:=O ⟨m,l.out⟩;have y1:=Q ⟨m,l.out⟩;have y2:=R ⟨m,l.out⟩;have y3:=S ⟨m,l.out⟩;have y4:=T ⟨m,l.out⟩;have y5:=U ⟨m,l.out⟩;dsimp only at y0 y1 y2 y3 y4 y5;obtain⟨W9,d⟩:=xJ (dy m (w.heap.size+1) zX);rw[d]at p z0 y C;unfold dy at d;dsimp only[zX]at d z0 y C;have q:=dJ p;clear p);refine yq (v:=vv zX) (by simp[results,results181,go_sem,z0,y,C];rfl) rfl ?_;exact⟨rfl,q.out⟩
  | false =>
   go_enter func181, ntmps181
   go_wp2;refine dh (W:=W) (yO W) (by kernel_rfl) (by kernel_rfl) ?_
   repeat (go_big_quiet_step (first|(rename_i u;go_at_call 201;exact dk u (N.out u))))
   refine wpQuiet_nil ?_;intro w9 t;obtain⟨L,rfl⟩:=t;go_wp2;refine dh (W:=W) (L.gr) (by kernel_rfl) (by kernel_rfl) ?_
   repeat (go_big_quiet_step (first|(rename_i u;go_at_call 202;exact dk u (M.out u))))
   refine wpQuiet_nil ?_;intro w8 r;obtain⟨J,rfl⟩:=r;obtain⟨p,z0,y,C⟩:=g.out.ret J.gr (Ae z);obtain⟨W9,d⟩:=xJ (dy J.val (w.heap.size+1) (Ae z));rw[d]at p z0 y C;unfold dy at d;have q:=dJ p;clear p
   try dsimp only[Ae,Rn.zero]at d z0 y C
   go_wp2;refine yq (v:=vv (Ae z)) (by simp[results,results181,go_sem,z0,y,C];rfl) rfl ?_;exact⟨rfl,q.out⟩
theorem mH (Bs:Nat)(x:Ins)(va vt vl vk:Value)(A B:Rn.V)(ka kb:Int)(hl:VsAt w vl [A,B])(hk:IntsAt w.heap.size w vk [ka,kb])(ho:x.op=14)(hi:0<=x.i/\x.i<=9)(hn:zi ka)(hA:yX ka A.n)(hB:yX ka B.n) :
  Calls prog 181 #[.pointer (some ⟨Bs,0,none⟩),dj x va vt,vl,vk] w (RG (vv (Jy (Gy x.i ka A.n B.n))) w):=by
 obtain⟨W0,t⟩:=xJ (dW w x va vt);obtain⟨W,J⟩:=xJ (fR W0);obtain⟨g0,I,p⟩:=qa t J;have d:=dJ p.gr;have X:=fun(u:GrW W)=>dl (w:=w) (x:=x) (va:=va) (vt:=vt) (w':=u.val) (by rw[t];exact I.trans u.gr);have X0:=fun u=>(X u).1;have X1:=fun u=>(X u).2.1;have X2:=fun u=>(X u).2.2.1;have X3:=fun u=>(X u).2.2.2.1;have X4:=fun u=>(X u).2.2.2.2.1;have X5:=fun u=>(X u).2.2.2.2.2;obtain⟨b,cl,rfl,ab,D,⟨M,N,O⟩,Q,R,S⟩:=hl.two;have L0:=gc d.out D M;have L1:=gc d.out D N;have L2:=gc d.out D O;have L3:=gc d.out D Q;have L4:=gc d.out D R;have L5:=gc d.out D S;obtain⟨bk,ok,ck,rfl,aa,E,K,L⟩:=eU hk;have K0:=gc d.out E K;have K1:=gc d.out E L;have G:=dJ fun(u:GrW W)=>dZ ((mn x.i ka A.n B.n u.val hi hn hA hB).mono fun e w' q=>⟨q.1,q.2.symm⟩);obtain⟨r,H⟩:=xJ (Gy x.i ka A.n B.n);rw[H]at G;rw[H];clear H;obtain⟨i1,i2⟩:=hi;have g:=dJ p;have T:=fun u=>(g.out.cells u).1;have U:=fun u=>(g.out.cells u).2.1;have Y:=fun u=>(g.out.cells u).2.2.1;have Z:=fun u=>(g.out.cells u).2.2.2.1;have F4:=fun u=>(g.out.cells u).2.2.2.2.1;have F5:=fun u=>(g.out.cells u).2.2.2.2.2;clear g0 I p X M N O Q R S K L hl hk hA hB hn X1 X2 X3 X5 L0 L1 L3 L4 K1;subst t;unfold fR dW at J;unfold dj;obtain⟨op,wd,fl,args,im,tt⟩:=x;dsimp only at *;subst ho;have al:W.cell? _=_:=X0 ⟨W,yO W⟩;have am:W.cell? _=_:=X4 ⟨W,yO W⟩;have ai:W.cell? _=_:=K0 ⟨W,yO W⟩;have aj:W.cell? _=_:=L2 ⟨W,yO W⟩;have ak:W.cell? _=_:=L5 ⟨W,yO W⟩;have ac:W.cell? _=_:=T ⟨W,yO W⟩;have ad:W.cell? _=_:=U ⟨W,yO W⟩;have ae:W.cell? _=_:=Y ⟨W,yO W⟩;have af:W.frozen? _=_:=Z ⟨W,yO W⟩;have ag:W.frozen? _=_:=F4 ⟨W,yO W⟩;have ah:W.frozen? _=_:=F5 ⟨W,yO W⟩
 cases r with
 | false =>
  go_enter func181, ntmps181
  go_wp2;refine dh (W:=W) (yO W) (by kernel_rfl) (by kernel_rfl) ?_
  repeat (go_big_quiet_step (first|(rename_i u;go_at_call 203;exact dk u (G.out u))))
  refine wpQuiet_nil ?_;intro w9 y;obtain⟨F,rfl⟩:=y;obtain⟨l,z0,z,C⟩:=g.out.ret F.gr (Ae 0);obtain⟨W9,j⟩:=xJ (dy F.val (w.heap.size+1) (Ae 0));rw[j]at l z0 z C;unfold dy at j;have m:=dJ l;clear l
  try dsimp only[Ae,Rn.zero]at j z0 z C
  go_wp2;refine yq (v:=vv (Ae 0)) (by simp[results,results181,go_sem,z0,z,C];rfl) rfl ?_;exact⟨rfl,m.out⟩
 | true =>
  go_enter func181, ntmps181
  go_wp2;refine dh (W:=W) (yO W) (by kernel_rfl) (by kernel_rfl) ?_
  repeat (go_big_quiet_step (first|(rename_i u;go_at_call 203;exact dk u (G.out u))))
  refine wpQuiet_nil ?_;intro w9 y;obtain⟨F,rfl⟩:=y;obtain⟨l,z0,z,C⟩:=g.out.ret F.gr (Ae 1);obtain⟨W9,j⟩:=xJ (dy F.val (w.heap.size+1) (Ae 1));rw[j]at l z0 z C;unfold dy at j;have m:=dJ l;clear l
  try dsimp only[Ae,Rn.zero]at j z0 z C
  go_wp2;refine yq (v:=vv (Ae 1)) (by simp[results,results181,go_sem,z0,z,C];rfl) rfl ?_;exact⟨rfl,m.out⟩
theorem mI (Bs:Nat)(x:Ins)(va vt vl vk:Value)(A:Rn.V)(ka:Int)(hl:VsAt w vl [A])(hk:IntsAt w.heap.size w vk [ka])(ho:x.op=16\/x.op=17\/x.op=18)(hm:zi ka)(hn:zi x.w)(hA:yX ka A.n)(hd:if x.op=18 then x.w<ka else ka<x.w) :
  Calls prog 181 #[.pointer (some ⟨Bs,0,none⟩),dj x va vt,vl,vk] w (RG (vv (Ae (E0 x.op ka x.w A.n))) w):=by
 obtain⟨W0,l⟩:=xJ (dW w x va vt);obtain⟨W,H⟩:=xJ (fR W0);obtain⟨g0,G,j⟩:=qa l H;have g:=dJ j.gr;have X:=fun(u:GrW W)=>dl (w:=w) (x:=x) (va:=va) (vt:=vt) (w':=u.val) (by rw[l];exact G.trans u.gr);have X0:=fun u=>(X u).1;have X1:=fun u=>(X u).2.1;have X2:=fun u=>(X u).2.2.1;have X3:=fun u=>(X u).2.2.2.1;have X4:=fun u=>(X u).2.2.2.2.1;have X5:=fun u=>(X u).2.2.2.2.2;obtain⟨b,cl,rfl,ab,y,J,K,L⟩:=hl.one;have Y:=gc g.out y J;have Z:=gc g.out y K;have L2:=gc g.out y L;obtain⟨bk,ok,ck,rfl,aa,z,I⟩:=nS hk;have U:=gc g.out z I;have F:=dJ fun(u:GrW W)=>dZ ((oB x.op ka x.w A.n u.val ho hm hn hA hd).mono fun e w' q=>⟨q.1,q.2.symm⟩);obtain⟨r,B⟩:=xJ (E0 x.op ka x.w A.n);rw[B]at F;rw[B];clear B hd;have d:=dJ j;have N:=fun u=>(d.out.cells u).1;have O:=fun u=>(d.out.cells u).2.1;have Q:=fun u=>(d.out.cells u).2.2.1;have R:=fun u=>(d.out.cells u).2.2.2.1;have S:=fun u=>(d.out.cells u).2.2.2.2.1;have T:=fun u=>(d.out.cells u).2.2.2.2.2;clear g0 G j X J K L I hl hk hA hn hm X2 X3 X4 X5 Y Z;subst l;unfold fR dW at H;unfold dj;obtain⟨op,wd,fl,args,im,tt⟩:=x;dsimp only at *;rcases ho with rfl|rfl|rfl;all_goals have ak:W.cell? _=_:=X0 ⟨W,yO W⟩
 all_goals have al:W.cell? _=_:=X1 ⟨W,yO W⟩
 all_goals have ai:W.cell? _=_:=U ⟨W,yO W⟩
 all_goals have aj:W.cell? _=_:=L2 ⟨W,yO W⟩
 all_goals have ac:W.cell? _=_:=N ⟨W,yO W⟩
 all_goals have ad:W.cell? _=_:=O ⟨W,yO W⟩
 all_goals have ae:W.cell? _=_:=Q ⟨W,yO W⟩
 all_goals have af:W.frozen? _=_:=R ⟨W,yO W⟩
 all_goals have ag:W.frozen? _=_:=S ⟨W,yO W⟩
 all_goals have ah:W.frozen? _=_:=T ⟨W,yO W⟩
 all_goals
  go_enter func181, ntmps181
  go_wp2;refine dh (W:=W) (yO W) (by kernel_rfl) (by kernel_rfl) ?_
  repeat (go_big_quiet_step (first|(rename_i u;go_at_call 204;exact dk u (F.out u))))
  refine wpQuiet_nil ?_;intro w9 C;obtain⟨M,rfl⟩:=C;obtain⟨p,z0,D,E⟩:=d.out.ret M.gr (Ae r);obtain⟨W9,m⟩:=xJ (dy M.val (w.heap.size+1) (Ae r));rw[m]at p z0 D E;unfold dy at m;have t:=dJ p;clear p
  try dsimp only[Ae,Rn.zero]at m z0 D E
  go_wp2;refine yq (v:=vv (Ae r)) (by simp[results,results181,go_sem,z0,D,E];rfl) rfl ?_;exact⟨rfl,t.out⟩
theorem ky (Bs:Nat)(x:Ins)(va vt vl vk:Value)(A B:Rn.V)(ka kb:Int)(hl:VsAt w vl [A,B])(hk:IntsAt w.heap.size w vk [ka,kb])(ho:x.op=19\/x.op=20)(hn:zi x.w)(hA:yX x.w A.n)(hB:yX x.w B.n)(h1:1<=x.i)(h2:x.i<x.w)(h3:x.w%x.i=0) :
  Calls prog 181 #[.pointer (some ⟨Bs,0,none⟩),dj x va vt,vl,vk] w (RG (vv (Ae (CP x.op x.i (x.w / x.i).toNat A.n B.n))) w):=by
 obtain⟨W0,l⟩:=xJ (dW w x va vt);obtain⟨W,H⟩:=xJ (fR W0);obtain⟨g0,G,j⟩:=qa l H;have d:=dJ j.gr;have X:=fun(u:GrW W)=>dl (w:=w) (x:=x) (va:=va) (vt:=vt) (w':=u.val) (by rw[l];exact G.trans u.gr);have X0:=fun u=>(X u).1;have X1:=fun u=>(X u).2.1;have X2:=fun u=>(X u).2.2.1;have X3:=fun u=>(X u).2.2.2.1;have X4:=fun u=>(X u).2.2.2.2.1;have X5:=fun u=>(X u).2.2.2.2.2;obtain⟨b,cl,rfl,ab,p,⟨L,M,N⟩,O,Q,R⟩:=hl.two;have L0:=gc d.out p L;have L1:=gc d.out p M;have L2:=gc d.out p N;have L3:=gc d.out p O;have L4:=gc d.out p Q;have L5:=gc d.out p R;obtain⟨bk,ok,ck,rfl,aa,q,J,K⟩:=eU hk;have K0:=gc d.out q J;have K1:=gc d.out q K;have F:=dJ fun(u:GrW W)=>qh x.op x.w x.i A.n B.n u.val ho hn hA hB h1 h2 h3;obtain⟨r,z⟩:=xJ (CP x.op x.i (x.w / x.i).toNat A.n B.n);rw[z]at F;rw[z];have I:x.i<=32:=by have:=hn.2;omega
 clear z h3;have g:=dJ j;have T:=fun u=>(g.out.cells u).1;have U:=fun u=>(g.out.cells u).2.1;have Y:=fun u=>(g.out.cells u).2.2.1;have Z:=fun u=>(g.out.cells u).2.2.2.1;have F4:=fun u=>(g.out.cells u).2.2.2.2.1;have F5:=fun u=>(g.out.cells u).2.2.2.2.2;clear g0 G j X L M N O Q R J K hl hk hA hB hn X2 X3 X5 L0 L1 L3 L4 K0 K1 h2;subst l;unfold fR dW at H;unfold dj;obtain⟨op,wd,fl,args,im,tt⟩:=x;dsimp only at *;rcases ho with rfl|rfl;all_goals have ak:W.cell? _=_:=X0 ⟨W,yO W⟩
 all_goals have al:W.cell? _=_:=X1 ⟨W,yO W⟩
 all_goals have am:W.cell? _=_:=X4 ⟨W,yO W⟩
 all_goals have ai:W.cell? _=_:=L2 ⟨W,yO W⟩
 all_goals have aj:W.cell? _=_:=L5 ⟨W,yO W⟩
 all_goals have ac:W.cell? _=_:=T ⟨W,yO W⟩
 all_goals have ad:W.cell? _=_:=U ⟨W,yO W⟩
 all_goals have ae:W.cell? _=_:=Y ⟨W,yO W⟩
 all_goals have af:W.frozen? _=_:=Z ⟨W,yO W⟩
 all_goals have ag:W.frozen? _=_:=F4 ⟨W,yO W⟩
 all_goals have ah:W.frozen? _=_:=F5 ⟨W,yO W⟩
 all_goals
  go_enter func181, ntmps181
  go_wp2;refine dh (W:=W) (yO W) (by kernel_rfl) (by kernel_rfl) ?_
  repeat (go_big_quiet_step (first|(rename_i u;go_at_call 205;exact dk u (F.out u))))
  refine wpQuiet_nil ?_;intro w9 C;obtain⟨S,rfl⟩:=C;obtain⟨t,z0,D,E⟩:=g.out.ret S.gr (Ae r);obtain⟨W9,m⟩:=xJ (dy S.val (w.heap.size+1) (Ae r));rw[m]at t z0 D E;unfold dy at m;have y:=dJ t;clear t
  try dsimp only[Ae,Rn.zero]at m z0 D E
  go_wp2;refine yq (v:=vv (Ae r)) (by simp[results,results181,go_sem,z0,D,E];rfl) rfl ?_;exact⟨rfl,y.out⟩
theorem mJ {s:AN}{o:zO}(h:DS c pk w s bl o om wv bv)(hf:VFn c.f)(x:Ins)(va vt vl vk:Value)(A B:Rn.V)(ka kb:Int)(hl:VsAt w vl [A,B])(hk:IntsAt w.heap.size w vk [ka,kb])(ho:x.op=25)(hA:Fp c.f 33 A)(hAp:A.p=false)(hn:zi kb)(hB:yX kb B.n) :
  Calls prog 181 #[.pointer (some ⟨c.Bs,0,none⟩),dj x va vt,vl,vk] w (RG (vv (GQ c.f.s x.g kb A B)) w):=by
 obtain⟨W0,l⟩:=xJ (dW w x va vt);obtain⟨W,I⟩:=xJ (fR W0);obtain⟨g0,H,j⟩:=qa l I;have d:=dJ j.gr;have X:=fun(u:GrW W)=>dl (w:=w) (x:=x) (va:=va) (vt:=vt) (w':=u.val) (by rw[l];exact H.trans u.gr);have X0:=fun u=>(X u).1;have X1:=fun u=>(X u).2.1;have X2:=fun u=>(X u).2.2.1;have X3:=fun u=>(X u).2.2.2.1;have X4:=fun u=>(X u).2.2.2.2.1;have X5:=fun u=>(X u).2.2.2.2.2;obtain⟨b,cl,rfl,ab,q,⟨L,M,N⟩,O,Q,R⟩:=hl.two;have L0:=gc d.out q L;have L1:=gc d.out q M;have L2:=gc d.out q N;have L3:=gc d.out q O;have L4:=gc d.out q Q;have L5:=gc d.out q R;obtain⟨bk,ok,ck,rfl,aa,t,J,K⟩:=eU hk;have K0:=gc d.out t J;have K1:=gc d.out t K;have y:=dJ fun(u:GrW W)=>oS (h.gr (d.out.trans u.gr)) hf x va vt A B hA hAp kb hn hB;obtain⟨r,D⟩:=xJ (GQ c.f.s x.g kb A B);rw[D]at y;rw[D];clear D;have g:=dJ j;have T:=fun u=>(g.out.cells u).1;have U:=fun u=>(g.out.cells u).2.1;have Y:=fun u=>(g.out.cells u).2.2.1;have Z:=fun u=>(g.out.cells u).2.2.2.1;have F4:=fun u=>(g.out.cells u).2.2.2.2.1;have F5:=fun u=>(g.out.cells u).2.2.2.2.2;clear g0 H j X L M N O Q R J K hl hk hA hB hn hAp h hf K0;subst l;unfold fR dW at I;unfold dj;unfold dj vv at y;unfold vv;obtain⟨op,wd,fl,args,im,tt⟩:=x;dsimp only at *;subst ho;have ap:W.cell? _=_:=X0 ⟨W,yO W⟩;have aq:W.cell? _=_:=X1 ⟨W,yO W⟩;have ar:W.cell? _=_:=X2 ⟨W,yO W⟩;have au:W.cell? _=_:=X3 ⟨W,yO W⟩;have av:W.cell? _=_:=X4 ⟨W,yO W⟩;have aw:W.cell? _=_:=X5 ⟨W,yO W⟩;have ai:W.cell? _=_:=K1 ⟨W,yO W⟩;have aj:W.cell? _=_:=L0 ⟨W,yO W⟩;have ak:W.cell? _=_:=L1 ⟨W,yO W⟩;have al:W.cell? _=_:=L2 ⟨W,yO W⟩;have am:W.cell? _=_:=L3 ⟨W,yO W⟩;have an:W.cell? _=_:=L4 ⟨W,yO W⟩;have ao:W.cell? _=_:=L5 ⟨W,yO W⟩;have ac:W.cell? _=_:=T ⟨W,yO W⟩;have ad:W.cell? _=_:=U ⟨W,yO W⟩;have ae:W.cell? _=_:=Y ⟨W,yO W⟩;have af:W.frozen? _=_:=Z ⟨W,yO W⟩;have ag:W.frozen? _=_:=F4 ⟨W,yO W⟩;have ah:W.frozen? _=_:=F5 ⟨W,yO W⟩
 go_enter func181, ntmps181
 go_wp2;refine dQ (W:=W) 12 (yO W) (by kernel_rfl) (by kernel_rfl) ?_;simp only[yA,List.take_zero,yD,List.drop_zero];repeat (go_big_quiet_step ((rename_i u;go_at_call 206;exact dk u (y.out u))))
 refine wpQuiet_nil ?_;intro w9 E;obtain⟨S,rfl⟩:=E;obtain⟨z,z0,F,G⟩:=g.out.ret S.gr r;obtain⟨W9,m⟩:=xJ (dy S.val (w.heap.size+1) r);rw[m]at z z0 F G;unfold dy at m;have C:=dJ z;clear z
 try dsimp only[Ae,Rn.zero]at m z0 F G
 go_wp2;refine yq (v:=vv r) (by simp[results,results181,go_sem,z0,F,G];rfl) rfl ?_;exact⟨rfl,C.out⟩
def mo (c:Cfg)(pk:List Int)(w:World)(s:AN)(bl:List Int)(o:zO)(om wv bv:Value)(r:Option (List (List Int)))(e:Ending)(w':World):Prop :=
 match r with
 | none=>e=.returned (.bool false)/\Gr w w'
 | some m=>e=.returned (.bool true)/\DS c pk w' {s with mem:=m} bl o om wv bv/\FrS (Mut c) w w'
theorem jK {s:AN}{o:zO}(h:DS c pk w s bl o om wv bv)(hf:VFn c.f)(hi:Rn.Inv c.f s)(p x:Rn.V)(hp:Fp c.f 33 p)(n:Nat)(hn1:1<=n)(hn:n<=4)(hx:0<=x.n/\x.n<4294967296)(wd:Int)(hwd:wd=8*(n:Int)) :
  Calls prog 179 #[.pointer (some ⟨c.Bs,0,none⟩),vv p,vv x,.int .i64 wd] w (mo c pk w s bl o om wv bv (DT s.mem p x n)):=by
 obtain⟨W1,z⟩:=xJ (w.alloc (.cells #[.bool p.p,.int .i64 p.s,.int .u32 p.n] 24));obtain⟨W,hW⟩:=xJ (W1.alloc (.cells #[.bool x.p,.int .i64 x.s,.int .u32 x.n] 24));have g1:Gr w W1:=by rw[<-z];exact(yO w).alloc _
 have g2:Gr W1 W:=by rw[<-hW];exact(yO W1).alloc _
 have s1:W1.heap.size=w.heap.size+1:=by rw[<-z];simp
 have s2:W.heap.size=w.heap.size+2:=by rw[<-hW];simp[s1]
 have D:Gr w W:=g1.trans g2;have K:W1.heap[w.heap.size]?=some (.cells #[.bool p.p,.int .i64 p.s,.int .u32 p.n] 24 (0,0)):=by rw[<-z];exact heap_alloc_new _ _
 have E:W.heap[w.heap.size+1]?=some (.cells #[.bool x.p,.int .i64 x.s,.int .u32 x.n] 24 (0,0)):=by rw[<-hW,<-s1];exact heap_alloc_new _ _
 have r:=(g2.heap _ (by omega)).trans K;have G:∀u:GrW W,u.val.cell? ⟨w.heap.size,0,none⟩=some (.bool p.p):=fun u=>yo _ _ 0 _ _ _ ((u.gr.heap _ (by omega)).trans r);have H:∀u:GrW W,u.val.cell? ⟨w.heap.size,1,none⟩=some (.int .i64 p.s):=fun u=>yo _ _ 1 _ _ _ ((u.gr.heap _ (by omega)).trans r);have I:∀u:GrW W,u.val.cell? ⟨w.heap.size,2,none⟩=some (.int .u32 p.n):=fun u=>yo _ _ 2 _ _ _ ((u.gr.heap _ (by omega)).trans r);have af:=dJ D
 cases hpp:p.p with
 | true =>
  have HE:Hid (DT s.mem p x n=none):=by show _=_;unfold DT;rw[yr (.inl hpp)]
  rw[hpp]at G;unfold vv;rw[hpp,HE.out];rw[hpp]at z;clear h hi hp g1 g2 D K E s1 s2 hpp r;subst z
  go_enter func179, ntmps179
  go_wp2;refine dc (by kernel_rfl) (by kernel_rfl) ?_;repeat (go_big_quiet_step (fail))
  refine wpQuiet_nil ?_;intro w9 t;obtain⟨U,rfl⟩:=t;have G9:=dJ (af.out.trans U.gr);clear G H I;go_wp2;go_ret;exact⟨rfl,G9.out⟩
 | false =>
  obtain⟨p1,p2,p3,p4⟩:=hp.ptr hpp;obtain⟨j,y,cp,l,hj,aa,L,ac,hl,aN,aK,aL,aQ,aJ,hA,A,aM,d⟩:=h.slot hf hi p1 p2
  have g:∃B:Array Value,w.heap[c.Bm]?=some (.cells B 33 (0,0)):=by obtain⟨-,-,q⟩:=h.s;obtain⟨-,B,q2,-⟩:=q (by omega);exact⟨B,q2⟩
  have aj:c.Bm<w.heap.size:=by obtain⟨B,q⟩:=g;exact cY q
  have an:y<w.heap.size:=by obtain⟨B,q,-⟩:=d;exact cY q
  have az:c.Bm≠y:=by obtain⟨B,q⟩:=g;obtain⟨O,q',-⟩:=d;exact de q q' (by decide)
  have aA:c.Bs≠y:=by obtain⟨O,q',-⟩:=d;exact de h.st q' (by decide)
  have c4:w.cell? ⟨c.Bs,4,none⟩=some (.slice (some ⟨c.Bm,0,none⟩) c.us.length c.cm):=by have:w.cell? ⟨c.Bs,4,none⟩=some c.mv:=h.cell 4;rw[this];unfold Cfg.mv;rw[hA]
  have ak:=cY h.st;have U4:∀u:GrW W,u.val.cell? ⟨c.Bs,4,none⟩=some (.slice (some ⟨c.Bm,0,none⟩) c.us.length c.cm):=fun u=>((D.trans u.gr).cell _ _ ak).trans c4;have UM:∀u:GrW W,u.val.cell? ⟨c.Bm,j,none⟩=some (.slice (some ⟨y,0,none⟩) l.length cp):=fun u=>((D.trans u.gr).cell _ _ aj).trans A;obtain⟨pp,S,PN⟩:=p;dsimp only at *;subst hpp;obtain rfl:S=(j:Int)+1:=by omega
  have CI:=dJ fun(u:GrW W)=>dZ (iN (l.length:Int) PN (n:Int) u.val ⟨p3,p4⟩ ⟨by omega,by omega⟩);have aS:wd.tdiv 8=(n:Int):=by rw[Int.tdiv_eq_ediv_of_nonneg (by omega)];omega
  have aF:wd / 8=(n:Int):=by omega
  have aR:0<=wd:=by omega
  have aE:wd<=32:=by omega
  clear hwd;by_cases ap:PN+(n:Int)<=(l.length:Int)
  ·obtain⟨N,rfl⟩:=xZ p3;have aq:N+n<=l.length:=by omega
   obtain⟨C,J⟩:=xJ (FW x n x.n);have ao:C.length=n:=by rw[<-J];exact If _ _ _
   have av:Hid (∀k,k<n->C[k]?=some (if x.p=true then -1 else x.n / 256 ^ k%256)):=fun k hk=>by rw[<-J];exact Jb x n k x.n hk
   have ax:Hid (DT s.mem ⟨false,(j:Int)+1,(N:Int)⟩ x n=some (s.mem.set j (Di l N C))):=by show _=_;unfold DT;dsimp only at hl ⊢;rw[hl,yt (by simp;omega),J,aa,ya]
   have ae:Hid (∀w',RowIs y (Di l N C) w'->FrS (·=y) W w'->DS c pk w' {s with mem:=s.mem.set j (Di l N C)} bl o om wv bv/\FrS (Mut c) w w'):=fun w' hr m=>by obtain⟨O,r1,r2⟩:=hr;exact⟨(h.gr D).memSet L ac (FL (by omega)) m r1 r2,(FrS.of_gr D).trans (m.mono fun k hk=>by rw[hk];exact .inr (.inr (.inr ⟨_,cp,L⟩)))⟩
   have ah:Hid (RowIs y l W):=d.gr D
   have HK:Hid (∀w',FrS (·=y) W w'->w'.cell? ⟨c.Bs,4,none⟩=some (.slice (some ⟨c.Bm,0,none⟩) c.us.length c.cm)/\w'.cell? ⟨c.Bm,j,none⟩=some (.slice (some ⟨y,0,none⟩) l.length cp)/\w'.cell? ⟨w.heap.size,1,none⟩=some (.int .i64 ((j:Int)+1))/\w'.cell? ⟨w.heap.size,2,none⟩=some (.int .u32 N)/\w'.cell? ⟨w.heap.size+1,0,none⟩=some (.bool x.p)/\w'.cell? ⟨w.heap.size+1,2,none⟩=some (.int .u32 x.n)):=fun w' q=>by
    have b0:=q.block w.heap.size (by omega) (by omega);have b1:=q.block (w.heap.size+1) (by omega) (by omega);have b2:=q.block c.Bs (by have:=D.size;omega) aA;have b3:=q.block c.Bm (by have:=D.size;omega) az
    exact⟨(yE (a:=⟨c.Bs,4,none⟩) b2).trans (U4 ⟨W,yO W⟩),(yE (a:=⟨c.Bm,j,none⟩) b3).trans (UM ⟨W,yO W⟩),(yE (a:=⟨w.heap.size,1,none⟩) b0).trans (H ⟨W,yO W⟩),(yE (a:=⟨w.heap.size,2,none⟩) b0).trans (I ⟨W,yO W⟩),
      yo _ _ 0 _ _ _ (b1.trans E),yo _ _ 2 _ _ _ (b1.trans E)⟩
   have Y:=dJ aq;have aC:=hx.1;have aD:=hx.2;have hd:decide ((N:Int)+(n:Int)<=(l.length:Int))=true:=by simpa using ap
   rw[hd]at CI;have M:=dJ ao;have aG:=dJ an;unfold vv;dsimp only;rw[ax.out];clear h hi hp g1 g2 D K E s1 s2 r hl L ac d A hA hf hx hd hj aa p1 p2 c4 g J ao;subst z
   go_enter func179, ntmps179
   go_wp2;refine dc (by kernel_rfl) (by kernel_rfl) ?_;repeat (go_big_quiet_step ((rename_i u;go_at_call 198;exact dk u (CI.out u))))
   refine wpQuiet_nil ?_;intro w9 t;obtain⟨U,rfl⟩:=t;have G9:=dJ U.gr;have aw:=dJ (ah.out.gr U.gr);obtain⟨-,-,-,-,z0,z2⟩:=HK.out U.val (FrS.of_gr U.gr);clear G H I U4 UM;go_wp2
   go_loopw [9,10] (fun s9 ad wr=>∃(k:Nat)(X:Int),k<=n/\ad=.int .i64 (k:Int)/\s9=.int .i64 X/\0<=X/\X<4294967296/\Hid (X=x.n / 256 ^ k)/\Hid (RowIs y (Di l N (C.take k)) wr)/\Hid (FrS (·=y) W wr)) (fun _ ad _=>n-(intOf ad).toNat)
   case atStart=>exact⟨0,x.n,yI _,rfl,rfl,aC,aD,(by (show _=_);simp),by (show RowIs _ _ _);rw[List.take_zero,JA];exact aw.out,FrS.of_gr G9.out⟩
   case round =>
    obtain⟨k,X,hk,rfl,rfl,al,aI,am,d,m⟩:=hrel;by_cases ar:k<n
    ·have aB:(Di l N (C.take k)).length=l.length:=FL (by rw[List.length_take];have:=Y.out;omega);have Z:N+k<(Di l N (C.take k)).length:=by have:=Y.out;omega
     have aH:N+k<l.length:=by omega
     obtain⟨old,T⟩:∃v:Int,(Di l N (C.take k))[N+k]?=some v:=⟨_,xR Z⟩;obtain⟨-,-,-,-,y0,y2⟩:=HK.out wr m.out;have V4:=fun(u:GrW wr)=>(HK.out u.val (m.out.trans (FrS.of_gr u.gr))).1;have VM:=fun(u:GrW wr)=>(HK.out u.val (m.out.trans (FrS.of_gr u.gr))).2.1;have V1:=fun(u:GrW wr)=>(HK.out u.val (m.out.trans (FrS.of_gr u.gr))).2.2.1;have V2:=fun(u:GrW wr)=>(HK.out u.val (m.out.trans (FrS.of_gr u.gr))).2.2.2.1;have HD:Hid (∀u:GrW wr,u.val.cell? ⟨y,N+k,none⟩=some (.int .i64 old)/\u.val.frozen? ⟨y,N+k,none⟩=false):=fun u=>⟨(d.out.gr u.gr).cell T,(d.out.gr u.gr).free _⟩;have au:=JB (l:=l) (a:=N) (by rw[M.out];exact Y.out) (av.out k ar)
     have F:Hid (∀(u:GrW wr)(yb:Int),yb=(if x.p=true then -1 else x.n / 256 ^ k%256)->RowIs y (Di l N (C.take (k+1))) (u.val.setCell ⟨y,N+k,none⟩ (.int .i64 yb))/\FrS (·=y) W (u.val.setCell ⟨y,N+k,none⟩ (.int .i64 yb))):=fun u yb hyb=>by subst hyb;rw[au];exact⟨(d.out.gr u.gr).set Z _,(m.out.trans (FrS.of_gr u.gr)).setCell (p:=⟨y,N+k,none⟩) rfl _⟩
     have ai:Hid (X / 256=x.n / 256 ^ (k+1)):=by show _=_;rw[am.out,Int.pow_succ,Int.ediv_ediv_of_nonneg (by exact Int.le_of_lt (Int.pow_pos (by decide)))]
     have Q:0<=X / 256:=by omega
     have R:X / 256<4294967296:=by omega
     have ay:Hid (X%256=x.n / 256 ^ k%256):=by show _=_;rw[am.out]
     have aO:0<=X%256:=by omega
     have aP:X%256<256:=by omega
     have ag:=dJ ar;have e1:X.tmod 256=X%256:=Int.tmod_eq_emod_of_nonneg al;have e2:X.tdiv 256=X / 256:=Int.tdiv_eq_ediv_of_nonneg al;clear au T Z aB
     cases hxp:x.p with
     | true =>
      rw[hxp]at y0 F;clear hxp;go_wp2;refine dC 16 (by kernel_rfl) (by kernel_rfl) ?_;simp only[yA,List.take_zero,yD,List.drop_zero];repeat (go_big_quiet_step (fail))
      refine wpQuiet_nil ?_;intro w9 t;obtain⟨u8,rfl⟩:=t;obtain⟨d0,d1⟩:=HD.out u8;obtain⟨n1,n2⟩:=F.out u8 (-1) (by simp);have N1:=dJ n1;have N2:=dJ n2;clear V4 VM V1 V2 n1 n2;go_wp2;have ab:=ag.out;exact⟨⟨k+1,X / 256,by omega,by go_num,rfl,Q,R,ai,N1,N2⟩,by simp[intOf];omega⟩
     | false =>
      rw[hxp]at y0 F;clear hxp;go_wp2;refine dC 16 (by kernel_rfl) (by kernel_rfl) ?_;simp only[yA,List.take_zero,yD,List.drop_zero];repeat (go_big_quiet_step (fail))
      refine wpQuiet_nil ?_;intro w9 t;obtain⟨u8,rfl⟩:=t;obtain⟨d0,d1⟩:=HD.out u8;obtain⟨n1,n2⟩:=F.out u8 (X%256) (by simp[ay.out]);have N1:=dJ n1;have N2:=dJ n2;clear V4 VM V1 V2 n1 n2;go_wp2;have ab:=ag.out;exact⟨⟨k+1,X / 256,by omega,by go_num,rfl,Q,R,ai,N1,N2⟩,by simp[intOf];omega⟩
    ·have ab:k=n:=by omega
     subst ab;have e:C.take k=C:=yh (by have:=M.out;omega);rw[e]at d;obtain⟨r1,r2⟩:=ae.out _ d.out m.out;have R1:=dJ r1;have R2:=dJ r2;clear r1 r2;go_wp2;go_ret;exact⟨rfl,R1.out,R2.out⟩
  ·have HE:Hid (DT s.mem ⟨false,(j:Int)+1,PN⟩ x n=none):=by
    show _=_;unfold DT;dsimp only at hl ⊢;rw[hl,yr (.inr (by omega))]
   unfold vv;dsimp only;rw[HE.out];have hd:decide (PN+(n:Int)<=(l.length:Int))=false:=by simpa using ap
   rw[hd]at CI;clear h hi hp g1 g2 D K E s1 s2 r hl L ac d A hA hf hx hd hj aa p1 p2 c4 g;subst z
   go_enter func179, ntmps179
   go_wp2;refine dc (by kernel_rfl) (by kernel_rfl) ?_;repeat (go_big_quiet_step ((rename_i u;go_at_call 198;exact dk u (CI.out u))))
   refine wpQuiet_nil ?_;intro w9 t;obtain⟨U,rfl⟩:=t;have G9:=dJ (af.out.trans U.gr);clear G H I U4 UM;go_wp2;go_ret;exact⟨rfl,G9.out⟩
section
variable {t:Array Value}{r:Nat}{v:Value}{W w w7 w9:World}
section
open Go.RowKit
theorem VsAt.three {A B D:Rn.V}(h:VsAt w v [A,B,D]):∃b c,v=.slice (some ⟨b,0,none⟩) 3 c/\3<=c/\b<w.heap.size/\(w.cell? ⟨b,0,none⟩=some (.bool A.p)/\w.cell? ⟨b,1,none⟩=some (.int .i64 A.s)/\w.cell? ⟨b,2,none⟩=some (.int .u32 A.n))/\(w.cell? ⟨b,3,none⟩=some (.bool B.p)/\w.cell? ⟨b,4,none⟩=some (.int .i64 B.s)/\w.cell? ⟨b,5,none⟩=some (.int .u32 B.n))/\(w.cell? ⟨b,6,none⟩=some (.bool D.p)/\w.cell? ⟨b,7,none⟩=some (.int .i64 D.s)/\w.cell? ⟨b,8,none⟩=some (.int .u32 D.n)):=by obtain⟨b,c,e,m,q,r,t,u⟩:=h.cells (k:=0) rfl;obtain⟨H,I,g,-,-,y,z,C⟩:=h.cells (k:=1) rfl;obtain⟨j,l,d,-,-,E,F,G⟩:=h.cells (k:=2) rfl;rw[e]at g d;injection g with g;injection g with g;injection g with g _;subst g;injection d with d;injection d with d;injection d with d _;subst d;exact⟨b,c,e,m,q,⟨r,t,u⟩,⟨y,z,C⟩,E,F,G⟩
def wP (c:Cfg)(pk:List Int)(w:World)(s':AN)(bl:List Int)(o:zO)(om wv bv:Value)(r:Option Rn.V)(e:Ending)(w':World):Prop :=
 e=.returned (fT r)/\DLeft c pk w wv bv s' bl o om w'
section
variable {c:Cfg}{pk bl:List Int}{w:World}{s:AN}{o:zO}{om wv bv:Value}
theorem dI (h:DS c pk w s bl o om wv bv)(x:Ins)(va vt:Value):∃W,(w.alloc (.cells #[.int .i64 x.op,.int .i64 x.w,.int .i64 x.g,va,.int .u32 x.i,vt] 68)).alloc (.cells #[.bool false,.int .i64 0,.int .u32 0] 24)=W/\Hid (RB w W (w.heap.size+1)) /\
  Hid (∀v w9,Gr W w9->DLeft c pk w wv bv s bl o om (dy w9 (w.heap.size+1) v)) /\
  Hid (∀w9,Gr W w9->w9.cell? ⟨w.heap.size+1,0,none⟩=some (.bool false)/\w9.cell? ⟨w.heap.size+1,1,none⟩=some (.int .i64 0)/\w9.cell? ⟨w.heap.size+1,2,none⟩=some (.int .u32 0)/\w9.frozen? ⟨w.heap.size+1,0,none⟩=false/\w9.frozen? ⟨w.heap.size+1,1,none⟩=false/\w9.frozen? ⟨w.heap.size+1,2,none⟩=false /\
    w9.cell? ⟨w.heap.size,0,none⟩=some (.int .i64 x.op)/\w9.cell? ⟨w.heap.size,1,none⟩=some (.int .i64 x.w)/\w9.cell? ⟨w.heap.size,2,none⟩=some (.int .i64 x.g)/\w9.cell? ⟨w.heap.size,3,none⟩=some va/\w9.cell? ⟨w.heap.size,4,none⟩=some (.int .u32 x.i)/\w9.cell? ⟨w.heap.size,5,none⟩=some vt):=by
 obtain⟨m,j⟩:=xJ (dW w x va vt);obtain⟨W,l⟩:=xJ (fR m);obtain⟨A,z,d⟩:=qa j l;refine⟨W,by rw[<-l,<-j];rfl,d,fun v w9 g=>(h.gr (d.ret g v).1).left (FrS.of_gr (d.ret g v).1),fun w9 g=>?_⟩;obtain⟨p,q,r,t,u,y⟩:=d.cells ⟨w9,g⟩;exact⟨p,q,r,t,u,y,dl (by rw[j];exact z.trans g)⟩
theorem eu {p b:Bool}{k n:Int}(h8:t[8]?.getD undef=.pointer (some ⟨r,0,none⟩))(h9:t[9]?.getD undef=.bool b)(z0:w9.cell? ⟨r,0,none⟩=some (.bool p))(z1:w9.cell? ⟨r,1,none⟩=some (.int .i64 k))(z2:w9.cell? ⟨r,2,none⟩=some (.int .u32 n)) :
  (results Tryz.f157 t).run prog w9=.ok (.tuple #[.agg #[.bool p,.int .i64 k,.int .u32 n],.bool b]) w9:=by
 simp[results,results157,go_sem,h8,h9,z0,z1,z2]
 try rfl
theorem uX {A0 A1 A2 A3 A4 A5 B0 B1 B2 B3 B4 B5:World->Prop}(h:∀w9,Gr W w9->A0 w9/\A1 w9/\A2 w9/\A3 w9/\A4 w9/\A5 w9/\B0 w9/\B1 w9/\B2 w9/\B3 w9/\B4 w9/\B5 w9) :
  (∀u:GrW W,B0 u.val)/\(∀u:GrW W,B1 u.val)/\(∀u:GrW W,B2 u.val)/\(∀u:GrW W,B3 u.val)/\(∀u:GrW W,B4 u.val)/\∀u:GrW W,B5 u.val:=by
 have q:=fun u:GrW W=>(h u.val u.gr).2.2.2.2.2.2;exact⟨fun u=>(q u).1,fun u=>(q u).2.1,fun u=>(q u).2.2.1,fun u=>(q u).2.2.2.1,fun u=>(q u).2.2.2.2.1,fun u=>(q u).2.2.2.2.2⟩
theorem eI (r:Hid (RB w W (w.heap.size+1)))(l:Hid (∀v w9,Gr W w9->DLeft c pk w wv bv s bl o om (dy w9 (w.heap.size+1) v)))(g:Gr W w9)(p:Bool)(k n:Int) :
  ∃W9,((w9.setCell ⟨w.heap.size+1,0,none⟩ (.bool p)).setCell ⟨w.heap.size+1,1,none⟩ (.int .i64 k)).setCell ⟨w.heap.size+1,2,none⟩ (.int .u32 n)=W9/\W9.cell? ⟨w.heap.size+1,0,none⟩=some (.bool p)/\W9.cell? ⟨w.heap.size+1,1,none⟩=some (.int .i64 k)/\W9.cell? ⟨w.heap.size+1,2,none⟩=some (.int .u32 n)/\Hid (DLeft c pk w wv bv s bl o om W9) :=
 ⟨_,rfl,(r.out.ret g ⟨p,k,n⟩).2.1,(r.out.ret g ⟨p,k,n⟩).2.2.1,(r.out.ret g ⟨p,k,n⟩).2.2.2,l.out ⟨p,k,n⟩ w9 g⟩
theorem nM (h:DS c pk w s bl o om wv bv)(r:Hid (RB w W (w.heap.size+1)))(hBm:c.Bm<w.heap.size) :
  Hid (∀(W3:World)(s':AN)(wv' bv':Value)(x:Rn.V),DS c pk W3 s' bl o om wv' bv'->FrS (DO c wv bv) W W3->(∀k,DO c wv' bv' k->DO c wv bv k\/W.heap.size<=k)->DLeft c pk w wv bv s' bl o om (dy W3 (w.heap.size+1) x)) /\
  Hid (∀W3,FrS (DO c wv bv) W W3->W3.heap[w.heap.size+1]?=some (.cells #[.bool false,.int .i64 0,.int .u32 0] 24 (0,0))):=by
 have d:¬DO c wv bv (w.heap.size+1):=fun q=>by have:=h.lt q;omega
 have j:=h.n₀;have g:=cY r.out.row;exact⟨fun W3 s' wv' bv' x p f q=>ll p ((FrS.of_gr r.out.gr).trans f) q (by omega) g (by omega) (by omega) d x,fun W3 f=>(f.block _ g d).trans r.out.row⟩
theorem qT (h:w7.heap[r]?=some (.cells #[.bool false,.int .i64 0,.int .u32 0] 24 (0,0)))(v:Rn.V) :
  w7.cell? ⟨r,0,none⟩=some (.bool false)/\w7.cell? ⟨r,1,none⟩=some (.int .i64 0)/\w7.cell? ⟨r,2,none⟩=some (.int .u32 0)/\w7.frozen? ⟨r,0,none⟩=false/\w7.frozen? ⟨r,1,none⟩=false/\w7.frozen? ⟨r,2,none⟩=false /\
   ∃W9,((w7.setCell ⟨r,0,none⟩ (.bool v.p)).setCell ⟨r,1,none⟩ (.int .i64 v.s)).setCell ⟨r,2,none⟩ (.int .u32 v.n)=W9/\dy w7 r v=W9/\W9.cell? ⟨r,0,none⟩=some (.bool v.p)/\W9.cell? ⟨r,1,none⟩=some (.int .i64 v.s)/\W9.cell? ⟨r,2,none⟩=some (.int .u32 v.n):=by
 obtain⟨z0,d,g⟩:=el h v;exact⟨yo _ _ 0 _ _ _ h,yo _ _ 1 _ _ _ h,yo _ _ 2 _ _ _ h,yp _ _ 0 _ _ h,yp _ _ 1 _ _ h,yp _ _ 2 _ _ h,_,rfl,rfl,z0,d,g⟩
end
abbrev fA (c:Cfg)(pk:List Int)(w:World)(bl:List Int)(o:zO)(om wv bv:Value)(x:Ins)(va vt vl vk:Value)(s':AN)(r:Option Rn.V):Prop :=
 Calls prog 157 #[.pointer (some ⟨c.Bs,0,none⟩),dj x va vt,vl,vk] w (wP c pk w s' bl o om wv bv r)
section
variable {c:Cfg}{pk bl:List Int}{w:World}{s:AN}{o:zO}{om wv bv:Value}
theorem ku (h:DS c pk w s bl o om wv bv)(x:Ins)(va vt vl vk:Value)(ho:x.op=0) :
  fA c pk w bl o om wv bv x va vt vl vk s (some (Ae x.i)):=by
 obtain⟨W,F,d,m,g⟩:=dI h x va vt;have l:=dJ d.out.gr;clear h;unfold fA dj;obtain⟨op,H,fl,args,im,G⟩:=x;dsimp only at *;subst ho;obtain⟨q,r,t,u,y,z,A,-,-,-,B,-⟩:=g.out W (yO W)
 go_enter func157, ntmps157
 obtain⟨E,p,z0,C,D,j⟩:=eI d m (yO W) false 0 im;go_wp2;refine yq (eu rfl rfl z0 C D) rfl ?_;exact⟨rfl,j.out⟩
theorem lm (h:DS c pk w s bl o om wv bv)(x:Ins)(va vt vl vk:Value)(ho:x.op=24)(hi:0<=x.i/\x.i<4294967296) :
  fA c pk w bl o om wv bv x va vt vl vk s (some ⟨false,x.i+1,0⟩):=by
 obtain⟨W,H,d,m,g⟩:=dI h x va vt;have l:=dJ d.out.gr;obtain⟨q,r⟩:=hi;clear h;unfold fA dj;obtain⟨op,J,fl,args,im,I⟩:=x;dsimp only at *;subst ho;obtain⟨t,u,y,z,A,B,C,-,-,-,D,-⟩:=g.out W (yO W)
 go_enter func157, ntmps157
 obtain⟨G,p,z0,E,F,j⟩:=eI d m (yO W) false (im+1) 0;go_wp2;refine yq (eu rfl rfl z0 E F) rfl ?_;exact⟨rfl,j.out⟩
theorem jw (h:DS c pk w s bl o om wv bv)(x:Ins)(va vt vl vk:Value)(ho:x.op=22) :
  fA c pk w bl o om wv bv x va vt vl vk s (some zX):=by
 obtain⟨W,I,d,p,j⟩:=dI h x va vt;have m:=dJ d.out.gr;clear h;unfold fA dj;obtain⟨op,K,fl,args,im,J⟩:=x;dsimp only at *;subst ho;obtain⟨u,y,z,A,B,C,D,-,-,-,E,-⟩:=j.out W (yO W)
 go_enter func157, ntmps157
 go_wp2_with (go_at_call 176;refine(dS _).mono ?_;rintro e t ⟨rfl,q⟩;have g:=dJ (Gr.trans (yO W) q);obtain⟨L,M,N,O,P,Q,-⟩:=j.out t g.out;obtain⟨H,r,z0,F,G,l⟩:=eI d p g.out true 0 0);refine yq (eu rfl rfl z0 F G) rfl ?_;exact⟨rfl,l.out⟩
theorem lo (h:DS c pk w s bl o om wv bv)(x:Ins)(va vt vl vk:Value)(hf:VFn c.f)(hi:Rn.Inv c.f s)(ho:x.op=26)(A:Rn.V)(hl:VsAt w vl [A])(hA:Fp c.f 33 A)(n:Nat)(hn1:1<=n)(hn:n<=4)(hx:x.w=8*(n:Int)) :
  fA c pk w bl o om wv bv x va vt vl vk s (Em s.mem A n):=by
 obtain⟨W,hW,g,E,q⟩:=dI h x va vt;have d:=dJ g.out.gr;obtain⟨X0,X1,X2,X3,X4,X5⟩:=uX q.out;obtain⟨b,cl,rfl,M,z,F,G,H⟩:=hl.one;have I:=gc d.out z F;have J:=gc d.out z G;have K:=gc d.out z H;have m:=dJ fun(u:GrW W)=>qO (h.gr (d.out.trans u.gr)) hf hi x va vt A hA n hn1 hn hx;obtain⟨r,B⟩:=xJ (Em s.mem A n);rw[B]at m;rw[B];clear h B hf hi hl hA hn1 hn hx F G H;unfold fA dj;unfold dj vv at m;obtain⟨op,wd,fl,args,im,tt⟩:=x;dsimp only at *;subst ho;cases r;all_goals obtain⟨U,X,Y,Z,aa,ab,af,ag,ah,ai,aj,ak⟩:=q.out W (yO W)
 all_goals have ac:W.cell? _=_:=I ⟨W,yO W⟩
 all_goals have ad:W.cell? _=_:=J ⟨W,yO W⟩
 all_goals have ae:W.cell? _=_:=K ⟨W,yO W⟩
 case none =>
  dsimp only[fT,vv]at m
  go_enter func157, ntmps157
  go_wp2;refine dQ (W:=W) 8 (yO W) (by kernel_rfl) (by kernel_rfl) ?_;simp only[yA,List.take_zero,yD,List.drop_zero];repeat (go_big_quiet_step ((rename_i u;go_at_call 178;exact dk u (m.out u))))
  refine wpQuiet_nil ?_;intro N j;obtain⟨l,rfl⟩:=j;obtain⟨O,P,Q,R,S,T,-⟩:=q.out l.val l.gr;obtain⟨L,y,z0,C,D,t⟩:=eI g E l.gr false 0 0;go_wp2;refine yq (eu rfl rfl z0 C D) rfl ?_;exact⟨rfl,t.out⟩
 case some r =>
  dsimp only[fT,vv]at m
  go_enter func157, ntmps157
  go_wp2;refine dQ (W:=W) 8 (yO W) (by kernel_rfl) (by kernel_rfl) ?_;simp only[yA,List.take_zero,yD,List.drop_zero];repeat (go_big_quiet_step ((rename_i u;go_at_call 178;exact dk u (m.out u))))
  refine wpQuiet_nil ?_;intro N j;obtain⟨l,rfl⟩:=j;obtain⟨O,P,Q,R,S,T,-⟩:=q.out l.val l.gr;obtain⟨L,y,z0,C,D,t⟩:=eI g E l.gr r.p r.s r.n;go_wp2;refine yq (eu rfl rfl z0 C D) rfl ?_;exact⟨rfl,t.out⟩
theorem mF (h:DS c pk w s bl o om wv bv)(x:Ins)(va vt vl vk:Value)(hBm:c.Bm<w.heap.size)(hpk:∀z∈pk,0<=z/\z<4294967296)(hpl:pk.length<=1000)(hn:zi x.w)(hw:s.z.length<=1000)(ho:x.op=23) :
  fA c pk w bl o om wv bv x va vt vl vk (s.chose x.w) (some (DD (zo pk) s x.w)):=by
 obtain⟨W,hW,m,T,I⟩:=dI h x va vt;have l:=dJ m.out.gr;obtain⟨j,p⟩:=nM h m hBm;have r:=dJ (iM (h.gr l.out) (by have:=l.out.size;omega) hpk hpl x.w hn hw);obtain⟨R,C⟩:=xJ (zo pk s.z.length x.w);have g:DD (zo pk) s x.w=⟨false,0,R⟩:=by unfold DD Ae;rw[C]
 rw[g]at r;rw[g];clear h g C hn hw hpk hpl hBm;unfold fA dj;unfold vv at r;obtain⟨op,wd,fl,args,im,tt⟩:=x;dsimp only at *;subst ho;obtain⟨J,K,L,M,N,O,P,Q,-,-,S,-⟩:=I.out W (yO W)
 go_enter func157, ntmps157
 go_wp2_with (go_at_call 177;refine r.out.mono ?_;rintro e F ⟨rfl,A,t,E,u,D⟩;have q:=p.out F u;have B:=dJ (j.out F _ A t (⟨false,0,R⟩:Rn.V) E u D);obtain⟨X,Y,Z,z3,z4,z5,U,y,d,z0,G,H⟩:=qT q (⟨false,0,R⟩:Rn.V);rw[d]at B;dsimp only[Ae,Rn.zero,zX]at y z0 G H;clear q E u D d);refine yq (eu rfl rfl z0 G H) rfl ?_;exact⟨rfl,B.out⟩
theorem iO (h:DS c pk w s bl o om wv bv)(x:Ins)(va vt vl vk:Value)(hBm:c.Bm<w.heap.size)(hpk:∀z∈pk,0<=z/\z<4294967296)(hpl:pk.length<=1000)(hn:zi x.w)(hw:s.z.length<=1000)(ho:x.op=21)(A:Rn.V)(hA:A.p=true)(hl:VsAt w vl [A]) :
  fA c pk w bl o om wv bv x va vt vl vk (s.chose x.w) (some (DD (zo pk) s x.w)):=by
 obtain⟨W,hW,m,HL,P⟩:=dI h x va vt;have d:=dJ m.out.gr;obtain⟨l,q⟩:=nM h m hBm;obtain⟨b,cl,rfl,T,t,u,K,L⟩:=hl.one;have G:=gc d.out t u;have Q:=gc d.out t K;have S:=gc d.out t L;have y:=dJ (iM (h.gr d.out) (by have:=d.out.size;omega) hpk hpl x.w hn hw);obtain⟨R,H⟩:=xJ (zo pk s.z.length x.w);have j:DD (zo pk) s x.w=⟨false,0,R⟩:=by unfold DD Ae;rw[H]
 rw[j]at y;rw[j];rw[hA]at u;have G:=gc d.out t u;clear h hl hA u K L j H hn hw hpk hpl hBm;unfold fA dj;unfold vv at y;obtain⟨op,wd,fl,args,im,tt⟩:=x;dsimp only at *;subst ho;obtain⟨U,X,Y,Z,aa,ab,af,ag,-,-,ah,-⟩:=P.out W (yO W);have ac:W.cell? _=_:=G ⟨W,yO W⟩;have ad:W.cell? _=_:=Q ⟨W,yO W⟩;have ae:W.cell? _=_:=S ⟨W,yO W⟩
 go_enter func157, ntmps157
 go_wp2_with (go_at_call 177;refine y.out.mono ?_;rintro e M ⟨rfl,E,B,J,C,I⟩;have r:=q.out M C;have F:=dJ (l.out M _ E B (⟨false,0,R⟩:Rn.V) J C I);obtain⟨e0,e1,e2,z3,z4,z5,W9,D,g,z0,N,O⟩:=qT r (⟨false,0,R⟩:Rn.V);rw[g]at F;dsimp only[Ae,Rn.zero,zX]at D z0 N O;clear r J C I g);refine yq (eu rfl rfl z0 N O) rfl ?_;exact⟨rfl,F.out⟩
theorem jv (h:DS c pk w s bl o om wv bv)(x:Ins)(va vt vl vk:Value)(ho:x.op=21)(A:Rn.V)(hA:A.p=false)(hl:VsAt w vl [A]) :
  fA c pk w bl o om wv bv x va vt vl vk s (some A):=by
 obtain⟨W,Y,g,y,t⟩:=dI h x va vt;have d:=dJ g.out.gr;obtain⟨b,X,rfl,F,l,m,q,r⟩:=hl.one;have z:=gc d.out l m;have B:=gc d.out l q;have C:=gc d.out l r;obtain⟨U,j,D⟩:=A;clear h hl m q r;unfold fA dj;obtain⟨op,wd,fl,args,im,Z⟩:=x;dsimp only at *;subst ho;subst hA;obtain⟨G,H,I,J,K,L,P,-,-,-,Q,-⟩:=t.out W (yO W);have M:W.cell? _=_:=z ⟨W,yO W⟩;have N:W.cell? _=_:=B ⟨W,yO W⟩;have O:W.cell? _=_:=C ⟨W,yO W⟩
 go_enter func157, ntmps157
 obtain⟨T,E,z0,R,S,u⟩:=eI g y (yO W) false j D;go_wp2;refine yq (eu rfl rfl z0 R S) rfl ?_;exact⟨rfl,u.out⟩
theorem iR (h:DS c pk w s bl o om wv bv)(x:Ins)(va vt vl vk:Value)(ho:x.op=15)(A B D:Rn.V)(hA:A.p=true)(hl:VsAt w vl [A,B,D]) :
  fA c pk w bl o om wv bv x va vt vl vk s (some zX):=by
 obtain⟨W,hW,j,H,m⟩:=dI h x va vt;have d:=dJ j.out.gr;obtain⟨b,cl,rfl,U,g,⟨q,r,t⟩,⟨u,y,z⟩,C,E,F⟩:=hl.three;have I:=gc d.out g q;have J:=gc d.out g r;have K:=gc d.out g t;have L:=gc d.out g u;have M:=gc d.out g y;have N:=gc d.out g z;have O:=gc d.out g C;have P:=gc d.out g E;have Q:=gc d.out g F;obtain⟨ap,R,an⟩:=A;clear h hl q r t u y z C E F;unfold fA dj;obtain⟨op,wd,fl,args,im,tt⟩:=x;dsimp only at *;subst ho;subst hA;obtain⟨Y,Z,aa,ab,ac,ad,ao,-,-,-,aq,-⟩:=m.out W (yO W);have ae:W.cell? _=_:=I ⟨W,yO W⟩;have af:W.cell? _=_:=J ⟨W,yO W⟩;have ag:W.cell? _=_:=K ⟨W,yO W⟩;have ah:W.cell? _=_:=L ⟨W,yO W⟩;have ai:W.cell? _=_:=M ⟨W,yO W⟩;have aj:W.cell? _=_:=N ⟨W,yO W⟩;have ak:W.cell? _=_:=O ⟨W,yO W⟩;have al:W.cell? _=_:=P ⟨W,yO W⟩;have am:W.cell? _=_:=Q ⟨W,yO W⟩
 go_enter func157, ntmps157
 go_wp2_with (go_at_call 176;refine(dS _).mono ?_;rintro e X ⟨rfl,S⟩;have l:=dJ (Gr.trans (yO W) S);obtain⟨y0,y1,y2,y3,y4,y5,-⟩:=m.out X l.out;obtain⟨W9,T,z0,z1,z2,G⟩:=eI j H l.out true 0 0);refine yq (eu rfl rfl z0 z1 z2) rfl ?_;exact⟨rfl,G.out⟩
theorem iP (h:DS c pk w s bl o om wv bv)(x:Ins)(va vt vl vk:Value)(ho:x.op=15)(A B D:Rn.V)(hA:A.p=false)(hn:A.n=0)(hl:VsAt w vl [A,B,D]) :
  fA c pk w bl o om wv bv x va vt vl vk s (some D):=by
 obtain⟨W,hW,j,H,F⟩:=dI h x va vt;have d:=dJ j.out.gr;obtain⟨b,cl,rfl,Y,g,⟨m,q,r⟩,⟨t,u,y⟩,z,C,E⟩:=hl.three;have I:=gc d.out g m;have J:=gc d.out g q;have K:=gc d.out g r;have L:=gc d.out g t;have M:=gc d.out g u;have N:=gc d.out g y;have O:=gc d.out g z;have P:=gc d.out g C;have Q:=gc d.out g E;obtain⟨ap,R,an⟩:=A;obtain⟨bp,S,bn⟩:=B;obtain⟨U,l,T⟩:=D;clear h hl m q r t u y z C E;unfold fA dj;obtain⟨op,wd,fl,args,im,tt⟩:=x;dsimp only at *;subst ho;subst hA;subst hn;obtain⟨Z,aa,ab,ac,ad,ae,aq,-,-,-,ar,-⟩:=F.out W (yO W);have af:W.cell? _=_:=I ⟨W,yO W⟩;have ag:W.cell? _=_:=J ⟨W,yO W⟩;have ah:W.cell? _=_:=K ⟨W,yO W⟩;have ai:W.cell? _=_:=L ⟨W,yO W⟩;have aj:W.cell? _=_:=M ⟨W,yO W⟩;have ak:W.cell? _=_:=N ⟨W,yO W⟩;have al:W.cell? _=_:=O ⟨W,yO W⟩;have am:W.cell? _=_:=P ⟨W,yO W⟩;have ao:W.cell? _=_:=Q ⟨W,yO W⟩
 go_enter func157, ntmps157
 obtain⟨W9,X,z0,z1,z2,G⟩:=eI j H (yO W) U l T;go_wp2;refine yq (eu rfl rfl z0 z1 z2) rfl ?_;exact⟨rfl,G.out⟩
theorem iQ (h:DS c pk w s bl o om wv bv)(x:Ins)(va vt vl vk:Value)(ho:x.op=15)(A B D:Rn.V)(hA:A.p=false)(hn:A.n=1)(hl:VsAt w vl [A,B,D]) :
  fA c pk w bl o om wv bv x va vt vl vk s (some B):=by
 obtain⟨W,hW,j,H,F⟩:=dI h x va vt;have d:=dJ j.out.gr;obtain⟨b,cl,rfl,Y,g,⟨m,q,r⟩,⟨t,u,y⟩,z,C,E⟩:=hl.three;have I:=gc d.out g m;have J:=gc d.out g q;have K:=gc d.out g r;have L:=gc d.out g t;have M:=gc d.out g u;have N:=gc d.out g y;have O:=gc d.out g z;have P:=gc d.out g C;have Q:=gc d.out g E;obtain⟨ap,R,an⟩:=A;obtain⟨T,l,S⟩:=B;obtain⟨dp,U,dn⟩:=D;clear h hl m q r t u y z C E;unfold fA dj;obtain⟨op,wd,fl,args,im,tt⟩:=x;dsimp only at *;subst ho;subst hA;subst hn;obtain⟨Z,aa,ab,ac,ad,ae,aq,-,-,-,ar,-⟩:=F.out W (yO W);have af:W.cell? _=_:=I ⟨W,yO W⟩;have ag:W.cell? _=_:=J ⟨W,yO W⟩;have ah:W.cell? _=_:=K ⟨W,yO W⟩;have ai:W.cell? _=_:=L ⟨W,yO W⟩;have aj:W.cell? _=_:=M ⟨W,yO W⟩;have ak:W.cell? _=_:=N ⟨W,yO W⟩;have al:W.cell? _=_:=O ⟨W,yO W⟩;have am:W.cell? _=_:=P ⟨W,yO W⟩;have ao:W.cell? _=_:=Q ⟨W,yO W⟩
 go_enter func157, ntmps157
 obtain⟨W9,X,z0,z1,z2,G⟩:=eI j H (yO W) T l S;go_wp2;refine yq (eu rfl rfl z0 z1 z2) rfl ?_;exact⟨rfl,G.out⟩
theorem jx (h:DS c pk w s bl o om wv bv)(x:Ins)(va vt vl vk:Value)(hBm:c.Bm<w.heap.size)(hf:VFn c.f)(hi:Rn.Inv c.f s)(ho:x.op=27)(A B:Rn.V)(ka kb:Int)(hl:VsAt w vl [A,B])(hk:IntsAt w.heap.size w vk [ka,kb])(hA:Fp c.f 33 A)(n:Nat)(hn1:1<=n)(hn:n<=4)(hB:0<=B.n/\B.n<4294967296)(hx:kb=8*(n:Int))(hm:DT s.mem A B n=none) :
  fA c pk w bl o om wv bv x va vt vl vk s none:=by
 obtain⟨W,hW,g,I,p⟩:=dI h x va vt;have d:=dJ g.out.gr;obtain⟨q,r⟩:=nM h g hBm;obtain⟨b,cl,rfl,Y,j,⟨z,C,D⟩,E,F,G⟩:=hl.two;have L:=gc d.out j z;have M:=gc d.out j C;have N:=gc d.out j D;have O:=gc d.out j E;have P:=gc d.out j F;have Q:=gc d.out j G;obtain⟨bk,ok,ck,rfl,X,l,t,y⟩:=eU hk;have J:=gc d.out l t;have K:=gc d.out l y;have CS:=dJ fun(u:GrW W)=>jK (h.gr (d.out.trans u.gr)) hf hi A B hA n hn1 hn hB kb hx;rw[hm]at CS;obtain⟨ap,R,an⟩:=A;obtain⟨bp,S,bn⟩:=B;clear h hBm hm hf hi hl hk hA hB hn1 hn hx z C D E F G t y J;unfold fA dj;dsimp only[vv,mo]at CS;obtain⟨op,wd,fl,args,im,tt⟩:=x;dsimp only at *;subst ho;obtain⟨aa,ab,ac,ad,ae,af,ao,aq,ar,au,av,aw⟩:=p.out W (yO W);have ag:W.cell? _=_:=K ⟨W,yO W⟩;have ah:W.cell? _=_:=L ⟨W,yO W⟩;have ai:W.cell? _=_:=M ⟨W,yO W⟩;have aj:W.cell? _=_:=N ⟨W,yO W⟩;have ak:W.cell? _=_:=O ⟨W,yO W⟩;have al:W.cell? _=_:=P ⟨W,yO W⟩;have am:W.cell? _=_:=Q ⟨W,yO W⟩
 go_enter func157, ntmps157
 go_wp2
 go_region_with (go_at_call 179;(with_reducible refine(CS.out ⟨W.drew,(yO W).drew⟩).mono ?_);rintro e Z ⟨rfl,T⟩;have m:=dJ ((yO W).drew.trans T);obtain⟨y0,y1,y2,y3,y4,y5,-⟩:=p.out Z m.out;obtain⟨W9,U,z0,z1,z2,H⟩:=eI g I m.out false 0 0)
 all_goals go_wp2
 all_goals (refine yq (eu rfl rfl z0 z1 z2) rfl ?_;exact⟨rfl,H.out⟩)
theorem jy (h:DS c pk w s bl o om wv bv)(x:Ins)(va vt vl vk:Value)(hBm:c.Bm<w.heap.size)(hf:VFn c.f)(hi:Rn.Inv c.f s)(ho:x.op=27)(A B:Rn.V)(ka kb:Int)(hl:VsAt w vl [A,B])(hk:IntsAt w.heap.size w vk [ka,kb])(hA:Fp c.f 33 A)(n:Nat)(hn1:1<=n)(hn:n<=4)(hB:0<=B.n/\B.n<4294967296)(hx:kb=8*(n:Int))(m:List (List Int))(hm:DT s.mem A B n=some m) :
  fA c pk w bl o om wv bv x va vt vl vk {s with mem:=m} (some Rn.zero):=by
 obtain⟨W,hW,p,HL,Q⟩:=dI h x va vt;have d:=dJ p.out.gr;obtain⟨l,q⟩:=nM h p hBm;obtain⟨b,cl,rfl,ad,j,⟨I,J,K⟩,L,M,N⟩:=hl.two;have T:=gc d.out j I;have U:=gc d.out j J;have X:=gc d.out j K;have Y:=gc d.out j L;have Z:=gc d.out j M;have L5:=gc d.out j N;obtain⟨bk,ok,ck,rfl,ac,t,F,G⟩:=eU hk;have R:=gc d.out t F;have S:=gc d.out t G;have CS:=dJ fun(u:GrW W)=>jK (h.gr (d.out.trans u.gr)) hf hi A B hA n hn1 hn hB kb hx;rw[hm]at CS;obtain⟨ap,aa,an⟩:=A;obtain⟨bp,ab,bn⟩:=B;clear h hBm hm hf hi hl hk hA hB hn1 hn hx I J K L M N F G R;unfold fA dj;dsimp only[vv,mo]at CS;obtain⟨op,wd,fl,args,im,tt⟩:=x;dsimp only at *;subst ho;obtain⟨ae,af,ag,ah,ai,aj,av,aw,ax,ay,az,aA⟩:=Q.out W (yO W);have ak:W.cell? _=_:=S ⟨W,yO W⟩;have al:W.cell? _=_:=T ⟨W,yO W⟩;have am:W.cell? _=_:=U ⟨W,yO W⟩;have ao:W.cell? _=_:=X ⟨W,yO W⟩;have aq:W.cell? _=_:=Y ⟨W,yO W⟩;have ar:W.cell? _=_:=Z ⟨W,yO W⟩;have au:W.cell? _=_:=L5 ⟨W,yO W⟩
 go_enter func157, ntmps157
 go_wp2
 go_region_with (go_at_call 179;(with_reducible refine(CS.out ⟨W.drew,(yO W).drew⟩).mono ?_);rintro e C ⟨rfl,H,r⟩;replace r:FrS (DO c wv bv) W C:=(FrS.of_gr (yO W).drew).trans (r.mono fun k hk=>.inl hk);have E:∀k,DO c wv bv k->DO c wv bv k\/W.heap.size<=k:=fun k hk=>.inl hk;have y:=q.out C r;have D:=dJ (l.out C _ wv bv Rn.zero H r E);obtain⟨e0,e1,e2,z3,z4,z5,W9,z,g,z0,O,P⟩:=qT y Rn.zero;rw[g]at D;dsimp only[Ae,Rn.zero,zX]at z z0 O P;clear y H r E g)
 all_goals go_wp2
 all_goals (refine yq (eu rfl rfl z0 O P) rfl ?_;exact⟨rfl,D.out⟩)
theorem mG (h:DS c pk w s bl o om wv bv)(x:Ins)(va vt vl vk:Value)(n0:¬x.op=0)(n22:¬x.op=22)(n23:¬x.op=23)(n24:¬x.op=24)(n21:¬x.op=21)(n15:¬x.op=15)(n26:¬x.op=26)(n27:¬x.op=27)(A B:Rn.V)(hl:VsAt w vl [A,B])(hd:4<=x.op/\x.op<=7->zi x.w/\yX x.w A.n/\yX x.w B.n)(hbk:ju x.op x.w A B=true) :
  fA c pk w bl o om wv bv x va vt vl vk s none:=by
 obtain⟨W,hW,j,F,p⟩:=dI h x va vt;have d:=dJ j.out.gr;obtain⟨X0,X1,X2,X3,X4,X5⟩:=uX p.out;obtain⟨b,cl,rfl,P,g,⟨r,t,y⟩,z,C,D⟩:=hl.two;have G:=gc d.out g r;have H:=gc d.out g t;have I:=gc d.out g y;have J:=gc d.out g z;have K:=gc d.out g C;have L:=gc d.out g D;have m:=dJ fun(u:GrW W)=>fj x va vt A B u.val hd;rw[hbk]at m;obtain⟨ap,M,an⟩:=A;obtain⟨bp,N,bn⟩:=B;clear h hd hbk hl r t y z C D;unfold fA dj;unfold dj vv at m;obtain⟨op,wd,fl,args,im,tt⟩:=x;dsimp only at *;obtain⟨Q,R,S,T,U,X,ae,af,ag,ah,ai,aj⟩:=p.out W (yO W);have Y:W.cell? _=_:=G ⟨W,yO W⟩;have Z:W.cell? _=_:=H ⟨W,yO W⟩;have aa:W.cell? _=_:=I ⟨W,yO W⟩;have ab:W.cell? _=_:=J ⟨W,yO W⟩;have ac:W.cell? _=_:=K ⟨W,yO W⟩;have ad:W.cell? _=_:=L ⟨W,yO W⟩
 go_enter func157, ntmps157
 go_wp2;refine dh (W:=W) (yO W) (by kernel_rfl) (by kernel_rfl) ?_;repeat (go_big_quiet_step ((rename_i u;go_at_call 180;exact dk u (m.out u))))
 refine wpQuiet_nil ?_;intro w9 q;obtain⟨l,rfl⟩:=q;have G8:=dJ l.gr;obtain⟨y0,y1,y2,y3,y4,y5,-⟩:=p.out l.val l.gr;obtain⟨W9,O,z0,z1,z2,E⟩:=eI j F l.gr false 0 0;go_wp2;refine yq (eu rfl rfl z0 z1 z2) rfl ?_;exact⟨rfl,E.out⟩
theorem ls (h:DS c pk w s bl o om wv bv)(x:Ins)(va vt vl vk:Value)(n0:¬x.op=0)(n22:¬x.op=22)(n23:¬x.op=23)(n24:¬x.op=24)(n21:¬x.op=21)(n15:¬x.op=15)(n26:¬x.op=26)(n27:¬x.op=27)(A B:Rn.V)(hl:VsAt w vl [A,B])(hd:4<=x.op/\x.op<=7->zi x.w/\yX x.w A.n/\yX x.w B.n)(hbk:ju x.op x.w A B=false)(hA:A.p=true) :
  fA c pk w bl o om wv bv x va vt vl vk s (some zX):=by
 obtain⟨W,hW,l,HL,E⟩:=dI h x va vt;have d:=dJ l.out.gr;obtain⟨X0,X1,X2,X3,X4,X5⟩:=uX E.out;obtain⟨b,cl,rfl,ad,j,⟨S,T,U⟩,X,Y,Z⟩:=hl.two;have Q:=gc d.out j S;have L1:=gc d.out j T;have L2:=gc d.out j U;have R:=gc d.out j X;have L4:=gc d.out j Y;have L5:=gc d.out j Z;have G:=dJ fun(u:GrW W)=>fj x va vt A B u.val hd;rw[hbk]at G;obtain⟨ap,aa,an⟩:=A;obtain⟨bp,ab,bn⟩:=B;clear h hd hbk hl S T U X Y Z;unfold fA dj;unfold dj vv at G;obtain⟨op,wd,fl,args,im,tt⟩:=x;dsimp only at *;subst hA;obtain⟨J,K,L,M,N,O,r,t,y,z,C,D⟩:=E.out W (yO W);have m:W.cell? _=_:=Q ⟨W,yO W⟩;have ae:W.cell? _=_:=L1 ⟨W,yO W⟩;have af:W.cell? _=_:=L2 ⟨W,yO W⟩;have q:W.cell? _=_:=R ⟨W,yO W⟩;have ag:W.cell? _=_:=L4 ⟨W,yO W⟩;have ah:W.cell? _=_:=L5 ⟨W,yO W⟩
 go_enter func157, ntmps157
 go_wp2;refine dh (W:=W) (yO W) (by kernel_rfl) (by kernel_rfl) ?_;repeat (go_big_quiet_step ((rename_i u;go_at_call 180;exact dk u (G.out u))))
 refine wpQuiet_nil ?_;intro w9 I;obtain⟨u9,rfl⟩:=I;have G8:=dJ u9.gr;go_wp2
 go_loopw [10] (fun g wr=>∃k:Nat,g=.int .i64 (k:Int)/\k<=0/\Hid (Gr W wr)) (fun g _=>(2-intOf g).toNat)
 case atStart=>exact⟨0,rfl,by omega,G8⟩
 case round =>
  obtain⟨k,rfl,H,F⟩:=hrel;clear m q r t y z C D J K L M N O;have m:wr.cell? _=_:=Q ⟨wr,F.out⟩;have q:wr.cell? _=_:=R ⟨wr,F.out⟩;obtain⟨-,-,-,-,-,-,r,t,y,z,C,D⟩:=E.out wr F.out;by_cases e0:k=0
  ·subst e0;clear H;go_wp2_with (go_at_call 176;refine(dS _).mono ?_;rintro e w7 ⟨rfl,g7⟩;have P:=dJ (Gr.trans F.out g7);obtain⟨y0,y1,y2,y3,y4,y5,-⟩:=E.out w7 P.out;obtain⟨W9,ac,z0,z1,z2,HE⟩:=eI l HL P.out true 0 0);refine yq (eu rfl rfl z0 z1 z2) rfl ?_;exact⟨rfl,HE.out⟩
  ·exfalso;omega
theorem lu (h:DS c pk w s bl o om wv bv)(x:Ins)(va vt vl vk:Value)(n0:¬x.op=0)(n22:¬x.op=22)(n23:¬x.op=23)(n24:¬x.op=24)(n21:¬x.op=21)(n15:¬x.op=15)(n26:¬x.op=26)(n27:¬x.op=27)(A B:Rn.V)(hl:VsAt w vl [A,B])(hd:4<=x.op/\x.op<=7->zi x.w/\yX x.w A.n/\yX x.w B.n)(hbk:ju x.op x.w A B=false)(hA:A.p=false)(hB:B.p=true) :
  fA c pk w bl o om wv bv x va vt vl vk s (some zX):=by
 obtain⟨W,hW,l,HL,G⟩:=dI h x va vt;have d:=dJ l.out.gr;obtain⟨X0,X1,X2,X3,X4,X5⟩:=uX G.out;obtain⟨b,cl,rfl,ad,j,⟨T,U,X⟩,Y,Z,q5⟩:=hl.two;have Q:=gc d.out j T;have L1:=gc d.out j U;have L2:=gc d.out j X;have R:=gc d.out j Y;have L4:=gc d.out j Z;have L5:=gc d.out j q5;have H:=dJ fun(u:GrW W)=>fj x va vt A B u.val hd;rw[hbk]at H;obtain⟨ap,aa,an⟩:=A;obtain⟨bp,ab,bn⟩:=B;clear h hd hbk hl T U X Y Z q5;unfold fA dj;unfold dj vv at H;obtain⟨op,wd,fl,args,im,tt⟩:=x;dsimp only at *;subst hA;subst hB;obtain⟨J,K,L,M,N,O,y,z,C,D,E,F⟩:=G.out W (yO W);have r:W.cell? _=_:=Q ⟨W,yO W⟩;have ae:W.cell? _=_:=L1 ⟨W,yO W⟩;have af:W.cell? _=_:=L2 ⟨W,yO W⟩;have t:W.cell? _=_:=R ⟨W,yO W⟩;have ag:W.cell? _=_:=L4 ⟨W,yO W⟩;have ah:W.cell? _=_:=L5 ⟨W,yO W⟩
 go_enter func157, ntmps157
 go_wp2;refine dh (W:=W) (yO W) (by kernel_rfl) (by kernel_rfl) ?_;repeat (go_big_quiet_step ((rename_i u;go_at_call 180;exact dk u (H.out u))))
 refine wpQuiet_nil ?_;intro w9 I;obtain⟨u9,rfl⟩:=I;have G8:=dJ u9.gr;go_wp2
 go_loopw [10] (fun g wr=>∃k:Nat,g=.int .i64 (k:Int)/\k<=1/\Hid (Gr W wr)) (fun g _=>(2-intOf g).toNat)
 case atStart=>exact⟨0,rfl,by omega,G8⟩
 case round =>
  obtain⟨k,rfl,q,m⟩:=hrel;clear r t y z C D E F J K L M N O;have r:wr.cell? _=_:=Q ⟨wr,m.out⟩;have t:wr.cell? _=_:=R ⟨wr,m.out⟩;obtain⟨-,-,-,-,-,-,y,z,C,D,E,F⟩:=G.out wr m.out;by_cases S:k=0
  ·subst S;clear q;go_wp2;exact⟨⟨1,rfl,by omega,m⟩,by simp[intOf]⟩
  by_cases e1:k=1
  ·subst e1;clear q S;go_wp2_with (go_at_call 176;refine(dS _).mono ?_;rintro e w7 ⟨rfl,g7⟩;have P:=dJ (Gr.trans m.out g7);obtain⟨y0,y1,y2,y3,y4,y5,-⟩:=G.out w7 P.out;obtain⟨W9,ac,z0,z1,z2,HE⟩:=eI l HL P.out true 0 0);refine yq (eu rfl rfl z0 z1 z2) rfl ?_;exact⟨rfl,HE.out⟩
  ·exfalso;omega
theorem lv (h:DS c pk w s bl o om wv bv)(x:Ins)(va vt vl vk:Value)(n0:¬x.op=0)(n22:¬x.op=22)(n23:¬x.op=23)(n24:¬x.op=24)(n21:¬x.op=21)(n15:¬x.op=15)(n26:¬x.op=26)(n27:¬x.op=27)(A B:Rn.V)(hl:VsAt w vl [A,B])(hd:4<=x.op/\x.op<=7->zi x.w/\yX x.w A.n/\yX x.w B.n)(hbk:ju x.op x.w A B=false)(hA:A.p=false)(hB:B.p=false)(v:Rn.V)(hs:∀w',Gr w w'->Calls prog 181 #[.pointer (some ⟨c.Bs,0,none⟩),dj x va vt,vl,vk] w' (RG (vv v) w')) :
  fA c pk w bl o om wv bv x va vt vl vk s (some v):=by
 obtain⟨W,hW,q,HL,G⟩:=dI h x va vt;have d:=dJ q.out.gr;obtain⟨X0,X1,X2,X3,X4,X5⟩:=uX G.out;obtain⟨b,cl,rfl,ad,m,⟨X,Y,Z⟩,q3,q4,q5⟩:=hl.two;have S:=gc d.out m X;have L1:=gc d.out m Y;have L2:=gc d.out m Z;have T:=gc d.out m q3;have L4:=gc d.out m q4;have L5:=gc d.out m q5;have H:=dJ fun(u:GrW W)=>fj x va vt A B u.val hd;rw[hbk]at H;obtain⟨ap,aa,an⟩:=A;obtain⟨bp,ab,bn⟩:=B;obtain⟨vp,vs,vn⟩:=v;have CS:=dJ hs;clear h hd hbk hl X Y Z q3 q4 q5 hs;unfold fA dj;unfold dj vv at H;unfold dj vv at CS;obtain⟨op,wd,fl,args,im,tt⟩:=x;dsimp only at *;subst hA;subst hB;obtain⟨K,L,M,N,O,Q,y,z,C,D,E,F⟩:=G.out W (yO W);have r:W.cell? _=_:=S ⟨W,yO W⟩;have ae:W.cell? _=_:=L1 ⟨W,yO W⟩;have af:W.cell? _=_:=L2 ⟨W,yO W⟩;have t:W.cell? _=_:=T ⟨W,yO W⟩;have ag:W.cell? _=_:=L4 ⟨W,yO W⟩;have ah:W.cell? _=_:=L5 ⟨W,yO W⟩
 go_enter func157, ntmps157
 go_wp2;refine dh (W:=W) (yO W) (by kernel_rfl) (by kernel_rfl) ?_;repeat (go_big_quiet_step ((rename_i u;go_at_call 180;exact dk u (H.out u))))
 refine wpQuiet_nil ?_;intro w9 J;obtain⟨u9,rfl⟩:=J;have G8:=dJ u9.gr;go_wp2
 go_loopw [10] (fun l wr=>∃k:Nat,l=.int .i64 (k:Int)/\k<=2/\Hid (Gr W wr)) (fun l _=>(2-intOf l).toNat)
 case atStart=>exact⟨0,rfl,by omega,G8⟩
 case round =>
  obtain⟨k,rfl,j,g⟩:=hrel;clear r t y z C D E F K L M N O Q;have r:wr.cell? _=_:=S ⟨wr,g.out⟩;have t:wr.cell? _=_:=T ⟨wr,g.out⟩;obtain⟨-,-,-,-,-,-,y,z,C,D,E,F⟩:=G.out wr g.out;by_cases I:k=0
  ·subst I;clear j;go_wp2;exact⟨⟨1,rfl,by omega,g⟩,by simp[intOf]⟩
  by_cases U:k=1
  ·subst U;clear j I;go_wp2;exact⟨⟨2,rfl,by omega,g⟩,by simp[intOf]⟩
  by_cases e2:k=2
  ·subst e2;clear j I U;go_wp2_with (go_at_call 181;refine(CS.out _ (d.out.trans g.out)).mono ?_;rintro e w7 ⟨rfl,g7⟩;have R:=dJ (Gr.trans g.out g7);obtain⟨y0,y1,y2,y3,y4,y5,-⟩:=G.out w7 R.out;obtain⟨W9,ac,z0,z1,z2,HE⟩:=eI q HL R.out vp vs vn);refine yq (eu rfl rfl z0 z1 z2) rfl ?_;exact⟨rfl,HE.out⟩
  ·exfalso;omega
theorem lp (h:DS c pk w s bl o om wv bv)(x:Ins)(va vt vl vk:Value)(n0:¬x.op=0)(n22:¬x.op=22)(n23:¬x.op=23)(n24:¬x.op=24)(n21:¬x.op=21)(n15:¬x.op=15)(n26:¬x.op=26)(n27:¬x.op=27)(A:Rn.V)(hl:VsAt w vl [A])(hA:A.p=true) :
  fA c pk w bl o om wv bv x va vt vl vk s (some zX):=by
 obtain⟨W,hW,j,S,z⟩:=dI h x va vt;have d:=dJ j.out.gr;obtain⟨X0,X1,X2,X3,X4,X5⟩:=uX z.out;obtain⟨b,cl,rfl,ab,B,N,O,P⟩:=hl.one;have M:=gc d.out B N;have T:=gc d.out B O;have U:=gc d.out B P;obtain⟨ap,X,an⟩:=A;clear h hl N O P;unfold fA dj;obtain⟨op,wd,fl,args,im,tt⟩:=x;dsimp only at *;subst hA;obtain⟨F,G,H,I,J,K,m,q,r,t,u,y⟩:=z.out W (yO W);have l:W.cell? _=_:=M ⟨W,yO W⟩;have ac:W.cell? _=_:=T ⟨W,yO W⟩;have ad:W.cell? _=_:=U ⟨W,yO W⟩
 go_enter func157, ntmps157
 go_wp2;refine dh (W:=W) (yO W) (by kernel_rfl) (by kernel_rfl) ?_;repeat (go_big_quiet_step (fail))
 refine wpQuiet_nil ?_;intro w9 E;obtain⟨u9,rfl⟩:=E;have Q:=dJ u9.gr;go_wp2
 go_loopw [10] (fun g wr=>∃k:Nat,g=.int .i64 (k:Int)/\k<=0/\Hid (Gr W wr)) (fun g _=>(1-intOf g).toNat)
 case atStart=>exact⟨0,rfl,by omega,Q⟩
 case round =>
  obtain⟨k,rfl,D,C⟩:=hrel;clear l m q r t u y F G H I J K;have l:wr.cell? _=_:=M ⟨wr,C.out⟩;obtain⟨-,-,-,-,-,-,m,q,r,t,u,y⟩:=z.out wr C.out;by_cases Y:k=0
  ·subst Y;clear D;go_wp2_with (go_at_call 176;refine(dS _).mono ?_;rintro e w7 ⟨rfl,Z⟩;have L:=dJ (Gr.trans C.out Z);obtain⟨y0,y1,y2,y3,y4,y5,-⟩:=z.out w7 L.out;obtain⟨W9,aa,z0,z1,z2,R⟩:=eI j S L.out true 0 0);refine yq (eu rfl rfl z0 z1 z2) rfl ?_;exact⟨rfl,R.out⟩
  ·exfalso;omega
theorem lr (h:DS c pk w s bl o om wv bv)(x:Ins)(va vt vl vk:Value)(n0:¬x.op=0)(n22:¬x.op=22)(n23:¬x.op=23)(n24:¬x.op=24)(n21:¬x.op=21)(n15:¬x.op=15)(n26:¬x.op=26)(n27:¬x.op=27)(A:Rn.V)(hl:VsAt w vl [A])(hA:A.p=false)(v:Rn.V)(hs:∀w',Gr w w'->Calls prog 181 #[.pointer (some ⟨c.Bs,0,none⟩),dj x va vt,vl,vk] w' (RG (vv v) w')) :
  fA c pk w bl o om wv bv x va vt vl vk s (some v):=by
 obtain⟨W,hW,j,U,C⟩:=dI h x va vt;have d:=dJ j.out.gr;obtain⟨X0,X1,X2,X3,X4,X5⟩:=uX C.out;obtain⟨b,cl,rfl,ab,D,O,Q,R⟩:=hl.one;have M:=gc d.out D O;have X:=gc d.out D Q;have Y:=gc d.out D R;obtain⟨ap,Z,an⟩:=A;obtain⟨vp,vs,vn⟩:=v;have CS:=dJ hs;clear h hl O Q R hs;unfold fA dj;unfold dj vv at CS;obtain⟨op,wd,fl,args,im,tt⟩:=x;dsimp only at *;subst hA;obtain⟨F,G,H,I,J,K,r,t,u,y,z,B⟩:=C.out W (yO W);have q:W.cell? _=_:=M ⟨W,yO W⟩;have ac:W.cell? _=_:=X ⟨W,yO W⟩;have ad:W.cell? _=_:=Y ⟨W,yO W⟩
 go_enter func157, ntmps157
 go_wp2;refine dh (W:=W) (yO W) (by kernel_rfl) (by kernel_rfl) ?_;repeat (go_big_quiet_step (fail))
 refine wpQuiet_nil ?_;intro w9 E;obtain⟨u9,rfl⟩:=E;have S:=dJ u9.gr;go_wp2
 go_loopw [10] (fun g wr=>∃k:Nat,g=.int .i64 (k:Int)/\k<=1/\Hid (Gr W wr)) (fun g _=>(1-intOf g).toNat)
 case atStart=>exact⟨0,rfl,by omega,S⟩
 case round =>
  obtain⟨k,rfl,m,l⟩:=hrel;clear q r t u y z B F G H I J K;have q:wr.cell? _=_:=M ⟨wr,l.out⟩;obtain⟨-,-,-,-,-,-,r,t,u,y,z,B⟩:=C.out wr l.out;by_cases N:k=0
  ·subst N;clear m;go_wp2;exact⟨⟨1,rfl,by omega,l⟩,by simp[intOf]⟩
  by_cases e1:k=1
  ·subst e1;clear m N;go_wp2_with (go_at_call 181;refine(CS.out _ (d.out.trans l.out)).mono ?_;rintro e w7 ⟨rfl,g7⟩;have L:=dJ (Gr.trans l.out g7);obtain⟨y0,y1,y2,y3,y4,y5,-⟩:=C.out w7 L.out;obtain⟨W9,aa,z0,z1,z2,T⟩:=eI j U L.out vp vs vn);refine yq (eu rfl rfl z0 z1 z2) rfl ?_;exact⟨rfl,T.out⟩
  ·exfalso;omega
end
end
end

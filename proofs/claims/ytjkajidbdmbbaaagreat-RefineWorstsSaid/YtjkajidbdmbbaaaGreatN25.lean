import Derived.Test.YtjkajidbdmbbaaaGreatN24
set_option linter.unusedSimpArgs false
set_option linter.unusedVariables false
set_option maxRecDepth 100000
set_option maxHeartbeats 16000000
open Go.Proofs.Tryz
namespace Go.Proofs.YtjkajidbdmbbaaaGreat
open Ref Rn Wd Ir Rf
open Go.RowKit Go.Maps Go.Shelf
namespace Ops
theorem wraps_cases (t1 t2:Bool)(m h X Z:Int):(t1=false/\t2=false/\Hid (wrapsB t1 t2 m h X Z=false))\/(t1=false/\t2=true/\Z < -h/\Hid (wrapsB t1 t2 m h X Z=true))\/(t1=false/\t2=true/\(h<=Z/\¬Z < -h)/\Hid (wrapsB t1 t2 m h X Z=true)) \/
  (t1=false/\t2=true/\(¬Z < -h/\¬h<=Z)/\Hid (wrapsB t1 t2 m h X Z=false))\/(t1=true/\X<0/\Hid (wrapsB t1 t2 m h X Z=true))\/(t1=true/\(m<X/\¬X<0)/\Hid (wrapsB t1 t2 m h X Z=true))\/(t1=true/\t2=false/\(¬X<0/\¬m<X)/\Hid (wrapsB t1 t2 m h X Z=false)) \/
  (t1=true/\t2=true/\(¬X<0/\¬m<X)/\Z < -h/\Hid (wrapsB t1 t2 m h X Z=true))\/(t1=true/\t2=true/\(¬X<0/\¬m<X)/\(h<=Z/\¬Z < -h)/\Hid (wrapsB t1 t2 m h X Z=true))\/(t1=true/\t2=true/\(¬X<0/\¬m<X)/\(¬Z < -h/\¬h<=Z)/\Hid (wrapsB t1 t2 m h X Z=false)):=by
 unfold Hid wrapsB;by_cases j:Z < -h<;>by_cases l:h<=Z<;>by_cases d:X<0<;>by_cases g:m<X<;>cases t1<;>cases t2<;>simp[j,l,d,g]
theorem brkW (o:Int)(W G:Nat)(eg:∀args w,(callFunc W args).run prog w=.ok (.enter W args) w)(fl n a b X Z:Int)(w:World)(hf:0<=fl/\fl<=7)(hn:zi n)(ha:yX n a)(hb:yX n b)(ho11:(o == 11)=false)
  (CA:Hid (∀w1,Calls prog 207 #[.int .i64 o,.int .i64 n,.int .u32 a,.int .u32 b] w1 fun e w'=>∃B,e=.returned (.tuple #[.agg #[boxV 246 B,fnV W,.nilFunc],.bool true])/\(B<w'.heap.size/\w'.cell? ⟨B,0,none⟩=some (fnV G))/\Gr w1 w'))
  (CD:Hid (∀B w1,w1.cell? ⟨B,0,none⟩=some (fnV G)->Calls prog 246 #[.int .i64 n,.int .u32 a,.int .u32 b,.pointer (some ⟨B,0,none⟩)] w1 fun e w'=>(∃y,e=.returned (.tuple #[.int .u32 y,.bool true]))/\Gr w1 w'))
  (CX:Hid (∀w1,Calls prog W #[.int .i64 a,.int .i64 b] w1 (RS (.int .i64 X) w1))) (CZ:Hid (∀w1,Calls prog W #[.int .i64 (zU n a),.int .i64 (zU n b)] w1 (RS (.int .i64 Z) w1)))
  (HB:Hid (BZ o fl n a b=wrapsB (fl%2 == 1) (fl / 2%2 == 1) (m9 n-1) (m9 (n-1)) X Z)) :
  Calls prog 191 #[.int .i64 o,.int .i64 fl,.int .i64 n,.int .u32 a,.int .u32 b] w (RG (.tuple #[.bool (BZ o fl n a b),.int .i64 0]) w):=by
 have N1:=nil_eq;have N2:=func_eq;have N3:=nil_ne;have N4:=func_ne;have L:=words hn ha;have M:=words hn hb;obtain⟨Q,R,S⟩:=flag_bits hf;obtain⟨f1,f2⟩:=hf;obtain⟨t1,p⟩:∃t,(fl%2 == 1)=t:=⟨_,rfl⟩;obtain⟨t2,q⟩:∃t,(fl / 2%2 == 1)=t:=⟨_,rfl⟩;obtain⟨t4,r⟩:∃t,(fl / 4%2 == 1)=t:=⟨_,rfl⟩;rw[p]at Q HB;rw[q]at R HB;rw[r]at S;have J:=dJ fun w1=>dG n w1 hn;have j:=dJ fun w1=>dA n a w1 hn ha;have l:=dJ fun w1=>dA n b w1 hn hb;obtain⟨k,ek,T,hk,Y,h2⟩:=ey hn;obtain⟨n1,n2⟩:=id hn;obtain⟨a1,a2⟩:=id L;obtain⟨b1,b2⟩:=id M;have D:0<=m9 n-1/\m9 n-1<4294967296:=by have:=C4 hn;have:=BC n;omega
 obtain⟨m1,m2⟩:=D;clear L M;obtain⟨x,O⟩:=xJ (zU n a);obtain⟨y,H⟩:=xJ (zU n b);obtain⟨m,D⟩:=xJ (m9 n-1);obtain⟨h,hh⟩:=xJ (m9 (n-1));rw[O]at j CZ;rw[H]at l
 try rw[H]at CZ
 rw[D]at J HB m1 m2;rw[hh]at HB T Y h2;clear hn ha hb p q r O H D hh;cases t4
 all_goals
  rcases wraps_cases t1 t2 m h X Z with ⟨rfl,rfl,d⟩|⟨rfl,rfl,A,d⟩|⟨rfl,rfl,⟨A,I⟩,d⟩|⟨rfl,rfl,⟨A,I⟩,d⟩|⟨rfl,u,d⟩|⟨rfl,⟨u,F⟩,d⟩|⟨rfl,rfl,⟨u,F⟩,d⟩|⟨rfl,rfl,⟨u,F⟩,A,d⟩|⟨rfl,rfl,⟨u,F⟩,⟨A,I⟩,d⟩|⟨rfl,rfl,⟨u,F⟩,⟨A,I⟩,d⟩
  all_goals
   go_enter func191, ntmps191
   go_wp2_with (first|(go_at_call 207;refine(CA.out _).mono ?_;rintro e w1 ⟨B,rfl,N,U⟩;have K:=dJ N;unfold fnV boxV;clear N)|(go_at_call 246;refine(CD.out B _ (by rw[World.cell?_alloc_past _ _ _ K.out.1];exact K.out.2)).mono ?_;rintro e w2 ⟨⟨y,rfl⟩,C⟩;have g:=dJ ((U.alloc _).trans C);have k0:=df _ _ 0 C rfl;have k1:=df _ _ 1 C rfl;have k2:=df _ _ 2 C rfl;simp only[xX,xW,xV]at k0 k1 k2)|(go_at_fn W;first|((with_reducible refine(CX.out _).mono ?_);rintro e E ⟨rfl,rfl⟩)|((with_reducible refine(CZ.out _).mono ?_);rintro e E ⟨rfl,rfl⟩))|(go_at_call 147;refine(J.out _).mono ?_;rintro e E ⟨rfl,rfl⟩)|(go_at_call 208;first|((with_reducible refine(j.out _).mono ?_);rintro e E ⟨rfl,rfl⟩)|((with_reducible refine(l.out _).mono ?_);rintro e E ⟨rfl,rfl⟩)))
   try go_quiet ((first|(go_at_call 208;exact dq (j.out _))|(go_at_fn W;exact dq (CZ.out _))))
   all_goals try go_wp2
   all_goals first
    | exact yq (v:=.tuple #[.bool false,.int .i64 0]) (by simp[results,results191,go_sem]) rfl ⟨congrArg (fun z=>Ending.returned (.tuple #[.bool z,.int .i64 0])) (HB.out.trans d.out).symm,by first|exact g.out|exact g.out.drewN _⟩
    | exact yq (v:=.tuple #[.bool true,.int .i64 0]) (by simp[results,results191,go_sem]) rfl ⟨congrArg (fun z=>Ending.returned (.tuple #[.bool z,.int .i64 0])) (HB.out.trans d.out).symm,by first|exact g.out|exact g.out.drewN _⟩
end Ops

import Derived.Test.YtjkajidbdmbbaaaGreatN25
set_option linter.unusedSimpArgs false
set_option linter.unusedVariables false
set_option maxRecDepth 100000
set_option maxHeartbeats 16000000
open Go.Proofs.Tryz
namespace Go.Proofs.YtjkajidbdmbbaaaGreat
open Ref Rn Wd Ir Rf
open Go.RowKit Go.Maps Go.Shelf
namespace Ops
theorem brk11 (fl n a b:Int)(w:World)(hf:0<=fl/\fl<=7)(hn:zi n)(ha:yX n a)(hb:yX n b):Calls prog 191 #[.int .i64 11,.int .i64 fl,.int .i64 n,.int .u32 a,.int .u32 b] w (RG (.tuple #[.bool (BZ 11 fl n a b),.int .i64 0]) w):=by
 have T:=dJ fun d=>asked_any 11 n a b d (by omega) hn ha hb;have U:=dJ fun B d=>dofn11 n a b B d hn ha hb;have HV:=dJ (show ∀B,opV 11 B=.agg #[fnV 238,fnV 239,.nilFunc] from fun B=>rfl);obtain⟨F1,F2,F4⟩:=flag_bits hf;have N1:=nil_eq;have N2:=func_eq;have N3:=nil_ne;have N4:=func_ne;obtain⟨f1,f2⟩:=hf;obtain⟨t1,q⟩:∃t,(fl%2 == 1)=t:=⟨_,rfl⟩;obtain⟨t2,r⟩:∃t,(fl / 2%2 == 1)=t:=⟨_,rfl⟩;obtain⟨t4,D⟩:∃t,(fl / 4%2 == 1)=t:=⟨_,rfl⟩;rw[q]at F1;rw[r]at F2;rw[D]at F4;obtain⟨z,A⟩:=xJ (Wd.op 11 n a b);have HZ:=dJ A;obtain _|x:=z
 ·have u:Hid (BZ 11 fl n a b=false):=by show _=_;unfold BZ;rw[A];rfl
  clear hn ha hb A q r D F1 F2 F4
  go_enter func191, ntmps191
  go_wp2_with (first|(go_at_call 207;refine(T.out _).mono ?_;rintro e d ⟨v,rfl,⟨B,rfl,M⟩,L⟩;rw[HV.out B];unfold fnV;clear M)|(go_at_call 238;refine(U.out B _).mono ?_;rintro e w2 ⟨⟨y,rfl,-⟩,l⟩;rw[HZ.out];have g:=dJ ((L.alloc _).trans l);have O:=df _ _ 0 l rfl;have Q:=df _ _ 1 l rfl;have R:=df _ _ 2 l rfl;simp only[xX,xW,xV]at O Q R))
  exact yq (v:=.tuple #[.bool false,.int .i64 0]) (by simp[results,results191,go_sem]) rfl ⟨by rw[u.out],g.out⟩
 ·have p:b<32:=by
   have:=hn.2;have:¬n<=b:=fun e=>by rw[show Wd.op 11 n a b=if n<=b then none else some (a*2 ^ b.toNat%m9 n) from rfl,yr e]at A;cases A
   omega
  have ba:=words hn ha;have bb:=words hn hb;have sa:=sg_bd hn ha;have sb:=sg_bd hn hb;have Y:Hid (∀d,Calls prog 239 #[.int .i64 a,.int .i64 b] d (RS (.int .i64 (a*2 ^ b.toNat)) d)):=fun d=>nW a b d ⟨by omega,by omega⟩ ⟨hb.1,p⟩ (shl_bd ⟨by omega,by omega⟩ ⟨hb.1,p⟩);have F:Hid (∀d,Calls prog 239 #[.int .i64 (zU n a),.int .i64 (b)] d (RS (.int .i64 (zU n a*2 ^ b.toNat)) d)):=fun d=>nW (zU n a) b d ⟨by omega,by omega⟩ ⟨hb.1,p⟩ (shl_bd ⟨by omega,by omega⟩ ⟨hb.1,p⟩)
  have u:Hid (BZ 11 fl n a b=wrapsB t1 t2 (m9 n-1) (m9 (n-1)) (a*2 ^ b.toNat) (zU n a*2 ^ b.toNat)):=by show _=_;rw[<-q,<-r,<-brk11_eq fl ha];unfold BZ;rw[show (Wd.op 11 n a b).isSome=true by rw[A];first|rfl|(rw[<-A];rfl)];rfl
  have W:=dJ fun d=>dG n d hn;have C:=dJ fun d=>dA n a d hn ha;have E:=dJ fun d=>dA n b d hn hb;obtain⟨k,ek,eh,hk,h1,h2⟩:=ey hn;obtain⟨n1,n2⟩:=id hn;obtain⟨a1,a2⟩:=id ba;obtain⟨b1,b2⟩:=id bb;have I:0<=m9 n-1/\m9 n-1<4294967296:=by have:=C4 hn;have:=BC n;omega
  obtain⟨m1,m2⟩:=I;obtain⟨X,hX⟩:=xJ (a*2 ^ b.toNat);obtain⟨Z,hZ⟩:=xJ (zU n a*2 ^ b.toNat);rw[hX]at Y u;rw[hZ]at F u;clear hX hZ ba bb sa sb;obtain⟨x,hx⟩:=xJ (zU n a);obtain⟨y,N⟩:=xJ (zU n b);obtain⟨m,I⟩:=xJ (m9 n-1);obtain⟨h,hh⟩:=xJ (m9 (n-1));rw[hx]at C F;rw[N]at E
  try rw[N]at F
  rw[I]at W u m1 m2;rw[hh]at u eh h1 h2;clear hn ha hb A q r D hx N I hh;cases t4
  all_goals
   rcases wraps_cases t1 t2 m h X Z with ⟨rfl,rfl,j⟩|⟨rfl,rfl,H,j⟩|⟨rfl,rfl,⟨H,S⟩,j⟩|⟨rfl,rfl,⟨H,S⟩,j⟩|⟨rfl,G,j⟩|⟨rfl,⟨G,K⟩,j⟩|⟨rfl,rfl,⟨G,K⟩,j⟩|⟨rfl,rfl,⟨G,K⟩,H,j⟩|⟨rfl,rfl,⟨G,K⟩,⟨H,S⟩,j⟩|⟨rfl,rfl,⟨G,K⟩,⟨H,S⟩,j⟩
   all_goals
    go_enter func191, ntmps191
    go_wp2_with (first|(go_at_call 207;refine(T.out _).mono ?_;rintro e d ⟨v,rfl,⟨B,rfl,M⟩,L⟩;rw[HV.out B];unfold fnV;clear M)|(go_at_call 238;refine(U.out B _).mono ?_;rintro e w2 ⟨⟨y,rfl,-⟩,l⟩;rw[HZ.out];have g:=dJ ((L.alloc _).trans l);have O:=df _ _ 0 l rfl;have Q:=df _ _ 1 l rfl;have R:=df _ _ 2 l rfl;simp only[xX,xW,xV]at O Q R)|(go_at_call 239;first|((with_reducible refine(Y.out _).mono ?_);rintro e J ⟨rfl,rfl⟩)|((with_reducible refine(F.out _).mono ?_);rintro e J ⟨rfl,rfl⟩))|(go_at_call 147;refine(W.out _).mono ?_;rintro e J ⟨rfl,rfl⟩)|(go_at_call 208;first|((with_reducible refine(C.out _).mono ?_);rintro e J ⟨rfl,rfl⟩)|((with_reducible refine(E.out _).mono ?_);rintro e J ⟨rfl,rfl⟩)))
    try go_quiet ((first|(go_at_call 208;exact dq (C.out _))|(go_at_call 239;exact dq (F.out _))))
    all_goals try go_wp2
    all_goals first
     | exact yq (v:=.tuple #[.bool false,.int .i64 0]) (by simp[results,results191,go_sem]) rfl ⟨congrArg (fun z=>Ending.returned (.tuple #[.bool z,.int .i64 0])) (u.out.trans j.out).symm,by first|exact g.out|exact g.out.drewN _⟩
     | exact yq (v:=.tuple #[.bool true,.int .i64 0]) (by simp[results,results191,go_sem]) rfl ⟨congrArg (fun z=>Ending.returned (.tuple #[.bool z,.int .i64 0])) (u.out.trans j.out).symm,by first|exact g.out|exact g.out.drewN _⟩
end Ops

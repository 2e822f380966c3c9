/- Parts. -/
import Derived.Test.YthfhamagopbgcaaGreatL22
import Derived.Test.YthfhamagopbgcaaGreatL02
set_option linter.unusedSimpArgs false
set_option linter.unusedVariables false
set_option maxRecDepth 100000
set_option maxHeartbeats 16000000
open Go.Proofs.Tryz
namespace Go.Proofs.YthfhamagopbgcaaGreat
open Go.RowKit
theorem jH (x y:Int)(w:World):Calls prog 88 #[.int .i64 x,.int .i64 y] w (RT (.int .i64 (Rn.sgn x y)) w):=Tryz.cmp_Compare_int x y w
theorem iE (x:Int)(w:World):Calls prog 133 #[.int .u32 x] w (RT (.bool false) w):=by
 go_enter func133, ntmps133
 go_wp2;go_ret;exact⟨rfl,rfl⟩
theorem ro (x y:Int)(w:World):Calls prog 90 #[.int .u32 x,.int .u32 y] w (RT (.int .i64 (Rn.sgn x y)) w):=by
 have H:Hid (∀z,z=Rn.sgn x y->Ending.returned (.int .i64 z)=.returned (.int .i64 (Rn.sgn x y))):=fun z h=>by rw[h]
 have m:∀z,((x<y/\z=-1)\/(¬x<y/\y<x/\z=1)\/(¬x<y/\¬y<x/\z=0))->z=Rn.sgn x y:=by
  intro z h;unfold Rn.sgn;rcases h with ⟨g,d⟩|⟨g,d,l⟩|⟨g,d,l⟩
  ·rw[wa g];exact d
  ·rw[yD g,wa d];exact l
  ·rw[yD g,yD d];exact l
 have j:=dJ m;clear m;rcases Int.lt_trichotomy x y with h|h|h
 ·have d:¬y<x:=by omega
  go_enter func90, ntmps90
  go_wp2_with (go_at_call 133;refine(iE _ _).mono ?_;rintro e p ⟨rfl,rfl⟩);go_ret;exact⟨H.out _ (j.out _ (.inl ⟨h,rfl⟩)),rfl⟩
 ·subst h
  go_enter func90, ntmps90
  go_wp2_with (go_at_call 133;refine(iE _ _).mono ?_;rintro e p ⟨rfl,rfl⟩);go_ret;exact⟨H.out _ (j.out _ (.inr (.inr ⟨by omega,by omega,rfl⟩))),rfl⟩
 ·have d:¬x<y:=by omega
  go_enter func90, ntmps90
  go_wp2_with (go_at_call 133;refine(iE _ _).mono ?_;rintro e p ⟨rfl,rfl⟩);go_ret;exact⟨H.out _ (j.out _ (.inr (.inl ⟨d,h,rfl⟩))),rfl⟩
theorem lJ {B:Nat}{w:World}{v v':Value}{a b:List Int}(hv:IntsAt B w v a)(hv':IntsAt B w v' b) :
  Calls prog 92 #[v,v'] w (RT (.int .i64 (Rn.cmpInts a b)) w):=by
 obtain⟨A,ca,rfl,M,N,a3⟩:=hv;obtain⟨L,X,rfl,O,Q,p⟩:=hv';obtain⟨R,C⟩:=xJ (Rn.cmpInts a b);have H:=dJ C;rw[C];clear C
 go_enter func92, ntmps92
 go_wp2
 go_loop [11] (fun s11=>∃k:Nat,k<=a.length/\k<=b.length/\s11=.int .i64 (k:Int)/\Hid (Rn.cmpInts (a.drop k) (b.drop k)=R)) (fun s11=>a.length-(intOf s11).toNat)
 case atStart=>exact⟨0,vU _,vU _,rfl,H⟩
 case round =>
  obtain⟨k,I,J,rfl,j⟩:=hrel;by_cases m:k<a.length
  ·obtain⟨x,q⟩:∃x,a[k]?=some x:=⟨_,vu m⟩;obtain⟨S,Y,rfl,-,a4⟩:=a3 (by omega);have U:=a4 k x q;have r:a.drop k=x::a.drop (k+1):=by rw[vM m];congr 1;rw[vu m]at q;injection q
   by_cases g:k<b.length
   ·obtain⟨y,t⟩:∃y,b[k]?=some y:=⟨_,vu g⟩;obtain⟨T,ob,rfl,-,D⟩:=p (by omega);have W:=D k y t;have E:b.drop k=y::b.drop (k+1):=by rw[vM g];congr 1;rw[vu g]at t;injection t
    have u:=dJ (jH x y w)
    have z:Hid ((if Rn.sgn x y=0 then Rn.cmpInts (a.drop (k+1)) (b.drop (k+1)) else Rn.sgn x y)=R):=by show _=_;have:=j.out;rw[r,E,Rn.cmpInts]at this;exact this
    obtain⟨d,G⟩:=xJ (Rn.sgn x y);rw[G]at u z;clear q t r E a3 a4 p D G j;by_cases F:d=0
    ·subst F;go_wp2_with (go_at_call 88;refine u.out.mono ?_;rintro e K ⟨rfl,rfl⟩);go_round;case rel=>exact⟨k+1,by omega,by omega,by go_num,by (show _=_);have:=z.out;simpa using this⟩
     case measure=>simp[intOf];omega
    ·have l:Hid (R=d):=by show _=_;have:=z.out;rw[yD F]at this;exact this.symm
     go_wp2_with (go_at_call 88;refine u.out.mono ?_;rintro e K ⟨rfl,rfl⟩);go_ret;exact⟨de l.out.symm,rfl⟩
   ·have l:Hid (R=1):=by
     show _=_;have:=j.out;rw[r,vQ (show b.length<=k by omega),Rn.cmpInts]at this;exact this.symm
    clear q r a3 a4 p j;go_wp2;go_ret;exact⟨de l.out.symm,rfl⟩
  ·obtain rfl:k=a.length:=by omega
   by_cases g:a.length<b.length
   ·have l:Hid (R=-1):=by
     show _=_;have:=j.out;rw[vQ (vV a.length),vM g,Rn.cmpInts]at this;exact this.symm
    clear a3 p j;go_wp2;go_ret;exact⟨de l.out.symm,rfl⟩
   ·have l:Hid (R=0):=by
     show _=_;have:=j.out;rw[vQ (vV a.length),vQ (show b.length<=a.length by omega),Rn.cmpInts]at this;exact this.symm
    clear a3 p j;go_wp2;go_ret;exact⟨de l.out.symm,rfl⟩
theorem ny {B:Nat}{w:World}{v v':Value}{a b:List (List Int)}(hv:TabAt B w v a)(hv':TabAt B w v' b) :
  Calls prog 91 #[v,v',.func (.func 92) #[] #[]] w (RT (.int .i64 (Rn.cmpMem a b)) w):=by
 obtain⟨A,ca,rfl,X,Y,a3⟩:=hv;obtain⟨W,cb,rfl,Z,b2,q⟩:=hv';obtain⟨R,F⟩:=xJ (Rn.cmpMem a b);have N:=dJ F;rw[F];clear F
 go_enter func91, ntmps91
 go_wp2
 go_loop [13] (fun p=>∃k:Nat,k<=a.length/\k<=b.length/\p=.int .i64 (k:Int)/\Hid (Rn.cmpMem (a.drop k) (b.drop k)=R)) (fun p=>a.length-(intOf p).toNat)
 case atStart=>exact⟨0,vU _,vU _,rfl,N⟩
 case round =>
  obtain⟨k,S,T,rfl,j⟩:=hrel;by_cases m:k<a.length
  ·obtain⟨x,t⟩:∃x,a[k]?=some x:=⟨_,vu m⟩;obtain⟨ba,oa,rfl,-,a4⟩:=a3 (by omega);obtain⟨u,c1,G⟩:=a4 k x t;have z:a.drop k=x::a.drop (k+1):=by rw[vM m];congr 1;rw[vu m]at t;injection t
   by_cases g:k<b.length
   ·obtain⟨y,C⟩:∃y,b[k]?=some y:=⟨_,vu g⟩;obtain⟨bb,ob,rfl,-,H⟩:=q (by omega);obtain⟨u',c2,r⟩:=H k y C;have I:b.drop k=y::b.drop (k+1):=by rw[vM g];congr 1;rw[vu g]at C;injection C
    have D:=dJ (lJ G r)
    have E:Hid ((if Rn.cmpInts x y=0 then Rn.cmpMem (a.drop (k+1)) (b.drop (k+1)) else Rn.cmpInts x y)=R):=by show _=_;have:=j.out;rw[z,I,Rn.cmpMem]at this;exact this
    obtain⟨d,K⟩:=xJ (Rn.cmpInts x y);rw[K]at D E;obtain⟨L,O,rfl,-,-,-⟩:=G;obtain⟨M,Q,rfl,-,-,-⟩:=r;clear t C z I a3 a4 q H K j;by_cases J:d=0
    ·subst J;go_wp2_with (go_at_call 92;refine D.out.mono ?_;rintro e U ⟨rfl,rfl⟩);go_round;case rel=>exact⟨k+1,by omega,by omega,by go_num,by (show _=_);have:=E.out;simpa using this⟩
     case measure=>simp[intOf];omega
    ·have l:Hid (R=d):=by show _=_;have:=E.out;rw[yD J]at this;exact this.symm
     go_wp2_with (go_at_call 92;refine D.out.mono ?_;rintro e U ⟨rfl,rfl⟩);go_ret;exact⟨de l.out.symm,rfl⟩
   ·have l:Hid (R=1):=by
     show _=_;have:=j.out;rw[z,vQ (show b.length<=k by omega),Rn.cmpMem]at this;exact this.symm
    obtain⟨L,O,rfl,-,-,-⟩:=G;clear t z a3 a4 q j;go_wp2;go_ret;exact⟨de l.out.symm,rfl⟩
  ·obtain rfl:k=a.length:=by omega
   by_cases g:a.length<b.length
   ·have l:Hid (R=-1):=by
     show _=_;have:=j.out;rw[vQ (vV a.length),vM g,Rn.cmpMem]at this;exact this.symm
    clear a3 q j;go_wp2;go_ret;exact⟨de l.out.symm,rfl⟩
   ·have l:Hid (R=0):=by
     show _=_;have:=j.out;rw[vQ (vV a.length),vQ (show b.length<=a.length by omega),Rn.cmpMem]at this;exact this.symm
    clear a3 q j;go_wp2;go_ret;exact⟨de l.out.symm,rfl⟩

import Derived.Test.YtjkajidbdmbbaaaGreatN01
import Derived.Test.YtjkajidbdmbbaaaGreatN22
set_option linter.unusedSimpArgs false
set_option linter.unusedVariables false
set_option maxRecDepth 100000
set_option maxHeartbeats 16000000
open Go.Proofs.Tryz
namespace Go.Proofs.YtjkajidbdmbbaaaGreat
open Ref Rn Wd Ir Rf
open Go.RowKit
variable {B:Nat}{v v':Value}{w:World}
theorem ko (x y:Int)(w:World):Calls prog 120 #[.int .i64 x,.int .i64 y] w (RT (.int .i64 (CU x y)) w):=Tryz.cmp_Compare_int x y w
theorem iY (x:Int)(w:World):Calls prog 151 #[.int .u32 x] w (RT (.bool false) w):=by
 go_enter func151, ntmps151
 go_wp2;go_ret;exact⟨rfl,rfl⟩
theorem tr (x y:Int)(w:World):Calls prog 122 #[.int .u32 x,.int .u32 y] w (RT (.int .i64 (CU x y)) w):=by
 have H:Hid (∀z,z=CU x y->Ending.returned (.int .i64 z)=.returned (.int .i64 (CU x y))):=fun z h=>by rw[h]
 have m:∀z,((x<y/\z=-1)\/(¬x<y/\y<x/\z=1)\/(¬x<y/\¬y<x/\z=0))->z=CU x y:=by
  intro z h;unfold CU;rcases h with ⟨g,d⟩|⟨g,d,l⟩|⟨g,d,l⟩
  ·rw[yr g];exact d
  ·rw[yt g,yr d];exact l
  ·rw[yt g,yt d];exact l
 have j:=dJ m;clear m;rcases Int.lt_trichotomy x y with h|h|h
 ·have d:¬y<x:=by omega
  go_enter func122, ntmps122
  go_wp2_with (go_at_call 151;refine(iY _ _).mono ?_;rintro e p ⟨rfl,rfl⟩);go_ret;exact⟨H.out _ (j.out _ (.inl ⟨h,rfl⟩)),rfl⟩
 ·subst h
  go_enter func122, ntmps122
  go_wp2_with (go_at_call 151;refine(iY _ _).mono ?_;rintro e p ⟨rfl,rfl⟩);go_ret;exact⟨H.out _ (j.out _ (.inr (.inr ⟨by omega,by omega,rfl⟩))),rfl⟩
 ·have d:¬x<y:=by omega
  go_enter func122, ntmps122
  go_wp2_with (go_at_call 151;refine(iY _ _).mono ?_;rintro e p ⟨rfl,rfl⟩);go_ret;exact⟨H.out _ (j.out _ (.inr (.inl ⟨d,h,rfl⟩))),rfl⟩
theorem mB {a b:List Int}(hv:IntsAt B w v a)(hv':IntsAt B w v' b) :
  Calls prog 124 #[v,v'] w (RT (.int .i64 (AL a b)) w):=by
 obtain⟨A,ca,rfl,N,O,a3⟩:=hv;obtain⟨M,Y,rfl,Q,S,q⟩:=hv';obtain⟨R,D⟩:=xJ (AL a b);have I:=dJ D;rw[D];clear D
 go_enter func124, ntmps124
 go_wp2
 go_loop [11] (fun p=>∃k:Nat,k<=a.length/\k<=b.length/\p=.int .i64 (k:Int)/\Hid (AL (a.drop k) (b.drop k)=R)) (fun p=>a.length-(intOf p).toNat)
 case atStart=>exact⟨0,yI _,yI _,rfl,I⟩
 case round =>
  obtain⟨k,J,K,rfl,j⟩:=hrel;by_cases m:k<a.length
  ·obtain⟨x,r⟩:∃x,a[k]?=some x:=⟨_,xR m⟩;obtain⟨T,Z,rfl,-,a4⟩:=a3 (by omega);have W:=a4 k x r;have t:a.drop k=x::a.drop (k+1):=by rw[yg m];congr 1;rw[xR m]at r;injection r
   by_cases g:k<b.length
   ·obtain⟨y,u⟩:∃y,b[k]?=some y:=⟨_,xR g⟩;obtain⟨U,ob,rfl,-,E⟩:=q (by omega);have X:=E k y u;have F:b.drop k=y::b.drop (k+1):=by rw[yg g];congr 1;rw[xR g]at u;injection u
    have z:=dJ (ko x y w)
    have C:Hid ((if CU x y=0 then AL (a.drop (k+1)) (b.drop (k+1)) else CU x y)=R):=by show _=_;have:=j.out;rw[t,F,AL]at this;exact this
    obtain⟨d,H⟩:=xJ (CU x y);rw[H]at z C;clear r u t F a3 a4 q E H j;by_cases G:d=0
    ·subst G;go_wp2_with (go_at_call 120;refine z.out.mono ?_;rintro e L ⟨rfl,rfl⟩);go_round;case rel=>exact⟨k+1,by omega,by omega,by go_num,by (show _=_);have:=C.out;simpa using this⟩
     case measure=>simp[intOf];omega
    ·have l:Hid (R=d):=by show _=_;have:=C.out;rw[yt G]at this;exact this.symm
     go_wp2_with (go_at_call 120;refine z.out.mono ?_;rintro e L ⟨rfl,rfl⟩);go_ret;exact⟨dg l.out.symm,rfl⟩
   ·have l:Hid (R=1):=by
     show _=_;have:=j.out;rw[t,yj (show b.length<=k by omega),AL]at this;exact this.symm
    clear r t a3 a4 q j;go_wp2;go_ret;exact⟨dg l.out.symm,rfl⟩
  ·obtain rfl:k=a.length:=by omega
   by_cases g:a.length<b.length
   ·have l:Hid (R=-1):=by
     show _=_;have:=j.out;rw[yj (yJ a.length),yg g,AL]at this;exact this.symm
    clear a3 q j;go_wp2;go_ret;exact⟨dg l.out.symm,rfl⟩
   ·have l:Hid (R=0):=by
     show _=_;have:=j.out;rw[yj (yJ a.length),yj (show b.length<=a.length by omega),AL]at this;exact this.symm
    clear a3 q j;go_wp2;go_ret;exact⟨dg l.out.symm,rfl⟩
theorem oN {a b:List (List Int)}(hv:TabAt B w v a)(hv':TabAt B w v' b) :
  Calls prog 123 #[v,v',.func (.func 124) #[] #[]] w (RT (.int .i64 (Da a b)) w):=by
 obtain⟨A,ca,rfl,X,Y,a3⟩:=hv;obtain⟨W,cb,rfl,Z,b2,q⟩:=hv';obtain⟨R,F⟩:=xJ (Da a b);have N:=dJ F;rw[F];clear F
 go_enter func123, ntmps123
 go_wp2
 go_loop [13] (fun p=>∃k:Nat,k<=a.length/\k<=b.length/\p=.int .i64 (k:Int)/\Hid (Da (a.drop k) (b.drop k)=R)) (fun p=>a.length-(intOf p).toNat)
 case atStart=>exact⟨0,yI _,yI _,rfl,N⟩
 case round =>
  obtain⟨k,S,T,rfl,j⟩:=hrel;by_cases m:k<a.length
  ·obtain⟨x,t⟩:∃x,a[k]?=some x:=⟨_,xR m⟩;obtain⟨ba,oa,rfl,-,a4⟩:=a3 (by omega);obtain⟨u,c1,G⟩:=a4 k x t;have z:a.drop k=x::a.drop (k+1):=by rw[yg m];congr 1;rw[xR m]at t;injection t
   by_cases g:k<b.length
   ·obtain⟨y,C⟩:∃y,b[k]?=some y:=⟨_,xR g⟩;obtain⟨bb,ob,rfl,-,H⟩:=q (by omega);obtain⟨u',c2,r⟩:=H k y C;have I:b.drop k=y::b.drop (k+1):=by rw[yg g];congr 1;rw[xR g]at C;injection C
    have D:=dJ (mB G r)
    have E:Hid ((if AL x y=0 then Da (a.drop (k+1)) (b.drop (k+1)) else AL x y)=R):=by show _=_;have:=j.out;rw[z,I,Da]at this;exact this
    obtain⟨d,K⟩:=xJ (AL x y);rw[K]at D E;obtain⟨L,O,rfl,-,-,-⟩:=G;obtain⟨M,Q,rfl,-,-,-⟩:=r;clear t C z I a3 a4 q H K j;by_cases J:d=0
    ·subst J;go_wp2_with (go_at_call 124;refine D.out.mono ?_;rintro e U ⟨rfl,rfl⟩);go_round;case rel=>exact⟨k+1,by omega,by omega,by go_num,by (show _=_);have:=E.out;simpa using this⟩
     case measure=>simp[intOf];omega
    ·have l:Hid (R=d):=by show _=_;have:=E.out;rw[yt J]at this;exact this.symm
     go_wp2_with (go_at_call 124;refine D.out.mono ?_;rintro e U ⟨rfl,rfl⟩);go_ret;exact⟨dg l.out.symm,rfl⟩
   ·have l:Hid (R=1):=by
     show _=_;have:=j.out;rw[z,yj (show b.length<=k by omega),Da]at this;exact this.symm
    obtain⟨L,O,rfl,-,-,-⟩:=G;clear t z a3 a4 q j;go_wp2;go_ret;exact⟨dg l.out.symm,rfl⟩
  ·obtain rfl:k=a.length:=by omega
   by_cases g:a.length<b.length
   ·have l:Hid (R=-1):=by
     show _=_;have:=j.out;rw[yj (yJ a.length),yg g,Da]at this;exact this.symm
    clear a3 q j;go_wp2;go_ret;exact⟨dg l.out.symm,rfl⟩
   ·have l:Hid (R=0):=by
     show _=_;have:=j.out;rw[yj (yJ a.length),yj (show b.length<=a.length by omega),Da]at this;exact this.symm
    clear a3 q j;go_wp2;go_ret;exact⟨dg l.out.symm,rfl⟩

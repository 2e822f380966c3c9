import Derived.Test.YtjkajidbdmbbaaaGreatN01
import Derived.Test.YtjkajidbdmbbaaaGreatProg
set_option linter.unusedSimpArgs false
set_option linter.unusedVariables false
set_option maxRecDepth 100000
set_option maxHeartbeats 16000000
open Go.Proofs.Tryz
namespace Go.Proofs.YtjkajidbdmbbaaaGreat
open Go.RowKit
def fI (x:Ins):Bool:=decide (40<x.args.length) || decide (40<x.to.length)
def eH (l:List Ins):Bool:=decide (100<l.length) || l.any fI
def eV (f:Fn):Bool:=decide (20<f.p.length) || decide (20<f.s.length) || decide (40<f.b.length) || f.b.any eH
theorem tc (v:Value)(f:Fn)(w:World)(hf:FnAt w.heap.size w v f) :
  Calls prog 16 #[v] w fun e w'=>e=.returned (.bool (eV f))/\Below w.heap.size w w':=by
 obtain⟨vp,vs,vb,rfl,hp,hs,hb⟩:=hf;obtain⟨T,X,rfl,aj,ak,J⟩:=hp;obtain⟨U,cs,rfl,al,am,K⟩:=hs;obtain⟨S,W,rfl,ac,ad,B⟩:=hb;clear J K;have m:Below w.heap.size w (w.alloc (.cells #[.slice T f.p.length X,.int .i64 f.ret,.slice U f.s.length cs,.slice S f.b.length W] 36)):=(Below.refl _ _).alloc (yJ _) _
 go_enter func16, ntmps16
 go_wp2
 ·go_ret;exact⟨cZ (by simp[eV];omega),m⟩
 ·have F:Hid (eV f=f.b.any eH):=by
   show eV f=_;have Y:¬20<f.p.length:=by omega
   have Z:¬20<f.s.length:=by omega
   have h3:¬40<f.b.length:=by omega
   simp[eV,Y,Z,h3]
  go_loop [3,4] (fun b _=>∃k:Nat,k<=f.b.length/\b=.int .i64 k/\Hid (f.b.any eH=(f.b.drop k).any eH)) (fun b _=>f.b.length-(intOf b).toNat)
  case atStart=>exact⟨0,yI _,rfl,rfl⟩
  case round =>
   obtain⟨k,hk,rfl,p⟩:=hrel;rcases hr:f.b.drop k with _|⟨l,r⟩
   ·have I:=dw hr hk;subst I;clear hr;go_wp2;go_ret;exact⟨cZ (by rw[F.out,p.out];simp),m⟩
   ·obtain⟨ai,hl,D⟩:=dr hr;obtain⟨bb,ob,rfl,ae,q⟩:=B (by omega);obtain⟨u,hu,L⟩:=q k l hl;obtain⟨Al,cl,rfl,ag,ah,C⟩:=L
    have E:Hid (f.b.any eH=(eH l || r.any eH)):=by show _=_;rw[p.out,hr];rfl
    have G:Hid (f.b.drop (k+1)=r):=D;clear hr hl D p q B;by_cases t:100<l.length
    ·go_wp2;go_ret;exact⟨cZ (by rw[F.out,E.out];simp[eH,t]),m⟩
    ·go_wp2
     go_loop [4] (fun i=>∃j:Nat,j<=l.length/\i=.int .i64 j/\Hid (eH l=(l.drop j).any fI)) (fun i=>l.length-(intOf i).toNat)
     case atStart=>exact⟨0,yI _,rfl,by show _=_;simp[eH,t]⟩
     case round =>
      obtain⟨j,hj,rfl,d⟩:=hrel;rcases hr2:l.drop j with _|⟨x,R⟩
      ·have H:=dw hr2 hj;subst H;clear hr2;go_wp2;go_round;case rel=>exact⟨k+1,by omega,by go_num,by show _=_;rw[E.out,d.out,G.out];simp⟩
       case measure=>simp[intOf];omega
      ·obtain⟨O,Q,y⟩:=dr hr2;obtain⟨bl,ol,rfl,af,g⟩:=C (by omega);obtain⟨va,vt,_,_,_,ha,_,ht,M,N⟩:=g j x Q;obtain⟨Aa,ca,rfl,aa,ab,_⟩:=M;obtain⟨At,ct,rfl,an,ao,_⟩:=N
       have z:Hid (eH l=(fI x || R.any fI)):=by show _=_;rw[d.out,hr2];rfl
       have A:Hid (l.drop (j+1)=R):=y;clear hr2 Q y d g C;go_wp2
       ·go_ret
        exact⟨cZ (by rw[F.out,E.out,z.out];have h:40<x.args.length\/40<x.to.length:=by omega
                     simp[fI,h]),m⟩
       ·go_round
        case rel=>exact⟨j+1,by omega,by go_num,by show _=_;rw[z.out,A.out];have h:¬40<x.args.length/\¬40<x.to.length:=by omega
                                                  simp[fI,h]⟩
        case measure=>simp[intOf];omega
       ·go_ret
        exact⟨cZ (by rw[F.out,E.out,z.out];have h:40<x.args.length\/40<x.to.length:=by omega
                     simp[fI,h]),m⟩
 ·go_ret
  exact⟨cZ (by have h:20<f.s.length:=by omega
               simp[eV,h]),m⟩
 ·go_ret
  exact⟨cZ (by have h:20<f.p.length:=by omega
               simp[eV,h]),m⟩

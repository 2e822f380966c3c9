/- Parts. -/
import Derived.Test.YthfhamagopbgcaaGreatL01
import Derived.Test.YthfhamagopbgcaaGreatProg
set_option linter.unusedSimpArgs false
set_option linter.unusedVariables false
set_option maxRecDepth 100000
set_option maxHeartbeats 16000000
open Go.Proofs.Tryz
namespace Go.Proofs.YthfhamagopbgcaaGreat
open Go.RowKit
def ft (x:Ins):Bool:=decide (40<x.args.length) || decide (40<x.to.length)
def eE (l:List Ins):Bool:=decide (100<l.length) || l.any ft
def dV (f:Fn):Bool:=decide (20<f.params.length) || decide (20<f.slots.length) || decide (40<f.blocks.length) || f.blocks.any eE
theorem ri (v:Value)(f:Fn)(w:World)(hf:FnAt w.heap.size w v f) :
  Calls prog 36 #[v] w fun e w'=>e=.returned (.bool (dV f))/\Below w.heap.size w w':=by
 obtain⟨vp,vs,vb,rfl,hp,hs,hb⟩:=hf;obtain⟨T,X,rfl,aj,ak,J⟩:=hp;obtain⟨U,Y,rfl,al,am,K⟩:=hs;obtain⟨S,W,rfl,ac,ad,B⟩:=hb;clear J K;have m:Below w.heap.size w (w.alloc (.cells #[.slice T f.params.length X,.int .i64 f.ret,.slice U f.slots.length Y,.slice S f.blocks.length W] 25)):=(Below.refl _ _).alloc (vV _) _
 go_enter func36, ntmps36
 go_wp2
 ·go_ret;exact⟨cZ (by simp[dV];omega),m⟩
 ·have F:Hid (dV f=f.blocks.any eE):=by
   show dV f=_;have Z:¬20<f.params.length:=by omega
   have h2:¬20<f.slots.length:=by omega
   have h3:¬40<f.blocks.length:=by omega
   simp[dV,Z,h2,h3]
  go_loop [3,4] (fun b _=>∃k:Nat,k<=f.blocks.length/\b=.int .i64 k/\Hid (f.blocks.any eE=(f.blocks.drop k).any eE)) (fun b _=>f.blocks.length-(intOf b).toNat)
  case atStart=>exact⟨0,vU _,rfl,rfl⟩
  case round =>
   obtain⟨k,hk,rfl,p⟩:=hrel;rcases hr:f.blocks.drop k with _|⟨l,r⟩
   ·have I:=dv hr hk;subst I;clear hr;go_wp2;go_ret;exact⟨cZ (by rw[F.out,p.out];simp),m⟩
   ·obtain⟨ai,hl,D⟩:=dq hr;obtain⟨bb,ob,rfl,ae,q⟩:=B (by omega);obtain⟨u,hu,L⟩:=q k l hl;obtain⟨Al,cl,rfl,ag,ah,C⟩:=L
    have E:Hid (f.blocks.any eE=(eE l || r.any eE)):=by show _=_;rw[p.out,hr];rfl
    have G:Hid (f.blocks.drop (k+1)=r):=D;clear hr hl D p q B;by_cases t:100<l.length
    ·go_wp2;go_ret;exact⟨cZ (by rw[F.out,E.out];simp[eE,t]),m⟩
    ·go_wp2
     go_loop [4] (fun i=>∃j:Nat,j<=l.length/\i=.int .i64 j/\Hid (eE l=(l.drop j).any ft)) (fun i=>l.length-(intOf i).toNat)
     case atStart=>exact⟨0,vU _,rfl,by show _=_;simp[eE,t]⟩
     case round =>
      obtain⟨j,hj,rfl,d⟩:=hrel;rcases hr2:l.drop j with _|⟨x,R⟩
      ·have H:=dv hr2 hj;subst H;clear hr2;go_wp2;go_round;case rel=>exact⟨k+1,by omega,by go_num,by show _=_;rw[E.out,d.out,G.out];simp⟩
       case measure=>simp[intOf];omega
      ·obtain⟨O,Q,y⟩:=dq hr2;obtain⟨bl,ol,rfl,af,g⟩:=C (by omega);obtain⟨va,vt,_,_,_,ha,_,ht,M,N⟩:=g j x Q;obtain⟨Aa,ca,rfl,aa,ab,_⟩:=M;obtain⟨At,ct,rfl,an,ao,_⟩:=N
       have z:Hid (eE l=(ft x || R.any ft)):=by show _=_;rw[d.out,hr2];rfl
       have A:Hid (l.drop (j+1)=R):=y;clear hr2 Q y d g C;go_wp2
       ·go_ret
        exact⟨cZ (by rw[F.out,E.out,z.out];have h:40<x.args.length\/40<x.to.length:=by omega
                     simp[ft,h]),m⟩
       ·go_round
        case rel=>exact⟨j+1,by omega,by go_num,by show _=_;rw[z.out,A.out];have h:¬40<x.args.length/\¬40<x.to.length:=by omega
                                                  simp[ft,h]⟩
        case measure=>simp[intOf];omega
       ·go_ret
        exact⟨cZ (by rw[F.out,E.out,z.out];have h:40<x.args.length\/40<x.to.length:=by omega
                     simp[ft,h]),m⟩
 ·go_ret
  exact⟨cZ (by have h:20<f.slots.length:=by omega
               simp[dV,h]),m⟩
 ·go_ret
  exact⟨cZ (by have h:20<f.params.length:=by omega
               simp[dV,h]),m⟩

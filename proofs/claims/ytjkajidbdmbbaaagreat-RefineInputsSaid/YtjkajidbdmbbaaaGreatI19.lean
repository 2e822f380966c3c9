/- Parts. -/
import Derived.Test.YtjkajidbdmbbaaaGreatI01
import Derived.Test.YtjkajidbdmbbaaaGreatProg
set_option linter.unusedSimpArgs false
set_option linter.unusedVariables false
set_option maxRecDepth 100000
set_option maxHeartbeats 16000000
open Go.Proofs.Tryz
namespace Go.Proofs.YtjkajidbdmbbaaaGreat
open Go.RowKit
def eK (x:Ins):Bool:=decide (40<x.args.length) || decide (40<x.to.length)
def dS (l:List Ins):Bool:=decide (100<l.length) || l.any eK
def dR (f:Fn):Bool:=decide (20<f.params.length) || decide (20<f.slots.length) || decide (40<f.blocks.length) || f.blocks.any dS
theorem pg (v:Value)(f:Fn)(w:World)(hf:FnAt w.heap.size w v f) :
  Calls prog 16 #[v] w fun e w'=>e=.returned (.bool (dR f))/\Below w.heap.size w w':=by
 obtain⟨vp,vs,vb,rfl,hp,hs,hb⟩:=hf;obtain⟨U,Y,rfl,aj,ak,J⟩:=hp;obtain⟨W,cs,rfl,al,am,K⟩:=hs;obtain⟨T,X,rfl,ac,ad,B⟩:=hb;clear J K;have m:Below w.heap.size w (w.alloc (.cells #[.slice U f.params.length Y,.int .i64 f.ret,.slice W f.slots.length cs,.slice T f.blocks.length X] 36)):=(Below.refl _ _).alloc (tS _) _
 go_enter func16, ntmps16
 go_wp2
 ·go_ret;exact⟨cZ (by simp[dR];omega),m⟩
 ·have F:Hid (dR f=f.blocks.any dS):=by
   show dR f=_;have Z:¬20<f.params.length:=by omega
   have h2:¬20<f.slots.length:=by omega
   have h3:¬40<f.blocks.length:=by omega
   simp[dR,Z,h2,h3]
  go_loop [3,4] (fun b _=>∃k:Nat,k<=f.blocks.length/\b=.int .i64 k/\Hid (f.blocks.any dS=(f.blocks.drop k).any dS)) (fun b _=>f.blocks.length-(intOf b).toNat)
  case atStart=>exact⟨0,tR _,rfl,rfl⟩
  case round =>
   obtain⟨k,hk,rfl,p⟩:=hrel;rcases hr:f.blocks.drop k with _|⟨l,r⟩
   ·have I:=dm hr hk;subst I;clear hr;go_wp2;go_ret;exact⟨cZ (by rw[F.out,p.out];simp),m⟩
   ·obtain⟨ai,O,D⟩:=di hr;obtain⟨bb,ob,rfl,ae,q⟩:=B (by omega);obtain⟨u,hu,L⟩:=q k l O;obtain⟨Al,cl,rfl,ag,ah,C⟩:=L
    have E:Hid (f.blocks.any dS=(dS l || r.any dS)):=by show _=_;rw[p.out,hr];rfl
    have G:Hid (f.blocks.drop (k+1)=r):=D;clear hr O D p q B;by_cases t:100<l.length
    ·go_wp2;go_ret;exact⟨cZ (by rw[F.out,E.out];simp[dS,t]),m⟩
    ·go_wp2
     go_loop [4] (fun i=>∃j:Nat,j<=l.length/\i=.int .i64 j/\Hid (dS l=(l.drop j).any eK)) (fun i=>l.length-(intOf i).toNat)
     case atStart=>exact⟨0,tR _,rfl,by show _=_;simp[dS,t]⟩
     case round =>
      obtain⟨j,hj,rfl,d⟩:=hrel;rcases hr2:l.drop j with _|⟨x,S⟩
      ·have H:=dm hr2 hj;subst H;clear hr2;go_wp2;go_round;case rel=>exact⟨k+1,by omega,by go_num,by show _=_;rw[E.out,d.out,G.out];simp⟩
       case measure=>simp[intOf];omega
      ·obtain⟨Q,R,y⟩:=di hr2;obtain⟨bl,ol,rfl,af,g⟩:=C (by omega);obtain⟨va,vt,_,_,_,ha,_,ht,M,N⟩:=g j x R;obtain⟨Aa,ca,rfl,aa,ab,_⟩:=M;obtain⟨At,ct,rfl,an,ao,_⟩:=N
       have z:Hid (dS l=(eK x || S.any eK)):=by show _=_;rw[d.out,hr2];rfl
       have A:Hid (l.drop (j+1)=S):=y;clear hr2 R y d g C;go_wp2
       ·go_ret
        exact⟨cZ (by rw[F.out,E.out,z.out];have h:40<x.args.length\/40<x.to.length:=by omega
                     simp[eK,h]),m⟩
       ·go_round
        case rel=>exact⟨j+1,by omega,by go_num,by show _=_;rw[z.out,A.out];have h:¬40<x.args.length/\¬40<x.to.length:=by omega
                                                  simp[eK,h]⟩
        case measure=>simp[intOf];omega
       ·go_ret
        exact⟨cZ (by rw[F.out,E.out,z.out];have h:40<x.args.length\/40<x.to.length:=by omega
                     simp[eK,h]),m⟩
 ·go_ret
  exact⟨cZ (by have h:20<f.slots.length:=by omega
               simp[dR,h]),m⟩
 ·go_ret
  exact⟨cZ (by have h:20<f.params.length:=by omega
               simp[dR,h]),m⟩

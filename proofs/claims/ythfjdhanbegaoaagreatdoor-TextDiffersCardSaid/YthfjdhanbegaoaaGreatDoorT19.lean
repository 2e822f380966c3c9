/- Parts. -/
import Derived.Test.YthfjdhanbegaoaaGreatDoorT01
import Derived.Test.YthfjdhanbegaoaaGreatDoorProg
set_option linter.unusedSimpArgs false
set_option linter.unusedVariables false
set_option maxRecDepth 100000
set_option maxHeartbeats 16000000
open Go.Proofs.Tryz
namespace Go.Proofs.YthfjdhanbegaoaaGreatDoor
open Go.RowKit
def eS (x:Ins):Bool:=decide (40<x.args.length) || decide (40<x.to.length)
def ee (l:List Ins):Bool:=decide (100<l.length) || l.any eS
def dA (f:Fn):Bool:=decide (20<f.params.length) || decide (20<f.slots.length) || decide (40<f.blocks.length) || f.blocks.any ee
theorem mO (v:Value)(f:Fn)(w:World)(hf:FnAt w.heap.size w v f) :
  Calls prog 10 #[v] w fun e w'=>e=.returned (.bool (dA f))/\Below w.heap.size w w':=by
 obtain⟨vp,vs,vb,rfl,hp,hs,hb⟩:=hf;obtain⟨V,Y,rfl,aj,ak,J⟩:=hp;obtain⟨W,Z,rfl,al,am,K⟩:=hs;obtain⟨U,X,rfl,ac,ad,B⟩:=hb;clear J K;have m:Below w.heap.size w (w.alloc (.cells #[.slice V f.params.length Y,.int .i64 f.ret,.slice W f.slots.length Z,.slice U f.blocks.length X] 25)):=(Below.refl _ _).alloc (pS _) _
 go_enter func10, ntmps10
 go_wp2
 ·go_ret;exact⟨dc (by simp[dA];omega),m⟩
 ·have F:Hid (dA f=f.blocks.any ee):=by
   show dA f=_;have h1:¬20<f.params.length:=by omega
   have h2:¬20<f.slots.length:=by omega
   have h3:¬40<f.blocks.length:=by omega
   simp[dA,h1,h2,h3]
  go_loop [3,4] (fun b _=>∃k:Nat,k<=f.blocks.length/\b=.int .i64 k/\Hid (f.blocks.any ee=(f.blocks.drop k).any ee)) (fun b _=>f.blocks.length-(intOf b).toNat)
  case atStart=>exact⟨0,pR _,rfl,rfl⟩
  case round =>
   obtain⟨k,hk,rfl,p⟩:=hrel;rcases hr:f.blocks.drop k with _|⟨l,r⟩
   ·have I:=dm hr hk;subst I;clear hr;go_wp2;go_ret;exact⟨dc (by rw[F.out,p.out];simp),m⟩
   ·obtain⟨ai,O,D⟩:=dj hr;obtain⟨bb,ob,rfl,ae,q⟩:=B (by omega);obtain⟨u,hu,L⟩:=q k l O;obtain⟨Al,cl,rfl,ag,ah,C⟩:=L
    have E:Hid (f.blocks.any ee=(ee l || r.any ee)):=by show _=_;rw[p.out,hr];rfl
    have G:Hid (f.blocks.drop (k+1)=r):=D;clear hr O D p q B;by_cases t:100<l.length
    ·go_wp2;go_ret;exact⟨dc (by rw[F.out,E.out];simp[ee,t]),m⟩
    ·go_wp2
     go_loop [4] (fun i=>∃j:Nat,j<=l.length/\i=.int .i64 j/\Hid (ee l=(l.drop j).any eS)) (fun i=>l.length-(intOf i).toNat)
     case atStart=>exact⟨0,pR _,rfl,by show _=_;simp[ee,t]⟩
     case round =>
      obtain⟨j,hj,rfl,d⟩:=hrel;rcases hr2:l.drop j with _|⟨x,T⟩
      ·have H:=dm hr2 hj;subst H;clear hr2;go_wp2;go_round;case rel=>exact⟨k+1,by omega,by go_num,by show _=_;rw[E.out,d.out,G.out];simp⟩
       case measure=>simp[intOf];omega
      ·obtain⟨Q,R,y⟩:=dj hr2;obtain⟨bl,ol,rfl,af,g⟩:=C (by omega);obtain⟨va,vt,_,_,_,ha,_,ht,M,N⟩:=g j x R;obtain⟨Aa,ca,rfl,aa,ab,_⟩:=M;obtain⟨At,ct,rfl,an,ao,_⟩:=N
       have z:Hid (ee l=(eS x || T.any eS)):=by show _=_;rw[d.out,hr2];rfl
       have A:Hid (l.drop (j+1)=T):=y;clear hr2 R y d g C;go_wp2
       ·go_ret
        exact⟨dc (by rw[F.out,E.out,z.out];have h:40<x.args.length\/40<x.to.length:=by omega
                     simp[eS,h]),m⟩
       ·go_round
        case rel=>exact⟨j+1,by omega,by go_num,by show _=_;rw[z.out,A.out];have h:¬40<x.args.length/\¬40<x.to.length:=by omega
                                                  simp[eS,h]⟩
        case measure=>simp[intOf];omega
       ·go_ret
        exact⟨dc (by rw[F.out,E.out,z.out];have h:40<x.args.length\/40<x.to.length:=by omega
                     simp[eS,h]),m⟩
 ·go_ret
  exact⟨dc (by have h:20<f.slots.length:=by omega
               simp[dA,h]),m⟩
 ·go_ret
  exact⟨dc (by have h:20<f.params.length:=by omega
               simp[dA,h]),m⟩

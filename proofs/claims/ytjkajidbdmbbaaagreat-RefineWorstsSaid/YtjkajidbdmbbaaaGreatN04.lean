import Derived.Test.YtjkajidbdmbbaaaGreatN03
import Derived.Shelf.Abstract
import Derived.Deep.WholeRow
set_option linter.unusedSimpArgs false
set_option linter.unusedVariables false
set_option maxRecDepth 100000
set_option maxHeartbeats 16000000
open Go.Proofs.Tryz
namespace Go.Proofs.YtjkajidbdmbbaaaGreat
open Ref Rn Wd Ir Rf
variable {but t z:Int}{g:List (List Int)}{out s si:List Bool}{l:List Int}{a b i v:Nat}
section
open Go.RowKit
namespace Ir
def Dy {α:Type}(p:α->Bool):List α->Nat->Int
 | [],_=>-1
 | x::r,k=>if p x then k else Dy p r (k+1)
theorem I5 {α:Type}(p:α->Bool):∀(l:List α)(k:Nat),decide (0<=Dy p l k)=l.any p
 | [],k=>by simp[Dy]
 | x::r,k=>by
  rw[Dy]
  cases h:p x
  ·simp[h,I5 p r (k+1)]
  ·simp[h]
def OJ (n:Int):Bool:=decide (1<=n) && decide (n<=32)
def OM (n:Int):Bool:=decide (29<=n) && decide (n<=32)
def BE (n:Nat)(z:Int):Bool:=decide (z<0) || decide ((n:Int)<=z)
end Ir
theorem eo (n:Int)(w:World):Calls prog 90 #[.int .i64 n] w (RS (.bool (yS n)) w):=by
 go_enter func90, ntmps90
 go_wp2;all_goals go_ret
 all_goals exact⟨cZ (by grind [yS]),rfl⟩
theorem eS (n:Int)(w:World):Calls prog 146 #[.int .i64 n] w (RS (.bool (yS n)) w):=by
 go_enter func146, ntmps146
 go_wp2;all_goals go_ret
 all_goals exact⟨cZ (by grind [yS]),rfl⟩
theorem iW (n:Int)(w:World):Calls prog 96 #[.int .i64 n] w (RS (.bool (Cb n)) w):=by
 go_enter func96, ntmps96
 go_wp2;all_goals go_ret
 all_goals exact⟨cZ (by grind [Cb]),rfl⟩
theorem il (n:Int)(w:World):Calls prog 104 #[.int .i64 n] w (RS (.bool (Ea n)) w):=by
 go_enter func104, ntmps104
 go_wp2;all_goals go_ret
 all_goals exact⟨cZ (by grind [Ea]),rfl⟩
theorem mR (n:Int)(w:World):Calls prog 89 #[.int .i64 n] w (RS (.bool (!yS n)) w):=by
 have C:=dJ (eo n w)
 go_enter func89, ntmps89
 go_wp2_with (go_at_call 90;refine C.out.mono ?_;rintro e d ⟨rfl,rfl⟩);go_ret;exact⟨rfl,rfl⟩
theorem mS (n:Int)(w:World):Calls prog 91 #[.int .i64 n] w (RS (.bool (!BH n)) w):=by
 go_enter func91, ntmps91
 go_wp2;all_goals go_ret
 all_goals exact⟨cZ (by grind [BH]),rfl⟩
theorem qY (A:Option Addr)(n c:Nat)(w:World):Calls prog 162 #[.slice A n c] w (RS (.bool (decide (2<n))) w):=by
 by_cases h:2<n
 ·have d:(2:Int)<n:=by omega
  go_enter func162, ntmps162
  go_wp2;go_ret;exact⟨cZ (by simp[h]),rfl⟩
 ·have d:(n:Int)<=2:=by omega
  go_enter func162, ntmps162
  go_wp2;go_ret;exact⟨cZ (by simp;omega),rfl⟩
theorem km (g:Nat)(lb:Array Value)(eg:∀args w,(callFunc g args).run prog w=.ok (.enter g args) w)(p:Int->Bool)(v:Value)(zs:List Int)(w:World)(hz:IntsAt w.heap.size w v zs)
  (hp:Hid (∀z∈zs,∀W,Gr w W->Calls prog g (#[.int .i64 z]++lb) W (RG (.bool (p z)) W))) :
  Calls prog 132 #[v,.func (.func g) #[] lb] w (RG (.int .i64 (Dy p zs 0)) w):=by
 obtain⟨A,c,rfl,N,O,E⟩:=hz
 go_enter func132, ntmps132
 go_wp2
 go_loopw [5,8] (fun _ i wr=>∃k:Nat,k<=zs.length/\i=.int .i64 k/\Gr w wr/\Hid (Dy p zs 0=Dy p (zs.drop k) k)) (fun _ i _=>zs.length-(intOf i).toNat)
 case atStart=>exact⟨0,yI _,rfl,yO _,rfl⟩
 case round =>
  obtain⟨k,J,rfl,j,d⟩:=hrel;obtain⟨D,rfl⟩:∃D:World,D=wr:=⟨_,rfl⟩;rcases hr:zs.drop k with _|⟨z,r⟩
  ·have B:=dw hr J;have H:Hid (Dy p zs 0=-1):=by show _=_;rw[d.out,hr];rfl
   subst B;clear hr d;go_wp2;go_ret;exact⟨dg (by rw[H.out]),j⟩
  ·obtain⟨K,C,m⟩:=dr hr;obtain⟨b,o,rfl,I,F⟩:=E (by omega);have L:=(j.cell _ _ I).trans (F k z C);have t:Hid (Dy p zs 0=if p z then (k:Int) else Dy p r (k+1)):=by show _=_;rw[d.out,hr];rfl
   have u:Hid (zs.drop (k+1)=r):=m;have l:=dJ (hp.out z (xT C) D j);clear hr C m d F E;obtain⟨q,G⟩:=xJ (p z);rw[G]at t l;clear G
   cases q with
   | true =>
    go_wp2_with (go_at_fn g;refine l.out.mono ?_;rintro e M ⟨rfl,y⟩);go_ret;exact⟨dg (by rw[t.out];simp),j.trans y⟩
   | false =>
    go_wp2_with (go_at_fn g;refine l.out.mono ?_;rintro e M ⟨rfl,y⟩);go_roundw;case rel=>exact⟨k+1,by omega,by go_num,j.trans y,by (show _=_;rw[t.out,u.out];simp)⟩
    case measure=>simp[intOf];omega
theorem dM (g:Nat)(lb:Array Value)(eg:∀args w,(callFunc g args).run prog w=.ok (.enter g args) w)(p:Int->Bool)(v:Value)(zs:List Int)(w:World)(hz:IntsAt w.heap.size w v zs)
  (hp:Hid (∀z∈zs,∀W,Gr w W->Calls prog g (#[.int .i64 z]++lb) W (RG (.bool (p z)) W))) :
  Calls prog 88 #[v,.func (.func g) #[] lb] w (RG (.bool (zs.any p)) w):=by
 have C:=dJ (km g lb eg p v zs w hz hp);have d:Hid (decide (0<=Dy p zs 0)=zs.any p):=I5 p zs 0;obtain⟨i,l⟩:=xJ (Dy p zs 0);rw[l]at C d;clear l hp hz eg;by_cases h:0<=i
 ·go_enter func88, ntmps88
  go_wp2_with (go_at_call 132;refine C.out.mono ?_;rintro e m ⟨rfl,j⟩);go_ret;exact⟨cZ (by rw[<-d.out];try simp[h]),j⟩
 ·go_enter func88, ntmps88
  go_wp2_with (go_at_call 132;refine C.out.mono ?_;rintro e m ⟨rfl,j⟩);go_ret;exact⟨cZ (by rw[<-d.out];try simp[h]),j⟩
namespace Ir
def GF (f:Fn):Bool:=f.p.all yS && decide (0<=f.ret) && decide (f.ret<=32) && f.s.all BH
theorem Kx {α:Type}(p:α->Bool)(l:List α):(l.any fun z=>!p z)=!l.all p:=by
 induction l with
 | nil=>rfl
 | cons a r ih=>simp[ih,Bool.not_and]
end Ir
theorem un (v:Value)(f:Fn)(w:World)(hf:FnAt w.heap.size w v f)(hs:f.b.length<=100000) :
  Calls prog 60 #[v] w (RG (.int .i64 (AX f.b)) w):=by
 obtain⟨vp,vs,vb,rfl,J,q,D⟩:=hf;obtain⟨y,C,rfl,K,L,-⟩:=J;obtain⟨z,cs,rfl,M,O,-⟩:=q;obtain⟨t,B,rfl,E,F,j⟩:=D;have m:Gr w (w.alloc (.cells #[.slice y f.p.length C,.int .i64 f.ret,.slice z f.s.length cs,.slice t f.b.length B] 36)):=(yO _).alloc _
 go_enter func60, ntmps60
 go_wp2
 go_loop [3,5,9] (fun s _ b=>∃k N:Nat,k<=f.b.length/\b=.int .i64 k/\s=.int .i64 N/\N<=17592186044416*k/\Hid (N=AX (f.b.take k))) (fun _ _ b=>f.b.length-(intOf b).toNat)
 case atStart=>exact⟨0,0,yI _,rfl,rfl,by omega,by show _=_;simp[AX]⟩
 case round =>
  obtain⟨k,N,T,rfl,rfl,hN,g⟩:=hrel;by_cases p:k<f.b.length
  ·obtain⟨R,W,rfl,G,d⟩:=j (by omega);obtain⟨l,hl⟩:∃l,f.b[k]?=some l:=⟨f.b[k],by simp[p]⟩;obtain⟨u,U,r⟩:=d k l hl;obtain⟨Q,S,rfl,H,I,-⟩:=r
   have A:Hid (AX (f.b.take (k+1))=AX (f.b.take k)+l.length):=by show _=_;rw[FF _ _ _ hl]
   clear hl d j;go_wp2;go_round;case rel=>exact⟨k+1,N+l.length,by omega,by go_num,by go_num,by omega,by show _=_;rw[A.out,g.out]⟩
   case measure=>simp[intOf];omega
  ·obtain rfl:k=f.b.length:=by omega
   go_wp2;go_ret;exact⟨dg (by rw[g.out,yv]),m⟩
theorem pa (v:Value)(f:Fn)(w:World)(hf:FnAt w.heap.size w v f) :
  Calls prog 61 #[v] w (RG (.bool (GF f)) w):=by
 obtain⟨vp,vs,vb,rfl,G,H,L⟩:=hf
 have m:Hid (∀l,Gr w l->Calls prog 88 #[vp,.func (.func 89) #[] #[]] l (RG (.bool (!f.p.all yS)) l)):=by intro l j;rw[<-Kx];exact dM _ _ (enters_of func89 (by kernel_rfl) rfl) _ _ _ _ (G.gr j) (fun z _ W _=>(mR z W).mono fun _ _ h=>⟨h.1,h.2 ▸ yO _⟩)
 have p:Hid (∀l,Gr w l->Calls prog 88 #[vs,.func (.func 91) #[] #[]] l (RG (.bool (!f.s.all BH)) l)):=by intro l j;rw[<-Kx];exact dM _ _ (enters_of func91 (by kernel_rfl) rfl) _ _ _ _ (H.gr j) (fun z _ W _=>(mS z W).mono fun _ _ h=>⟨h.1,h.2 ▸ yO _⟩)
 obtain⟨A,C,rfl,O,Q,-⟩:=G;obtain⟨B,cs,rfl,R,S,-⟩:=H;obtain⟨E,F,rfl,M,N,-⟩:=L;obtain⟨W,D⟩:=xJ (w.alloc (.cells #[.slice A f.p.length C,.int .i64 f.ret,.slice B f.s.length cs,.slice E f.b.length F] 36));have d:Gr w W:=by rw[<-D];exact(yO w).alloc _
 have K:W.heap.size=w.heap.size+1:=by rw[<-D];simp
 have u:∀o,W.cell? ⟨w.heap.size,o,none⟩=(#[.slice A f.p.length C,.int .i64 f.ret,.slice B f.s.length cs,.slice E f.b.length F]:Array Value)[o]?:=by intro o;rw[<-D];exact yo _ _ _ _ _ _ (heap_alloc_new w _)
 have B0:Hid (∀w',Gr W w'->w'.cell? ⟨w.heap.size,0,none⟩=some (.slice A f.p.length C)/\w'.cell? ⟨w.heap.size,1,none⟩=some (.int .i64 f.ret)/\w'.cell? ⟨w.heap.size,2,none⟩=some (.slice B f.s.length cs)) :=
  fun w' g=>⟨(g.cell w.heap.size 0 (by omega)).trans (u 0),(g.cell w.heap.size 1 (by omega)).trans (u 1),(g.cell w.heap.size 2 (by omega)).trans (u 2)⟩
 obtain⟨k0,k1,k2⟩:=B0.out W (yO _);clear u;have q:Hid (GF f=(f.p.all yS && decide (0<=f.ret) && decide (f.ret<=32) && f.s.all BH)):=by show _=_;rfl
 obtain⟨T,r⟩:=xJ (f.p.all yS);obtain⟨sa,t⟩:=xJ (f.s.all BH);rw[r]at m q;rw[t]at p q;clear r t
 go_enter func61, ntmps61
 cases T with
 | false =>
  go_wp2_with (go_at_call 88;first|(refine(m.out _ d).mono ?_;rintro e l ⟨rfl,j⟩));go_ret;exact⟨cZ (by rw[q.out];simp),d.trans j⟩
 | true =>
  by_cases y:f.ret<0\/32<f.ret
  ·have I:Hid (GF f=false):=by show _=_;rw[q.out];rcases y with y|y<;>simp<;>omega
   go_wp2_with (go_at_call 88;first|(refine(m.out _ d).mono ?_;rintro e l ⟨rfl,j⟩;obtain⟨U,X,Y⟩:=B0.out _ j));all_goals first|omega|(go_ret;exact⟨cZ (by rw[I.out]),d.trans j⟩)
  ·have Z:0<=f.ret:=by omega
   have r2:f.ret<=32:=by omega
   clear y;go_wp2_with (go_at_call 88;first|(refine(p.out _ (d.trans j)).mono ?_;rintro e w2 ⟨rfl,J⟩)|(refine(m.out _ d).mono ?_;rintro e l ⟨rfl,j⟩;obtain⟨U,X,Y⟩:=B0.out _ j));go_ret;exact⟨cZ (by rw[q.out];simp[Z,r2]),d.trans (j.trans J)⟩
def Ir.ir (op:Int):Int :=
 if op=0 then 1 else if op=14 then 3 else if op=15 then 4 else if op=16\/op=17 then 5 else if op=18 then 6 else if op=19\/op=20 then 7 else if op=21 then 8
 else if op=22\/op=23 then 9 else if op=24 then 10 else if op=25 then 11 else if op=26 then 12 else if op=27 then 13 else if op=28 then 14 else if op=29 then 15
 else if op=30 then 16 else if op=31 then 17 else if op=32 then 18 else if 1<=op/\op<=13 then 2 else 0
def Ir.Ei (op:Int):Int :=
 if op=1\/op=2\/op=3\/op=11 then 3 else if op=4\/op=6\/op=12\/op=13 then 4 else if op=25 then 8 else 0
theorem iL (n:Int)(w:World):Calls prog 103 #[.int .i64 n] w (RS (.int .i64 (ir n)) w):=by
 go_enter func103, ntmps103
 go_wp2;all_goals go_ret
 all_goals exact⟨dg (by grind [ir]),rfl⟩
theorem mN (n:Int)(w:World):Calls prog 94 #[.int .i64 n] w (RS (.int .i64 (Ei n)) w):=by
 go_enter func94, ntmps94
 go_wp2;all_goals go_ret
 all_goals exact⟨dg (by grind [Ei]),rfl⟩
theorem qg (v:Value)(zs:List Int)(n:Int)(w:World)(hz:IntsAt w.heap.size w v zs) :
  Calls prog 127 #[v,.int .i64 n] w (RS (.int .i64 (Dy (fun z=>decide (z=n)) zs 0)) w):=by
 obtain⟨A,c,rfl,E,F,p⟩:=hz
 go_enter func127, ntmps127
 go_wp2
 go_loop [5,8] (fun _ i=>∃k:Nat,k<=zs.length/\i=.int .i64 k/\Hid (Dy (fun z=>decide (z=n)) zs 0=Dy (fun z=>decide (z=n)) (zs.drop k) k)) (fun _ i=>zs.length-(intOf i).toNat)
 case atStart=>exact⟨0,yI _,rfl,rfl⟩
 case round =>
  obtain⟨k,B,rfl,d⟩:=hrel;rcases hr:zs.drop k with _|⟨z,r⟩
  ·have l:=dw hr B;have u:Hid (Dy (fun z=>decide (z=n)) zs 0=-1):=by show _=_;rw[d.out,hr];rfl
   subst l;clear hr d;go_wp2;go_ret;exact⟨dg (by rw[u.out]),rfl⟩
  ·obtain⟨C,t,g⟩:=dr hr;obtain⟨b,o,rfl,G,q⟩:=p (by omega);have D:=q k z t;have m:Hid (Dy (fun z=>decide (z=n)) zs 0=if z=n then (k:Int) else Dy (fun z=>decide (z=n)) r (k+1)):=by show _=_;rw[d.out,hr];simp[Dy]
   have j:Hid (zs.drop (k+1)=r):=g;clear hr t g d q p;by_cases h:z=n
   ·subst h;go_wp2;go_ret;exact⟨dg (by rw[m.out];simp),rfl⟩
   ·have y:(n == z)=false:=by simp;exact fun e=>h e.symm
    go_wp2;go_round;case rel=>exact⟨k+1,by omega,by go_num,by (show _=_;rw[m.out,j.out];simp[h])⟩
    case measure=>simp[intOf];omega
theorem fB (v:Value)(zs:List Int)(n:Int)(w:World)(hz:IntsAt w.heap.size w v zs) :
  Calls prog 85 #[v,.int .i64 n] w (RS (.bool (En zs n)) w):=by
 have C:=dJ (qg v zs n w hz);have d:Hid (decide (0<=Dy (fun z=>decide (z=n)) zs 0)=En zs n):=I5 _ zs 0;obtain⟨i,g⟩:∃i,Dy (fun z=>decide (z=n)) zs 0=i:=⟨_,rfl⟩;rw[g]at C d;clear g hz;by_cases h:0<=i
 ·go_enter func85, ntmps85
  go_wp2_with (go_at_call 127;refine C.out.mono ?_;rintro e j ⟨rfl,rfl⟩);go_ret;exact⟨cZ (by rw[<-d.out];try simp[h]),rfl⟩
 ·go_enter func85, ntmps85
  go_wp2_with (go_at_call 127;refine C.out.mono ?_;rintro e j ⟨rfl,rfl⟩);go_ret;exact⟨cZ (by rw[<-d.out];try simp[h]),rfl⟩
namespace Ir
def DK (g:List (List Int)):Int :=
 if g.length<1\/10<g.length then 3 else if g.any (fun l=>decide (2<l.length))=true then 3 else if g.any (fun l=>l.any (BE g.length))=true then 1 else 0
def Jm (g:List (List Int))(l:List Int):Int:=if DK g=0 then (if l.any (BE g.length)=true then 4 else 0) else DK g
end Ir
theorem jt (g:Nat)(lb:Array Value)(eg:∀args w,(callFunc g args).run prog w=.ok (.enter g args) w)(p:List Int->Bool)(v:Value)(t:List (List Int))(w:World)(hz:TabAt w.heap.size w v t)
  (hp:Hid (∀l∈t,∀W u,Gr w W->IntsAt W.heap.size W u l->Calls prog g (#[u]++lb) W (RG (.bool (p l)) W))) :
  Calls prog 185 #[v,.func (.func g) #[] lb] w (RG (.int .i64 (Dy p t 0)) w):=by
 obtain⟨A,c,rfl,S,T,H⟩:=hz
 go_enter func185, ntmps185
 go_wp2
 go_loopw [5,8] (fun _ i wr=>∃k:Nat,k<=t.length/\i=.int .i64 k/\Gr w wr/\Hid (Dy p t 0=Dy p (t.drop k) k)) (fun _ i _=>t.length-(intOf i).toNat)
 case atStart=>exact⟨0,yI _,rfl,yO _,rfl⟩
 case round =>
  obtain⟨k,N,rfl,j,d⟩:=hrel;obtain⟨G,rfl⟩:∃G:World,G=wr:=⟨_,rfl⟩;rcases hr:t.drop k with _|⟨l,r⟩
  ·have E:=dw hr N;have L:Hid (Dy p t 0=-1):=by show _=_;rw[d.out,hr];rfl
   subst E;clear hr d;go_wp2;go_ret;exact⟨dg (by rw[L.out]),j⟩
  ·obtain⟨O,F,y⟩:=dr hr;obtain⟨b,o,rfl,M,I⟩:=H (by omega);obtain⟨u,K,z⟩:=I k l F;have Q:=(j.cell _ _ M).trans K;have B:Hid (Dy p t 0=if p l then (k:Int) else Dy p r (k+1)):=by show _=_;rw[d.out,hr];rfl
   have C:Hid (t.drop (k+1)=r):=y;have m:=dJ (hp.out l (xT F) G u j (z.gr j));clear hr F y d I H K z;obtain⟨q,J⟩:=xJ (p l);rw[J]at B m;clear J
   cases q with
   | true =>
    go_wp2_with (go_at_fn g;refine m.out.mono ?_;rintro e R ⟨rfl,D⟩);go_ret;exact⟨dg (by rw[B.out];simp),j.trans D⟩
   | false =>
    go_wp2_with (go_at_fn g;refine m.out.mono ?_;rintro e R ⟨rfl,D⟩);go_roundw;case rel=>exact⟨k+1,by omega,by go_num,j.trans D,by (show _=_;rw[B.out,C.out];simp)⟩
    case measure=>simp[intOf];omega
theorem gS (g:Nat)(lb:Array Value)(eg:∀args w,(callFunc g args).run prog w=.ok (.enter g args) w)(p:List Int->Bool)(v:Value)(t:List (List Int))(w:World)(hz:TabAt w.heap.size w v t)
  (hp:Hid (∀l∈t,∀W u,Gr w W->IntsAt W.heap.size W u l->Calls prog g (#[u]++lb) W (RG (.bool (p l)) W))) :
  Calls prog 161 #[v,.func (.func g) #[] lb] w (RG (.bool (t.any p)) w):=by
 have C:=dJ (jt g lb eg p v t w hz hp);have d:Hid (decide (0<=Dy p t 0)=t.any p):=I5 p t 0;obtain⟨i,m⟩:=xJ (Dy p t 0);rw[m]at C d;clear m hp hz eg;by_cases h:0<=i
 ·go_enter func161, ntmps161
  go_wp2_with (go_at_call 185;refine C.out.mono ?_;rintro e q ⟨rfl,j⟩);go_ret;exact⟨cZ (by rw[<-d.out];try simp[h]),j⟩
 ·go_enter func161, ntmps161
  go_wp2_with (go_at_call 185;refine C.out.mono ?_;rintro e q ⟨rfl,j⟩);go_ret;exact⟨cZ (by rw[<-d.out];try simp[h]),j⟩
theorem qZ (n:Int)(B:Nat)(A:Option Addr)(len c:Nat)(w:World)(hc:w.cell? ⟨B,0,none⟩=some (.slice A len c)) :
  Calls prog 163 #[.int .i64 n,.pointer (some ⟨B,0,none⟩)] w (RS (.bool (BE len n)) w):=by
 go_enter func163, ntmps163
 go_wp2;all_goals go_ret
 all_goals exact⟨cZ (by unfold BE;grind),rfl⟩
theorem pu (n:Int)(B:Nat)(A:Option Addr)(len c:Nat)(w:World)(hc:w.cell? ⟨B,0,none⟩=some (.slice A len c)) :
  Calls prog 160 #[.int .i64 n,.pointer (some ⟨B,0,none⟩)] w (RS (.bool (BE len n)) w):=by
 go_enter func160, ntmps160
 go_wp2;all_goals go_ret
 all_goals exact⟨cZ (by unfold BE;grind),rfl⟩
theorem nP (v:Value)(g:List (List Int))(w:World)(hg:TabAt w.heap.size w v g) :
  Calls prog 136 #[v] w (RG (.int .i64 (DK g)) w):=by
 have D:=hg;obtain⟨A,c,rfl,h1,h2,O⟩:=hg;by_cases R:g.length<1\/10<g.length
 ·have j:Gr w (w.alloc (.cells #[.slice A g.length c] 25)):=(yO _).alloc _;have HV:Hid (DK g=3):=by show _=_;unfold DK;rw[yr R]
  clear D O
  go_enter func136, ntmps136
  go_wp2;all_goals first|omega|(go_ret;exact⟨dg (by rw[HV.out]),j⟩)
 obtain⟨W,Q⟩:=xJ (w.alloc (.cells #[.slice A g.length c] 25));have j:Gr w W:=by rw[<-Q];exact(yO w).alloc _
 have aa:W.heap.size=w.heap.size+1:=by rw[<-Q];simp
 have X:W.cell? ⟨w.heap.size,0,none⟩=some (.slice A g.length c):=by rw[<-Q];exact yo _ _ _ _ _ _ (heap_alloc_new w _)
 have B0:Hid (∀w',Gr W w'->w'.cell? ⟨w.heap.size,0,none⟩=some (.slice A g.length c)):=fun w' q=>(q.cell w.heap.size 0 (by omega)).trans X;have t:Hid (DK g=if g.any (fun l=>decide (2<l.length))=true then 3 else if g.any (fun l=>l.any (BE g.length))=true then 1 else 0):=by show _=_;unfold DK;rw[yt R]
 have B:Hid (Calls prog 161 #[.slice A g.length c,.func (.func 162) #[] #[]] W (RG (.bool (g.any fun l=>decide (2<l.length))) W)) :=
  gS _ _ (enters_of func162 (by kernel_rfl) rfl) _ _ _ _ (D.gr j) (fun l _ K u _ E=>by
    obtain⟨Z,c',rfl,-,-,-⟩:=E
    exact(qY Z l.length c' K).mono fun _ _ h=>⟨h.1,h.2 ▸ yO _⟩)
 have L:Hid (∀l y u,Gr W y->IntsAt y.heap.size y u l->Calls prog 88 #[u,.func (.func 163) #[] #[.pointer (some ⟨w.heap.size,0,none⟩)]] y (RG (.bool (l.any (BE g.length))) y)) :=
  fun l y u p E=>dM _ _ (enters_of func163 (by kernel_rfl) rfl) _ _ _ _ E (fun z _ K F =>
    (qZ z w.heap.size A g.length c K (B0.out K (p.trans F))).mono fun _ _ h=>⟨h.1,h.2 ▸ yO _⟩)
 have z1:(1:Int)<=g.length:=by omega
 have z2:(g.length:Int)<=10:=by omega
 obtain⟨bg,og,rfl,S,G⟩:=O (by omega);have HG:=dJ G;obtain⟨q,H⟩:∃q,(g.any fun l=>decide (2<l.length))=q:=⟨_,rfl⟩;rw[H]at t B;clear D O G R H
 go_enter func136, ntmps136
 cases q with
 | true =>
  go_wp2_with (go_at_call 161;refine B.out.mono ?_;rintro e y ⟨rfl,p⟩);go_ret;exact⟨dg (by rw[t.out];simp),j.trans p⟩
 | false =>
  go_wp2_with (go_at_call 161;refine B.out.mono ?_;rintro e y ⟨rfl,p⟩;have b1:=B0.out _ p);clear X
  go_loopw [4,19] (fun _ i wr=>∃k:Nat,k<=g.length/\i=.int .i64 k/\Gr y wr/\Hid ((g.any fun l=>l.any (BE g.length))=((g.drop k).any fun l=>l.any (BE g.length)))) (fun _ i _=>g.length-(intOf i).toNat)
  case atStart=>exact⟨0,yI _,rfl,yO _,rfl⟩
  case round =>
   obtain⟨k,hk,rfl,m,d⟩:=hrel;obtain⟨U,rfl⟩:∃U:World,U=wr:=⟨_,rfl⟩;have b2:=B0.out _ (p.trans m);clear b1;rcases hr:g.drop k with _|⟨l,r⟩
   ·have T:=dw hr hk;have HE:Hid (DK g=0):=by show _=_;rw[t.out,d.out,hr];simp
    subst T;clear hr d;go_wp2;go_ret;exact⟨dg (by rw[HE.out]),j.trans (p.trans m)⟩
   ·obtain⟨ab,Y,I⟩:=dr hr;obtain⟨u,E,J⟩:=HG.out k l Y;have ac:=((j.trans (p.trans m)).cell _ _ S).trans E;have M:Hid ((g.any fun l=>l.any (BE g.length))=(l.any (BE g.length) || r.any fun l=>l.any (BE g.length))):=by show _=_;rw[d.out,hr];rfl
    have N:Hid (g.drop (k+1)=r):=I;have C:=dJ (L.out l U u (p.trans m) (J.gr (j.trans (p.trans m))));clear hr Y I d E J;obtain⟨q,H⟩:=xJ (l.any (BE g.length));rw[H]at M C;clear H
    cases q with
    | true =>
     go_wp2_with (go_at_call 88;refine C.out.mono ?_;rintro e w2 ⟨rfl,F⟩);go_ret;exact⟨dg (by rw[t.out,M.out];simp),j.trans (p.trans (m.trans F))⟩
    | false =>
     go_wp2_with (go_at_call 88;refine C.out.mono ?_;rintro e w2 ⟨rfl,F⟩);go_roundw;case rel=>exact⟨k+1,by omega,by go_num,m.trans F,by (show _=_;rw[M.out,N.out];simp)⟩
     case measure=>simp[intOf];omega
theorem lO (v u:Value)(g:List (List Int))(l:List Int)(w:World)(hg:TabAt w.heap.size w v g)(hu:IntsAt w.heap.size w u l) :
  Calls prog 133 #[v,u] w (RG (.int .i64 (Jm g l)) w):=by
 have B:=hg;obtain⟨A,c,rfl,K,L,-⟩:=hg;obtain⟨W,D⟩:=xJ (w.alloc (.cells #[.slice A g.length c] 25));have j:Gr w W:=by rw[<-D];exact(yO w).alloc _
 have I:W.heap.size=w.heap.size+1:=by rw[<-D];simp
 have H:W.cell? ⟨w.heap.size,0,none⟩=some (.slice A g.length c):=by rw[<-D];exact yo _ _ _ _ _ _ (heap_alloc_new w _)
 have B0:Hid (∀w',Gr W w'->w'.cell? ⟨w.heap.size,0,none⟩=some (.slice A g.length c)):=fun w' q=>(q.cell w.heap.size 0 (by omega)).trans H;have m:=dJ (nP _ g W (B.gr j))
 have p:Hid (∀r,Gr W r->Calls prog 88 #[u,.func (.func 160) #[] #[.pointer (some ⟨w.heap.size,0,none⟩)]] r (RG (.bool (l.any (BE g.length))) r)) :=
  fun r d=>dM _ _ (enters_of func160 (by kernel_rfl) rfl) _ _ _ _ (hu.gr (j.trans d)) (fun z _ W' y =>
    (pu z w.heap.size A g.length c W' (B0.out W' (d.trans y))).mono fun _ _ h=>⟨h.1,h.2 ▸ yO _⟩)
 have t:Hid (Jm g l=if DK g=0 then (if l.any (BE g.length)=true then 4 else 0) else DK g):=by show _=_;rfl
 obtain⟨e,F⟩:=xJ (DK g);obtain⟨q,G⟩:=xJ (l.any (BE g.length));rw[F]at m t;rw[G]at p t;clear B hu F G;by_cases C:e=0
 ·subst C
  go_enter func133, ntmps133
  cases q with
  | true =>
   go_wp2_with (first|(go_at_call 136;refine m.out.mono ?_;rintro e r ⟨rfl,d⟩;have E:=B0.out _ d)|(go_at_call 88;refine(p.out _ d).mono ?_;rintro e J ⟨rfl,y⟩));go_ret;exact⟨dg (by rw[t.out];simp),j.trans (d.trans y)⟩
  | false =>
   go_wp2_with (first|(go_at_call 136;refine m.out.mono ?_;rintro e r ⟨rfl,d⟩;have E:=B0.out _ d)|(go_at_call 88;refine(p.out _ d).mono ?_;rintro e J ⟨rfl,y⟩));go_ret;exact⟨dg (by rw[t.out];simp),j.trans (d.trans y)⟩
 ·have M:(e == 0)=false:=by simp[C]
  go_enter func133, ntmps133
  go_wp2_with (go_at_call 136;refine m.out.mono ?_;rintro e r ⟨rfl,d⟩;have E:=B0.out _ d);go_ret;exact⟨dg (by rw[t.out,yt C]),j.trans d⟩
def nv (bs:List Bool):Value:=.agg (bs.map Value.bool).toArray
theorem ten {α:Type}(bs:List α)(h:bs.length=10):∃a b c d e f g i j k,bs=[a,b,c,d,e,f,g,i,j,k]:=by
 match bs,h with
 | [a,b,c,d,e,f,g,i,j,k],_=>exact⟨a,b,c,d,e,f,g,i,j,k,rfl⟩
namespace Ir
def Du:List Bool->Nat->List Int
 | [],_=>[]
 | b::r,k=>if b then (k:Int)::Du r (k+1) else Du r (k+1)
def BK (g:List (List Int))(z:Int)(n:Nat):List Bool:=(List.range 10).map fun a=>decide (a<n) && En (g.getD a []) z
end Ir
theorem iq:∀(bs:List Bool)(k:Nat),(Du bs k).length<=bs.length
 | [],_=>yJ _
 | b::r,k=>by
  rw[Du];have:=iq r (k+1)
  split<;>simp<;>omega
theorem xt (a0 a1 a2 a3 a4 a5 a6 a7 a8 a9:Bool)(w:World):(Instr.index 163 (Value.agg #[Value.bool a0,Value.bool a1,Value.bool a2,Value.bool a3,Value.bool a4,Value.bool a5,Value.bool a6,Value.bool a7,Value.bool a8,Value.bool a9]) (.int .i64 0)).run prog w=.ok (.bool a0) w:=by kernel_rfl
theorem xu (a0 a1 a2 a3 a4 a5 a6 a7 a8 a9:Bool)(w:World):(Instr.index 163 (Value.agg #[Value.bool a0,Value.bool a1,Value.bool a2,Value.bool a3,Value.bool a4,Value.bool a5,Value.bool a6,Value.bool a7,Value.bool a8,Value.bool a9]) (.int .i64 1)).run prog w=.ok (.bool a1) w:=by kernel_rfl
theorem xv (a0 a1 a2 a3 a4 a5 a6 a7 a8 a9:Bool)(w:World):(Instr.index 163 (Value.agg #[Value.bool a0,Value.bool a1,Value.bool a2,Value.bool a3,Value.bool a4,Value.bool a5,Value.bool a6,Value.bool a7,Value.bool a8,Value.bool a9]) (.int .i64 2)).run prog w=.ok (.bool a2) w:=by kernel_rfl
theorem xw (a0 a1 a2 a3 a4 a5 a6 a7 a8 a9:Bool)(w:World):(Instr.index 163 (Value.agg #[Value.bool a0,Value.bool a1,Value.bool a2,Value.bool a3,Value.bool a4,Value.bool a5,Value.bool a6,Value.bool a7,Value.bool a8,Value.bool a9]) (.int .i64 3)).run prog w=.ok (.bool a3) w:=by kernel_rfl
theorem xx (a0 a1 a2 a3 a4 a5 a6 a7 a8 a9:Bool)(w:World):(Instr.index 163 (Value.agg #[Value.bool a0,Value.bool a1,Value.bool a2,Value.bool a3,Value.bool a4,Value.bool a5,Value.bool a6,Value.bool a7,Value.bool a8,Value.bool a9]) (.int .i64 4)).run prog w=.ok (.bool a4) w:=by kernel_rfl
theorem xy (a0 a1 a2 a3 a4 a5 a6 a7 a8 a9:Bool)(w:World):(Instr.index 163 (Value.agg #[Value.bool a0,Value.bool a1,Value.bool a2,Value.bool a3,Value.bool a4,Value.bool a5,Value.bool a6,Value.bool a7,Value.bool a8,Value.bool a9]) (.int .i64 5)).run prog w=.ok (.bool a5) w:=by kernel_rfl
theorem xz (a0 a1 a2 a3 a4 a5 a6 a7 a8 a9:Bool)(w:World):(Instr.index 163 (Value.agg #[Value.bool a0,Value.bool a1,Value.bool a2,Value.bool a3,Value.bool a4,Value.bool a5,Value.bool a6,Value.bool a7,Value.bool a8,Value.bool a9]) (.int .i64 6)).run prog w=.ok (.bool a6) w:=by kernel_rfl
theorem xA (a0 a1 a2 a3 a4 a5 a6 a7 a8 a9:Bool)(w:World):(Instr.index 163 (Value.agg #[Value.bool a0,Value.bool a1,Value.bool a2,Value.bool a3,Value.bool a4,Value.bool a5,Value.bool a6,Value.bool a7,Value.bool a8,Value.bool a9]) (.int .i64 7)).run prog w=.ok (.bool a7) w:=by kernel_rfl
theorem xB (a0 a1 a2 a3 a4 a5 a6 a7 a8 a9:Bool)(w:World):(Instr.index 163 (Value.agg #[Value.bool a0,Value.bool a1,Value.bool a2,Value.bool a3,Value.bool a4,Value.bool a5,Value.bool a6,Value.bool a7,Value.bool a8,Value.bool a9]) (.int .i64 8)).run prog w=.ok (.bool a8) w:=by kernel_rfl
theorem xC (a0 a1 a2 a3 a4 a5 a6 a7 a8 a9:Bool)(w:World):(Instr.index 163 (Value.agg #[Value.bool a0,Value.bool a1,Value.bool a2,Value.bool a3,Value.bool a4,Value.bool a5,Value.bool a6,Value.bool a7,Value.bool a8,Value.bool a9]) (.int .i64 9)).run prog w=.ok (.bool a9) w:=by kernel_rfl
theorem lG (bs:List Bool)(h:bs.length=10)(k:Nat)(b:Bool)(hb:bs[k]?=some b)(w:World):(Instr.index 163 (nv bs) (.int .i64 (k:Int))).run prog w=.ok (.bool b) w:=by
 obtain⟨a0,d,g,a3,a4,j,l,m,p,q,rfl⟩:=ten bs h;have r:k<10:=by have:=(xS.1 hb).1;simpa using this
 rcases (by omega:k=0\/k=1\/k=2\/k=3\/k=4\/k=5\/k=6\/k=7\/k=8\/k=9) with rfl|rfl|rfl|rfl|rfl|rfl|rfl|rfl|rfl|rfl;all_goals (simp at hb;subst hb)
 ·exact xt _ _ _ _ _ _ _ _ _ _ w
 ·exact xu _ _ _ _ _ _ _ _ _ _ w
 ·exact xv _ _ _ _ _ _ _ _ _ _ w
 ·exact xw _ _ _ _ _ _ _ _ _ _ w
 ·exact xx _ _ _ _ _ _ _ _ _ _ w
 ·exact xy _ _ _ _ _ _ _ _ _ _ w
 ·exact xz _ _ _ _ _ _ _ _ _ _ w
 ·exact xA _ _ _ _ _ _ _ _ _ _ w
 ·exact xB _ _ _ _ _ _ _ _ _ _ w
 ·exact xC _ _ _ _ _ _ _ _ _ _ w
theorem nT (bs:List Bool)(hb:bs.length=10)(w:World) :
  Calls prog 135 #[nv bs] w fun e w'=>∃v,e=.returned v/\IntsAt w'.heap.size w' v (Du bs 0)/\Gr w w':=by
 obtain⟨Z,S,H,I,J⟩:=info_parts dK;have O:Hid (∀k,k<10->∃b,bs[k]?=some b):=fun k T=>⟨bs[k]'(by omega),by simp[show k<bs.length by omega]⟩;have N:Hid (bs.length=10):=hb;have L:Hid (Du bs 0=[]++Du (bs.drop 0) 0):=rfl;obtain⟨out,g⟩:=xJ (Du bs 0);rw[g]at L ⊢;have q:Hid (out.length<=10):=by rw[<-g];show _<=10;have:=iq bs 0;omega
 clear g;obtain⟨a0,u,y,a3,a4,z,A,B,C,D,m⟩:=ten bs hb;have r:=dJ m;rw[show nv bs=.agg #[Value.bool a0,Value.bool u,Value.bool y,Value.bool a3,Value.bool a4,Value.bool z,Value.bool A,Value.bool B,Value.bool C,Value.bool D] by rw[m];rfl];clear m
 go_enter func135, ntmps135
 go_wp2
 have t:Hid (∀(k:Nat)(b:Bool),bs[k]?=some b->∀w,(Instr.index 163 (Value.agg #[Value.bool a0,Value.bool u,Value.bool y,Value.bool a3,Value.bool a4,Value.bool z,Value.bool A,Value.bool B,Value.bool C,Value.bool D]) (.int .i64 (k:Int))).run prog w=.ok (.bool b) w):=by intro k b h w;have:=lG bs hb k b h w;rw[r.out]at this;exact this
 clear hb;have E:Gr w (w.alloc (.cells #[Value.bool a0,Value.bool u,Value.bool y,Value.bool a3,Value.bool a4,Value.bool z,Value.bool A,Value.bool B,Value.bool C,Value.bool D] 163)):=(yO _).alloc _
 go_loopw [3,4,5,7] (fun s _ _ i wr=>∃(k:Nat)(done:List Int),k<=10/\i=.int .i64 k/\Own1 w.heap.size 3 wr s (done.map (Value.int .i64))/\Gr w wr/\Hid (out=done++Du (bs.drop k) k)) (fun _ _ _ i _=>10-(intOf i).toNat)
 case atStart=>exact⟨0,[],yI _,rfl,Own1.nil _ _ _,E,L⟩
 case round =>
  obtain⟨k,done,T,rfl,j,l,d⟩:=hrel;by_cases G:k<10
  ·obtain⟨b,hb⟩:=O.out k G;have Y:=t.out k b hb
   have M:Hid (out=done++(if b then (k:Int)::Du (bs.drop (k+1)) (k+1) else Du (bs.drop (k+1)) (k+1))):=by
    show _=_;rw[d.out]
    have e:bs.drop k=b::bs.drop (k+1):=by obtain⟨Q,R⟩:=xS.1 hb;rw[yg Q,R]
    rw[e];rfl
   have hlen:done.length<=10:=by have:=q.out;have:=congrArg List.length d.out;simp at this;omega
   clear hb d;have U:(k:Int)<10:=by omega
   cases b with
   | true =>
    go_wp2_with (at_builtin;refine wk underlying33 S H I J rfl (by omega) rfl _ _ rfl rfl j rfl rfl (by simp;omega) l.size ?_;intro W X w1 p F _);go_roundw;case rel=>exact⟨k+1,done++[(k:Int)],by omega,by go_num,by simpa using p,l.below F (yJ _),by (show _=_;rw[M.out];simp)⟩
    case measure=>simp[intOf];omega
   | false =>
    go_wp2;go_roundw;case rel=>exact⟨k+1,done,by omega,by go_num,j,l,by (show _=_;rw[M.out];simp)⟩
    case measure=>simp[intOf];omega
  ·obtain rfl:k=10:=by omega
   have K:Hid (out=done):=by show _=_;rw[d.out,show bs.drop 10=[] by simp[N.out]];simp[Du]
   clear d;go_wp2;go_ret;have hl:done.length<=10:=by have:=q.out;rw[K.out]at this;exact this
   exact⟨_,rfl,by rw[K.out];have:=j.ints (by omega);exact this,l⟩
def ARow (B hb:Nat)(w:World)(bs:List Bool):Prop:=w.ownsRow B 163 1 (.slice (some ⟨hb,0,none⟩) 10 10) 10 (bs.map Value.bool)
section
variable {B hb:Nat}{w w':World}{bs:List Bool}
theorem ARow.len (h:ARow B hb w bs):bs.length=10:=by have:=h.1;simpa using this
theorem ARow.cell (h:ARow B hb w bs)(j:Nat)(b:Bool)(hj:bs[j]?=some b):w.cell? ⟨hb,j,none⟩=some (.bool b):=by have hl:=h.len;have d:=(xS.1 hj).1;rw[World.ownsRow.cellAt h j (by omega),yc,hj];rfl
theorem ARow.frozen (h:ARow B hb w bs)(j:Nat):w.frozen? ⟨hb,j,none⟩=false:=World.ownsRow.frozenAt h j
theorem ARow.set_ (h:ARow B hb w bs)(j:Nat)(b:Bool):ARow B hb (w.setCell ⟨hb,j,none⟩ (.bool b)) (bs.set j b):=by have:=(World.ownsRow.stored h j (.bool b)).1;unfold ARow;rw[List.map_set];exact this
theorem yR (h:w.heap[hb]?=some (.cells #[.bool false,.bool false,.bool false,.bool false,.bool false,.bool false,.bool false,.bool false,.bool false,.bool false] 163 (0,0)))(hB:B<=hb):ARow B hb w (List.replicate 10 false) :=
 ⟨rfl,.inr ⟨hb,10,_,rfl,hB,h,yJ _,by simp[maxLen],rfl,rfl⟩⟩
theorem ARow.of (h:w.heap[hb]?=some (.cells (bs.map Value.bool).toArray 163 (0,0)))(hl:bs.length=10)(hB:B<=hb):ARow B hb w bs :=
 ⟨by simpa using hl,.inr ⟨hb,10,_,rfl,hB,h,yJ _,by simp[maxLen],by simpa using hl,by simp[yh,hl]⟩⟩
theorem ARow.other (h:ARow B hb w bs)(hh:w'.heap[hb]?=w.heap[hb]?):ARow B hb w' bs:=by
 have q:=h;obtain⟨hl,l⟩:=h;refine⟨hl,?_⟩;rcases l with ⟨h,e⟩|⟨g,j,d,e,m,p,r⟩
 ·exact .inl ⟨h,e⟩
 ·cases e;exact .inr ⟨hb,10,d,rfl,m,hh.trans p,r⟩
end
theorem kn (g:List (List Int))(z:Int)(n:Nat):(BK g z n).length=10:=by simp[BK]
theorem qA (g:List (List Int))(z:Int)(n:Nat)(l:List Int)(h:g[n]?=some l)(hn:n<10):(BK g z n).set n (En l z)=BK g z (n+1):=by
 apply List.ext_getElem?;intro i;unfold BK;rw[List.getElem?_set];by_cases e:n=i
 ·subst e;simp[hn,List.getD,h]
 ·by_cases j:i<10
  ·simp[e,j];by_cases d:i<n
   ·simp[d,show i<n+1 by omega]
   ·simp[d,show ¬i<n+1 by omega]
  ·simp[e,j]
theorem mQ (v:Value)(g:List (List Int))(z:Int)(w:World)(hg:TabAt w.heap.size w v g)(hn:g.length<=10) :
  Calls prog 134 #[v,.int .i64 z] w (RG (nv (BK g z g.length)) w):=by
 obtain⟨A,c,rfl,h1,h2,G⟩:=hg
 have q:∀W:World,W=(w.alloc (.cells #[.bool false,.bool false,.bool false,.bool false,.bool false,.bool false,.bool false,.bool false,.bool false,.bool false] 163)).alloc (.cells #[.bool false,.bool false,.bool false,.bool false,.bool false,.bool false,.bool false,.bool false,.bool false,.bool false] 163)->ARow w.heap.size w.heap.size W (List.replicate 10 false)/\ARow w.heap.size (w.heap.size+1) W (List.replicate 10 false)/\Gr w W:=by intro W S;subst S;exact⟨yR (heap_alloc2_old w _ _) (yJ _),yR (heap_alloc2_new w _ _) (by omega),((yO w).alloc _).alloc _⟩
 obtain⟨M,D,N⟩:=q _ rfl;clear q;have L:BK g z 0=List.replicate 10 false:=by simp[BK];rfl
 rw[<-L]at D;clear L
 go_enter func134, ntmps134
 go_wp2
 go_loopw [6,7,10] (fun _ _ i wr=>∃k:Nat,k<=g.length/\i=.int .i64 k/\ARow w.heap.size w.heap.size wr (List.replicate 10 false)/\ARow w.heap.size (w.heap.size+1) wr (BK g z k)/\Gr w wr) (fun _ _ i _=>g.length-(intOf i).toNat)
 case atStart=>exact⟨0,yI _,rfl,M,D,N⟩
 case round =>
  obtain⟨k,hk,rfl,d,j,m⟩:=hrel;obtain⟨E,rfl⟩:∃E:World,E=wr:=⟨_,rfl⟩;clear M D N;by_cases C:k<g.length
  ·obtain⟨b,o,rfl,T,H⟩:=G (by omega);obtain⟨l,hl⟩:∃l,g[k]?=some l:=⟨g[k],by simp[C]⟩;obtain⟨u,J,r⟩:=H k l hl;have X:=(m.cell _ _ T).trans J;have Q:=dJ (fB u l z E (r.gr m));have O:Hid ((BK g z k).set k (En l z)=BK g z (k+1)):=qA g z k l hl (by omega);obtain⟨y,K⟩:∃y,(BK g z k)[k]?=some y:=⟨(BK g z k)[k]'(by rw[kn];omega),by simp[show k<(BK g z k).length by rw[kn];omega]⟩;have B:=j.cell k y K;have U:=j.frozen k;have I:(k:Int)<10:=by omega
   clear hl H J r G K;go_wp2_with (go_at_call 85;refine Q.out.mono ?_;rintro e w' ⟨rfl,rfl⟩);go_roundw;case rel=>exact⟨k+1,by omega,by go_num,d.other (heap_setCell_other _ _ _ _ (by show w.heap.size≠w.heap.size+1;omega)),by rw[<-O.out];exact j.set_ k _,m.setCell (by simp) _⟩
   case measure=>simp[intOf];omega
  ·obtain rfl:k=g.length:=by omega
   have F:=dJ j.len;obtain⟨R,p⟩:=xJ (BK g z g.length);rw[p]at j F;have t:=dJ p;clear p;obtain⟨a0,Y,Z,a3,a4,a5,a6,a7,a8,a9,rfl⟩:=ten R F.out;have c0:=j.cell 0 _ rfl;have c1:=j.cell 1 _ rfl;have c2:=j.cell 2 _ rfl;have c3:=j.cell 3 _ rfl;have c4:=j.cell 4 _ rfl;have c5:=j.cell 5 _ rfl;have c6:=j.cell 6 _ rfl;have c7:=j.cell 7 _ rfl;have c8:=j.cell 8 _ rfl;have c9:=j.cell 9 _ rfl;have d0:=d.cell 0 _ rfl;have f0:=d.frozen 0;have d1:=d.cell 1 _ rfl;have f1:=d.frozen 1;have d2:=d.cell 2 _ rfl;have f2:=d.frozen 2;have d3:=d.cell 3 _ rfl;have f3:=d.frozen 3;have d4:=d.cell 4 _ rfl;have f4:=d.frozen 4;have d5:=d.cell 5 _ rfl;have f5:=d.frozen 5;have d6:=d.cell 6 _ rfl;have f6:=d.frozen 6;have d7:=d.cell 7 _ rfl;have f7:=d.frozen 7;have d8:=d.cell 8 _ rfl;have f8:=d.frozen 8;have d9:=d.cell 9 _ rfl;have f9:=d.frozen 9;go_wp2;refine yq (by simp[results,results134,go_sem, *];rfl) rfl ?_;refine⟨dv (by rw[t.out];rfl),?_⟩
   iterate 10 refine Gr.setCell ?_ (yJ w.heap.size) _
   exact m
theorem fH (g:List (List Int))(z:Int):∀(m b:Nat),g.length<=b+m->Du ((List.range' b m).map fun a=>decide (a<g.length) && En (g.getD a []) z) b=BF z (g.drop b) b
 | 0,b,h=>by rw[yj (by omega)];rfl
 | m+1,b,h=>by
  rw[List.range'_succ,List.map_cons,Du,fH g z m (b+1) (by omega)]
  by_cases hb:b<g.length
  ·rw[yg hb,BF]
   simp[hb,List.getD]
  ·rw[yj (by omega),yj (by omega)]
   simp[hb,BF]
theorem na (g:List (List Int))(z:Int)(h:g.length<=10):Du (BK g z g.length) 0=AC g z:=by unfold BK AC;rw[List.range_eq_range',fH g z 10 0 (by omega)];rfl
theorem fo (h:DK g=0):1<=g.length/\g.length<=10:=by
 unfold DK at h;split at h
 ·cases h
 ·omega
theorem rC (h:DK g=0)(h0:0<=z)(h1:z<g.length):Jm g [z]=0:=by unfold Jm;rw[yr h];simp[BE];omega
theorem rm (w:World)(z:Int):IntsAt (w.heap.size+1) (w.alloc (.cells #[.int .i64 z] 3)) (.slice (some ⟨w.heap.size,0,none⟩) 1 1) [z]:=by
 refine⟨_,_,rfl,yJ _,by simp,fun _=>⟨_,_,rfl,by omega,fun j y hy=>?_⟩⟩;have:j=0:=by have:=(xS.1 hy).1;simp at this;omega
 subst this;simp at hy;subst hy;exact yo _ _ _ _ _ _ (heap_alloc_new w _)
theorem oz (v:Value)(g:List (List Int))(z:Int)(w:World)(hg:TabAt w.heap.size w v g)(hv:DK g=0)(h0:0<=z)(h1:z<g.length) :
  Calls prog 98 #[v,.int .i64 z] w fun e w'=>∃u,e=.returned (.tuple #[u,.int .i64 0])/\IntsAt w'.heap.size w' u (AC g z)/\Gr w w':=by
 have A:=(fo hv).2;obtain⟨W,y⟩:=xJ (w.alloc (.cells #[.int .i64 z] 3));have l:Gr w W:=by rw[<-y];exact(yO w).alloc _
 have B:IntsAt W.heap.size W (.slice (some ⟨w.heap.size,0,none⟩) 1 1) [z]:=by rw[<-y];simpa using rm w z
 have m:=dJ (lO v _ g [z] W (hg.gr l) B);rw[rC hv h0 h1]at m;have p:Hid (∀j,Gr w j->Calls prog 134 #[v,.int .i64 z] j (RG (nv (BK g z g.length)) j)):=fun j r=>mQ v g z j (hg.gr r) A
 have q:Hid (∀j,Calls prog 135 #[nv (BK g z g.length)] j fun e w'=>∃v,e=.returned v/\IntsAt w'.heap.size w' v (AC g z)/\Gr j w'):=by rw[<-na g z A];exact fun j=>nT _ (kn _ _ _) j
 obtain⟨t,d⟩:=xJ (nv (BK g z g.length));rw[d]at p q;clear d hg hv B
 go_enter func98, ntmps98
 go_wp2_with (first|(go_at_call 133;refine m.out.mono ?_;rintro e j ⟨rfl,r⟩)|(go_at_call 134;refine(p.out _ (l.trans r)).mono ?_;rintro e F ⟨rfl,C⟩)|(go_at_call 135;refine(q.out _).mono ?_;rintro e G ⟨E,rfl,hl,D⟩))
 go_ret2;exact⟨E,rfl,hl,l.trans (r.trans (C.trans D))⟩
namespace Ir
inductive FI (g:List (List Int)) (but:Int):Nat->Nat->Prop
 | here (v:Nat) (h:(v:Int)≠but):FI g but v v
 | step (v i:Nat) (t:Int) (h:(v:Int)≠but) (ht:t∈g.getD v []) (hr:FI g but t.toNat i):FI g but v i
def JI (s:List Bool):Nat:=s.countP (fun b=>!b)
def Ij (g:List (List Int))(but:Int)(s s':List Bool)(v:Nat):Prop :=
 (∀i:Nat,s[i]?=some true->s'[i]?=some true)/\((v:Int)=but\/s'[v]?=some true)/\(∀i:Nat,s'[i]?=some true->s[i]?=some true\/FI g but v i) /\
  (∀i:Nat,s'[i]?=some true->s[i]?=some true\/∀t∈g.getD i [],t=but\/s'[t.toNat]?=some true)
def Je (g:List (List Int))(but:Int)(s1 si:List Bool)(l done:List Int):Prop :=
 (∀i:Nat,s1[i]?=some true->si[i]?=some true)/\(∀t∈done,t=but\/si[t.toNat]?=some true)/\(∀i:Nat,si[i]?=some true->s1[i]?=some true\/∃t∈l,FI g but t.toNat i) /\
  (∀i:Nat,si[i]?=some true->s1[i]?=some true\/∀t∈g.getD i [],t=but\/si[t.toNat]?=some true)
theorem Ij.same (g:List (List Int))(but:Int)(s:List Bool)(v:Nat)(h:(v:Int)=but\/s[v]?=some true):Ij g but s s v :=
 ⟨fun _ h=>h,h,fun _ h=>.inl h,fun _ h=>.inl h⟩
theorem Je.start (g:List (List Int))(but:Int)(s1:List Bool)(l:List Int):Je g but s1 s1 l [] :=
 ⟨fun _ h=>h,fun t ht=>by simp at ht,fun _ h=>.inl h,fun _ h=>.inl h⟩
theorem Je.more {s1 sj:List Bool}{done:List Int}(h:Je g but s1 si l done)(hv:Ij g but si sj t.toNat)(ht0:0<=t)(ht:t∈l):Je g but s1 sj l (done++[t]):=by
 obtain⟨p,q,a3,a4⟩:=h;obtain⟨m,r,y,z⟩:=hv;refine⟨fun i j=>m i (p i j),?_,?_,?_⟩
 ·intro u d;rcases yz.1 d with d|d
  ·rcases q u d with h|h
   ·exact .inl h
   ·exact .inr (m _ h)
  ·simp at d;subst d;rcases r with h|h
   ·left;omega
   ·exact .inr h
 ·intro i j;rcases y i j with h|h
  ·exact a3 i h
  ·exact .inr ⟨t,ht,h⟩
 ·intro i j;rcases z i j with h|h
  ·rcases a4 i h with h|h
   ·exact .inl h
   ·exact .inr fun u d=>(h u d).imp_right (m _)
  ·exact .inr h
theorem Je.done (h:Je g but (s.set v true) si l l)(hl:g[v]?=some l)(hv:(v:Int)≠but)(hlt:v<s.length):Ij g but s si v:=by
 obtain⟨p,q,a3,a4⟩:=h;have r:(s.set v true)[v]?=some true:=by simp[hlt]
 have m:∀i:Nat,(s.set v true)[i]?=some true->i=v\/s[i]?=some true:=by
  intro i d;rw[List.getElem?_set]at d;split at d
  ·left;omega
  ·exact .inr d
 have j:g.getD v []=l:=by simp[List.getD,hl]
 refine⟨fun i d=>p i ?_,.inr (p v r),?_,?_⟩
 ·rw[List.getElem?_set];split
  ·rename_i e;subst e;simp
  ·exact d
 ·intro i d;rcases a3 i d with h|⟨t,u,h⟩
  ·rcases m i h with rfl|h
   ·exact .inr (.here _ hv)
   ·exact .inl h
  ·exact .inr (.step v i t hv (by rw[j];exact u) h)
 ·intro i d;rcases a4 i d with h|h
  ·rcases m i h with rfl|h
   ·right;rw[j];exact q
   ·exact .inl h
  ·exact .inr h
theorem Nu:∀(s s':List Bool),s.length=s'.length->(∀i:Nat,s[i]?=some true->s'[i]?=some true)->JI s'<=JI s
 | [],[],_,_=>yJ _
 | a::r,b::q,hl,h=>by
  have ih:=Nu r q (by simpa using hl) (fun i hi=>by have:=h (i+1) (by simpa using hi);simpa using this)
  have d:=h 0;unfold JI at *;cases a<;>cases b<;>simp_all<;>omega
theorem JY:∀(s:List Bool)(v:Nat),s[v]?=some false->JI (s.set v true)+1=JI s
 | [],v,h=>by simp at h
 | a::r,0,h=>by simp at h;subst h;simp[JI]
 | a::r,v+1,h=>by
  have:=JY r v (by simpa using h)
  unfold JI at *;cases a<;>simp[List.set]<;>omega
end Ir
section
variable (g:List (List Int))(but:Int)(vg:Value)(w0:World)(bb gb:Nat)
def fX (bb hb gb:Nat):Value:=.func (.func 164) #[] #[.pointer (some ⟨bb,0,none⟩),.pointer (some ⟨hb,0,none⟩),.pointer (some ⟨gb,0,none⟩),.pointer (some ⟨hb+1,0,none⟩)]
theorem sS (hg:TabAt w0.heap.size w0 vg g)(hn:g.length<=10)(hok:Hid (∀l∈g,∀t∈l,0<=t/\t<(g.length:Int)))(hbb:bb<w0.heap.size)(hgb:gb<w0.heap.size)
  (hcb:w0.cell? ⟨bb,0,none⟩=some (.int .i64 but)) (hcg:w0.cell? ⟨gb,0,none⟩=some vg) :
  ∀(n:Nat)(s:List Bool)(v:Nat)(w:World),JI s<=n->v<g.length->Gr w0 w->ARow w0.heap.size w0.heap.size w s->w.cell? ⟨w0.heap.size+1,0,none⟩=some (fX bb w0.heap.size gb) ->
   Calls prog 164 #[.int .i64 v,.pointer (some ⟨bb,0,none⟩),.pointer (some ⟨w0.heap.size,0,none⟩),.pointer (some ⟨gb,0,none⟩),.pointer (some ⟨w0.heap.size+1,0,none⟩)] w fun e w' =>
    e=.returned (.tuple #[])/\∃s',Ij g but s s' v/\ARow w0.heap.size w0.heap.size w' s'/\Gr w0 w'/\w'.cell? ⟨w0.heap.size+1,0,none⟩=some (fX bb w0.heap.size gb):=by
 intro n
 induction n with
 | zero =>
  intro s v w U hv m d j;have hl:=d.len;have af:=(m.cell _ 0 hbb).trans hcb
  have J:s[v]?=some true:=by
   have:v<s.length:=by omega
   cases h:s[v]'this with
   | true=>simp[this,h]
   | false =>
    have:=JY s v (by simp[this,h]);omega
  have ai:=d.cell v true J;have Z:(v:Int)<10:=by omega
  have Q:Hid (Ij g but s s v):=Ij.same g but s v (.inr J);have O:=dJ d;clear hl J d U;rcases Decidable.em ((v:Int)=but) with h|h
  ·have hb:((v:Int) == but)=true:=by simp[h]
   go_enter func164, ntmps164
   go_wp2;refine yq (results_none rfl _ _ _) rfl ?_;exact⟨rfl,s,Q.out,O.out,m,j⟩
  ·have hb:((v:Int) == but)=false:=by simp[h]
   go_enter func164, ntmps164
   go_wp2;refine yq (results_none rfl _ _ _) rfl ?_;exact⟨rfl,s,Q.out,O.out,m,j⟩
 | succ n ih =>
  intro s v w U hv m d j;have hl:=d.len;have af:=(m.cell _ 0 hbb).trans hcb;have Z:(v:Int)<10:=by omega
  obtain⟨y,R⟩:∃y,s[v]?=some y:=⟨s[v]'(by omega),by simp[show v<s.length by omega]⟩;have ai:=d.cell v y R;have ao:=d.frozen v;rcases Decidable.em ((v:Int)=but) with h|h
  ·have hb:((v:Int) == but)=true:=by simp[h]
   have Q:Hid (Ij g but s s v):=Ij.same g but s v (.inl h);have O:=dJ d;clear hl R d U h ih
   go_enter func164, ntmps164
   go_wp2;refine yq (results_none rfl _ _ _) rfl ?_;exact⟨rfl,s,Q.out,O.out,m,j⟩
  ·have hb:((v:Int) == but)=false:=by simp[h]
   cases y with
   | true =>
    have Q:Hid (Ij g but s s v):=Ij.same g but s v (.inr R);have O:=dJ d;clear hl R d U h ih
    go_enter func164, ntmps164
    go_wp2;refine yq (results_none rfl _ _ _) rfl ?_;exact⟨rfl,s,Q.out,O.out,m,j⟩
   | false =>
    have H:JI (s.set v true)<=n:=by have:=JY s v R;omega
    obtain⟨l,D⟩:∃l,g[v]?=some l:=⟨g[v],by simp[hv]⟩;have HD:Hid (∀z,Je g but (s.set v true) z l l->Ij g but s z v):=fun z q=>q.done D h (by omega);have ad:Hid (∀t∈l,0<=t/\t<(g.length:Int)):=hok.out l (xT D);have p:=d.set_ v true;obtain⟨N,aa⟩:=xJ (s.set v true);rw[aa]at p HD H;have A:Gr w0 (w.setCell ⟨w0.heap.size,v,none⟩ (.bool true)):=m.setCell (yJ _) _
    have K:(w.setCell ⟨w0.heap.size,v,none⟩ (.bool true)).cell? ⟨w0.heap.size+1,0,none⟩=some (fX bb w0.heap.size gb):=by exact(World.cell?_setCell_other _ _ _ _ (by simp)).trans j
    obtain⟨Ag,cg,rfl,-,-,g3⟩:=hg;obtain⟨bg,og,rfl,ah,X⟩:=g3 (by omega);obtain⟨u,hu,am⟩:=X v l D;have ap:=(A.cell _ 0 hgb).trans hcg;have au:=(A.cell _ _ ah).trans hu;obtain⟨Al,cl,rfl,p1,p2,p3⟩:=am;have P3:=dJ p3;have IH:=dJ ih;have zv:(v:Int)<(g.length:Int):=by omega
    have ae:Hid (Je g but N N l (l.take 0)):=Je.start g but N l;have ab:Hid (JI N<=n):=H;have T:=dJ p;clear hl R d U h ih D aa X g3 hu p3 p H
    go_enter func164, ntmps164
    go_wp2
    go_loopw [7,23] (fun _ i wr=>∃(k:Nat)(z:List Bool),k<=l.length/\i=.int .i64 k/\Gr w0 wr/\wr.cell? ⟨w0.heap.size+1,0,none⟩=some (fX bb w0.heap.size gb)/\Hid (ARow w0.heap.size w0.heap.size wr z)/\Hid (Je g but N z l (l.take k))) (fun _ i _=>l.length-(intOf i).toNat)
    case atStart=>exact⟨0,N,yI _,rfl,A,K,T,ae⟩
    case round =>
     obtain⟨k,z,hk,rfl,B,M,F,G⟩:=hrel;obtain⟨wo,rfl⟩:∃wo:World,wo=wr:=⟨_,rfl⟩;rcases hr:l.drop k with _|⟨t,r⟩
     ·have aj:=dw hr hk;subst aj;have HF:Hid (Ij g but s z v):=HD.out z (by have:=G.out;rwa [yv]at this);clear hr;go_wp2
      go_end0
      exact⟨rfl,z,HF.out,F.out,B,M⟩
     ·obtain⟨aq,hx,ak⟩:=dr hr;obtain⟨b,o,rfl,ag,W⟩:=P3.out (by omega);have ht:=W k t hx;have ar:=(B.cell _ _ ag).trans ht;have C:=xT hx;obtain⟨q0,q1⟩:=ad.out t C;obtain⟨tn,rfl⟩:=xZ q0;have al:tn<g.length:=by omega
      have E:JI z<=n:=Nat.le_trans (Nu N z (by rw[T.out.len,F.out.len]) G.out.1) ab.out;have ac:=dJ (IH.out z tn wo E al B F.out M)
      have HT:Hid (l.take (k+1)=l.take k++[(tn:Int)]):=by show _=_;obtain⟨e1,e2⟩:=xS.1 hx;rw[yx e1,e2]
      have S:=dJ C;clear hr hx ak W ht C E;unfold fX at M;go_wp2_with (go_at_call 164;(refine ac.out.mono ?_;rintro e w2 ⟨rfl,sj,an,I,Y,L⟩));go_roundw;case rel=>exact⟨k+1,sj,by omega,by go_num,Y,L,I,by (show Je _ _ _ _ _ _;rw[HT.out];exact G.out.more (by simpa using an) (by omega) S.out)⟩
      case measure=>simp[intOf];omega
end
namespace Ir
theorem Nv {s':List Bool}(h:Ij g but s s' 0)(hs:∀i:Nat,s[i]?≠some true)(hok:∀l∈g,∀t∈l,0<=t/\t<(g.length:Int)):∀i:Nat,s'[i]?=some true↔FI g but 0 i:=by
 obtain⟨-,r,u,y⟩:=h
 have m:∀v i,FI g but v i->s'[v]?=some true->s'[i]?=some true:=by
  intro v i d
  induction d with
  | here v h=>exact fun h=>h
  | step v i t h ht hr ih =>
   intro hv;apply ih;rcases y v hv with j|j
   ·exact absurd j (hs v)
   ·rcases j t ht with p|p
    ·exfalso;have B:(t.toNat:Int)≠but:=by cases hr with|here _ q=>exact q|step _ _ _ q _ _=>exact q
     have C:0<=t:=by
      cases hl:g[v]? with
      | none=>simp[List.getD,hl]at ht
      | some l =>
       have A:t∈l:=by simpa[List.getD,hl] using ht
       exact(hok l (xT hl) t A).1
     omega
    ·exact p
 intro i;constructor
 ·intro z;rcases u i z with h|h
  ·exact absurd h (hs i)
  ·exact h
 ·intro d;refine m 0 i d ?_;rcases r with h|h
  ·exfalso
   cases d with
   | here _ q=>exact q h
   | step _ _ _ q _ _=>exact q h
  ·exact h
def Jn (g:List (List Int))(but:Int)(s:List Bool):Prop:=s.length=10/\∀i:Nat,s[i]?=some true↔FI g but 0 i
end Ir
theorem iV (h:DK g=0):∀l∈g,∀t∈l,0<=t/\t<(g.length:Int):=by
 intro l hl t j;unfold DK at h;split at h
 ·cases h
 ·split at h
  ·cases h
  ·split at h
   ·cases h
   ·rename_i d
    have:BE g.length t=false:=by
     cases q:BE g.length t with
     | false=>rfl
     | true=>exact absurd (yG.2 ⟨l,hl,yG.2 ⟨t,j,q⟩⟩) d
    unfold BE at this;simp at this;omega
theorem mf (V:World)(x y:Value)(t:TypeId)(n:Nat)(hn:n=V.heap.size)(hx:x.oneCell'=true):Sem.run prog (store ⟨n,0,none⟩ x) (V.alloc (.cells #[y] t))=.ok () (V.alloc (.cells #[x] t)):=by subst hn;have h:=heap_alloc_new V (.cells #[y] t);have d:=cell_of_one h;have g:=free_of_one h;rw[run_store _ _ _ _ _ hx,d];simp only[g];rw[World.setCell_alloc_at _ _ _ _ _ rfl];rfl
theorem jj (vg:Value)(g:List (List Int))(but:Int)(w:World)(hg:TabAt w.heap.size w vg g)(hv:DK g=0) :
  Calls prog 137 #[vg,.int .i64 but] w fun e w'=>∃s,e=.returned (nv s)/\Jn g but s/\Gr w w':=by
 obtain⟨T,S⟩:=fo hv;have r:=iV hv;have z:=hg;obtain⟨A,c,rfl,-,-,-⟩:=hg
 have G:∃w0 W,((((w.alloc (.cells #[.slice A g.length c] 25)).alloc (.cells #[.int .i64 but] 3)).alloc (.cells #[Value.bool false,Value.bool false,Value.bool false,Value.bool false,Value.bool false,Value.bool false,Value.bool false,Value.bool false,Value.bool false,Value.bool false] 163)).alloc (.cells #[Value.bool false,Value.bool false,Value.bool false,Value.bool false,Value.bool false,Value.bool false,Value.bool false,Value.bool false,Value.bool false,Value.bool false] 163)).alloc (.cells #[fX (w.heap.size+1) (w.heap.size+3) w.heap.size] 189)=W /\
   Gr w w0/\w0.heap.size=w.heap.size+3/\w0.cell? ⟨w.heap.size,0,none⟩=some (.slice A g.length c)/\w0.cell? ⟨w.heap.size+1,0,none⟩=some (.int .i64 but)/\ARow w.heap.size (w.heap.size+2) w0 (List.replicate 10 false)/\Gr w0 W /\
   ARow w0.heap.size (w.heap.size+3) W (List.replicate 10 false)/\W.cell? ⟨w.heap.size+3+1,0,none⟩=some (fX (w.heap.size+1) (w.heap.size+3) w.heap.size):=by
  obtain⟨w0,m⟩:=xJ (((w.alloc (.cells #[.slice A g.length c] 25)).alloc (.cells #[.int .i64 but] 3)).alloc (.cells #[Value.bool false,Value.bool false,Value.bool false,Value.bool false,Value.bool false,Value.bool false,Value.bool false,Value.bool false,Value.bool false,Value.bool false] 163));have l:w0.heap.size=w.heap.size+3:=by rw[<-m];simp
  refine⟨w0,_,rfl,?_,l,?_,?_,?_,?_,?_,?_⟩
  ·rw[<-m];exact(((yO w).alloc _).alloc _).alloc _
  ·rw[<-m];exact(((yO _).alloc _).cell w.heap.size 0 (by simp;omega)).trans ((((yO _).alloc _).cell w.heap.size 0 (by simp)).trans (yo _ _ _ _ _ _ (heap_alloc_new w _)))
  ·rw[<-m];have e:(w.alloc (.cells #[.slice A g.length c] 25)).heap.size=w.heap.size+1:=by simp
   have:=yo _ _ 0 _ _ _ (heap_alloc_new (w.alloc (.cells #[.slice A g.length c] 25)) (.cells #[.int .i64 but] 3));rw[e]at this;exact(((yO _).alloc _).cell (w.heap.size+1) 0 (by simp)).trans this
  ·rw[<-m];refine yR ?_ (by omega);have e:((w.alloc (.cells #[.slice A g.length c] 25)).alloc (.cells #[.int .i64 but] 3)).heap.size=w.heap.size+2:=by simp
   have:=heap_alloc_new ((w.alloc (.cells #[.slice A g.length c] 25)).alloc (.cells #[.int .i64 but] 3)) (.cells #[Value.bool false,Value.bool false,Value.bool false,Value.bool false,Value.bool false,Value.bool false,Value.bool false,Value.bool false,Value.bool false,Value.bool false] 163);rw[e]at this;exact this
  ·rw[m];exact((yO w0).alloc _).alloc _
  ·rw[m,<-l];exact yR (heap_alloc2_old w0 _ _) (yJ _)
  ·rw[m,<-l];exact yo _ _ _ _ _ _ (heap_alloc2_new w0 _ _)
 obtain⟨w0,W,J,u,l,C,y,E,B,t,p⟩:=G
 have K:Hid (Calls prog 164 #[.int .i64 0,.pointer (some ⟨w.heap.size+1,0,none⟩),.pointer (some ⟨w.heap.size+3,0,none⟩),.pointer (some ⟨w.heap.size,0,none⟩),.pointer (some ⟨w.heap.size+3+1,0,none⟩)] W fun e w' =>
       e=.returned (.tuple #[])/\∃s',Ij g but (List.replicate 10 false) s' 0/\ARow w0.heap.size (w.heap.size+3) w' s'/\Gr w0 w'):=by
  have:=sS g but (.slice A g.length c) w0 (w.heap.size+1) w.heap.size (z.gr u) S r (by omega) (by omega) y C 10 (List.replicate 10 false) 0 W (by simp[JI]) (by omega) B (by rw[l];rw[l]at t;exact t) (by rw[l];exact p);rw[l]at this ⊢;exact this.mono fun _ _ ⟨N,s',O,Q,R,_⟩=>⟨N,s',O,Q,R⟩
 have L:Hid (∀s',Ij g but (List.replicate 10 false) s' 0->s'.length=10->Jn g but s'):=fun s' h hl=>⟨hl,Nv h (fun i=>by rw[yk];split<;>simp) r⟩;unfold fX at J;have F:=mf ((((w.alloc (.cells #[.slice A g.length c] 25)).alloc (.cells #[.int .i64 but] 3)).alloc (.cells #[Value.bool false,Value.bool false,Value.bool false,Value.bool false,Value.bool false,Value.bool false,Value.bool false,Value.bool false,Value.bool false,Value.bool false] 163)).alloc (.cells #[Value.bool false,Value.bool false,Value.bool false,Value.bool false,Value.bool false,Value.bool false,Value.bool false,Value.bool false,Value.bool false,Value.bool false] 163)) (fX (w.heap.size+1) (w.heap.size+1+1+1) w.heap.size) .nilFunc 189 (w.heap.size+1+1+1+1) (by simp) rfl;rw[show w.heap.size+3=w.heap.size+1+1+1 by omega]at J K p;unfold fX at F p;rw[J]at F;have H:=dJ E;have I:=dJ l;clear z hv r C y E t B l
 go_enter func137, ntmps137
 go_wp2_with (go_at_call 164;refine K.out.mono ?_;rintro e U ⟨rfl,s,q,j,D⟩;have M:=dJ (L.out s q j.len);clear q;have d:ARow w.heap.size (w.heap.size+1+1) U (List.replicate 10 false):=H.out.other (D.heap _ (by have:=I.out;omega));obtain⟨a0,X,Y,a3,a4,Z,a6,a7,a8,a9,rfl⟩:=ten s j.len;have c0:=j.cell 0 _ rfl;have c1:=j.cell 1 _ rfl;have c2:=j.cell 2 _ rfl;have c3:=j.cell 3 _ rfl;have c4:=j.cell 4 _ rfl;have c5:=j.cell 5 _ rfl;have c6:=j.cell 6 _ rfl;have c7:=j.cell 7 _ rfl;have c8:=j.cell 8 _ rfl;have c9:=j.cell 9 _ rfl;have d0:=d.cell 0 _ rfl;have f0:=d.frozen 0;have d1:=d.cell 1 _ rfl;have f1:=d.frozen 1;have d2:=d.cell 2 _ rfl;have f2:=d.frozen 2;have d3:=d.cell 3 _ rfl;have f3:=d.frozen 3;have d4:=d.cell 4 _ rfl;have f4:=d.frozen 4;have d5:=d.cell 5 _ rfl;have f5:=d.frozen 5;have d6:=d.cell 6 _ rfl;have f6:=d.frozen 6;have d7:=d.cell 7 _ rfl;have f7:=d.frozen 7;have d8:=d.cell 8 _ rfl;have f8:=d.frozen 8;have d9:=d.cell 9 _ rfl;have f9:=d.frozen 9;clear p j d);refine yq (by simp[results,results137,go_sem, *];rfl) rfl ?_;refine⟨_,rfl,M.out,?_⟩
 iterate 10 refine Gr.setCell ?_ (by show w.heap.size<=w.heap.size+1+1;omega) _
 exact u.trans D
end
section
namespace Ir
section
variable {g:List (List Int)}{but:Int}
theorem FI.ne (h:FI g but v i):(v:Int)≠but:=by cases h with|here _ q=>exact q|step _ _ _ q _ _=>exact q
theorem FI.snoc (h:FI g but v i):∀{t:Int},t∈g.getD i []->(t.toNat:Int)≠but->FI g but v t.toNat:=by
 induction h with
 | here v q=>exact fun j d=>.step v _ _ q j (.here _ d)
 | step v i t q j _ ih=>exact fun l d=>.step v _ t q j (ih l d)
def Jz (g:List (List Int))(but:Int)(out:List Bool):Prop:=∀i:Nat,out[i]?=some true->FI g but 0 i
def LW (a b:List Bool):Prop:=a.length=b.length/\∀i:Nat,a[i]?=some true->b[i]?=some true
theorem LW.refl (a:List Bool):LW a a:=⟨rfl,fun _ h=>h⟩
theorem LW.trans {a b c:List Bool}(h:LW a b)(k:LW b c):LW a c:=⟨h.1.trans k.1,fun i d=>k.2 i (h.2 i d)⟩
theorem Oa:∀(s s':List Bool),LW s s'->s≠s'->JI s'<JI s
 | [],[],_,h=>absurd rfl h
 | [],_::_,h,_=>by have:=h.1;simp at this
 | _::_,[],h,_=>by have:=h.1;simp at this
 | a::r,b::q,hl,h=>by
  have d:LW r q:=⟨by have:=hl.1;simpa using this,fun i g=>by have:=hl.2 (i+1) (by simpa using g);simpa using this⟩;have j:=hl.2 0;by_cases e:r=q
  ·subst e;unfold JI;cases a<;>cases b<;>simp_all
  ·have:=Oa r q d e;unfold JI at *;cases a<;>cases b<;>simp_all<;>omega
theorem MM (out:List Bool)(t:Int):LW out (AV but out t):=by
 unfold AV;split
 ·exact LW.refl _
 ·refine⟨by simp,fun i d=>?_⟩;rw[List.getElem?_set];split
  ·rename_i e;subst e;have:=(xS.1 d).1;simp[this]
  ·exact d
theorem LH (l:List Int):∀(out:List Bool),LW out (l.foldl (AV but) out):=by
 induction l with
 | nil=>exact fun _=>LW.refl _
 | cons t r ih=>exact fun out=>(MM out t).trans (ih _)
theorem KE (out:List Bool)(b:Nat):LW out (Bi but g out b):=by
 unfold Bi;split
 ·exact LH _ _
 ·exact LW.refl _
theorem JV (l:List Nat):∀(out:List Bool),LW out (l.foldl (Bi but g) out):=by
 induction l with
 | nil=>exact fun _=>LW.refl _
 | cons t r ih=>exact fun out=>(KE out t).trans (ih _)
theorem Nc (h:Jz g but out)(ht:t≠but->FI g but 0 t.toNat):Jz g but (AV but out t):=by
 unfold AV;split
 ·exact h
 ·rename_i j;intro i d;rw[List.getElem?_set]at d;split at d
  ·rename_i e;subst e;exact ht j
  ·exact h i d
theorem MN (l:List Int):∀{out:List Bool},Jz g but out->(∀t∈l,t≠but->FI g but 0 t.toNat)->Jz g but (l.foldl (AV but) out):=by
 induction l with
 | nil=>exact fun h _=>h
 | cons t r ih=>exact fun h d=>ih (Nc h (d t (by simp))) fun u hu=>d u (by simp[hu])
theorem JZ (h:out.getD b false=true):out[b]?=some true:=by
 cases q:out[b]? with
 | none=>simp[List.getD,q]at h
 | some x=>simp[List.getD,q]at h;rw[h]
theorem MO (hok:∀l∈g,∀t∈l,0<=t/\t<(g.length:Int))(h:Jz g but out):Jz g but (Bi but g out b):=by
 unfold Bi;split
 ·rename_i j;refine MN _ h fun t d p=>(h b (JZ j)).snoc d ?_
  cases hl:g[b]? with
  | none=>simp[List.getD,hl]at d
  | some l =>
   have m:t∈l:=by simpa[List.getD,hl] using d
   have:=(hok l (xT hl) t m).1;omega
 ·exact h
theorem LX (hok:∀l∈g,∀t∈l,0<=t/\t<(g.length:Int))(l:List Nat):∀{out:List Bool},Jz g but out->Jz g but (l.foldl (Bi but g) out):=by
 induction l with
 | nil=>exact fun h=>h
 | cons t r ih=>exact fun h=>ih (MO hok h)
theorem Ks (hok:∀l∈g,∀t∈l,0<=t/\t<(g.length:Int)):∀(n:Nat){out:List Bool},Jz g but out->Jz g but (Ef but g n out)
 | 0,_,h=>h
 | n+1,_,h=>Ks hok n (LX hok _ h)
theorem Le:∀(n:Nat)(out:List Bool),LW out (Ef but g n out)
 | 0,_=>LW.refl _
 | n+1,out=>(JV _ out).trans (Le n _)
def Ob (g:List (List Int))(but:Int)(out:List Bool):Prop:=∀b:Nat,out[b]?=some true->∀t∈g.getD b [],t=but\/out[t.toNat]?=some true
theorem NM (l:List Int):∀(out:List Bool)(t:Int),t∈l->t≠but->t.toNat<out.length->(l.foldl (AV but) out)[t.toNat]?=some true:=by
 induction l with
 | nil=>exact fun _ _ h=>by simp at h
 | cons u r ih =>
  intro out t d g hl;rcases List.mem_cons.1 d with rfl|d
  ·refine(LH r _).2 _ ?_;unfold AV;rw[yt g];simp[hl]
  ·exact ih _ t d g (by rw[<-(MM out u).1];exact hl)
theorem Nh (hok:∀l∈g,∀t∈l,0<=t/\t<(g.length:Int))(l:List Nat):∀(out:List Bool),out.length=g.length->∀b∈l,out[b]?=some true->∀t∈g.getD b [],t=but\/(l.foldl (Bi but g) out)[t.toNat]?=some true:=by
 induction l with
 | nil=>exact fun _ _ _ h=>by simp at h
 | cons c r ih =>
  intro out hl b m d t j;rcases List.mem_cons.1 m with rfl|m
  ·by_cases e:t=but
   ·exact .inl e
   ·right;refine(JV r _).2 _ ?_;unfold Bi;rw[yr (by simp[List.getD,d])];refine NM _ _ t j e ?_
    cases hgl:g[b]? with
    | none=>simp[List.getD,hgl]at j
    | some q =>
     have p:t∈q:=by simpa[List.getD,hgl] using j
     have:=hok q (xT hgl) t p;omega
  ·exact ih _ (by rw[<-(KE out c).1];exact hl) b m ((KE out c).2 b d) t j
theorem LY (hok:∀l∈g,∀t∈l,0<=t/\t<(g.length:Int))(hl:out.length=g.length)(h:Dz but g out=out):Ob g but out:=by
 intro b d t m;have j:=(xS.1 d).1;have:=Nh (but:=but) hok (List.range g.length) out hl b (by simp;omega) d t m;have e:(List.range g.length).foldl (Bi but g) out=out:=h
 rwa [e]at this
theorem Lh {out:List Bool}(h:Dz but g out=out):∀n,Ef but g n out=out
 | 0=>rfl
 | n+1=>by rw[Ef,h];exact Lh h n
theorem JR (hok:∀l∈g,∀t∈l,0<=t/\t<(g.length:Int)):∀(n:Nat)(out:List Bool),out.length=g.length->JI out<=n->Ob g but (Ef but g n out)
 | 0,out,hl,hc=>by
  intro b p t m
  right
  have r:=(xS.1 p).1
  cases hgl:g[b]? with
  | none=>simp[List.getD,hgl]at m
  | some q =>
   have u:t∈q:=by simpa[List.getD,hgl] using m
   have y:=hok q (xT hgl) t u;show out[t.toNat]?=some true;have d:t.toNat<out.length:=by omega
   cases q2:out[t.toNat] with
   | true=>simp[d,q2]
   | false =>
    have:=JY out t.toNat (by simp[d,q2]);omega
 | n+1,out,hl,hc=>by
  by_cases e:Dz but g out=out
  ·rw[Lh e];exact LY hok hl e
  ·have j:LW out (Dz but g out):=JV _ out;have:=Oa _ _ j (fun q=>e q.symm);exact JR hok n _ (by rw[<-j.1];exact hl) (by omega)
theorem GH (hn:1<=g.length)(hok:∀l∈g,∀t∈l,0<=t/\t<(g.length:Int)):∀i:Nat,(Ar g but)[i]?=some true↔FI g but 0 i:=by
 intro i;unfold Ar;by_cases j:but=0
 ·rw[yr j];constructor
  ·intro h;rw[yk]at h;split at h<;>cases h
  ·intro h;exact absurd j.symm h.ne
 ·rw[yt j]
  have z:Jz g but ((List.replicate g.length false).set 0 true):=by
   intro i d;rw[List.getElem?_set]at d;split at d
   ·rename_i e;subst e;exact .here 0 (fun e=>j e.symm)
   ·rw[yk]at d;split at d<;>cases d
  constructor
  ·exact Ks hok _ z i
  ·intro p;have m:=JR (but:=but) hok g.length ((List.replicate g.length false).set 0 true) (by simp) (by unfold JI;exact Nat.le_trans List.countP_le_length (by simp))
   have r:∀v i,FI g but v i->(Ef but g g.length ((List.replicate g.length false).set 0 true))[v]?=some true->(Ef but g g.length ((List.replicate g.length false).set 0 true))[i]?=some true:=by
    intro v i p
    induction p with
    | here v h=>exact fun h=>h
    | step v i t h ht hr ih =>
     intro hv;apply ih;rcases m v hv t ht with u|u
     ·exfalso;have A:=hr.ne
      cases hgl:g[v]? with
      | none=>simp[List.getD,hgl]at ht
      | some q =>
       have y:t∈q:=by simpa[List.getD,hgl] using ht
       have:=hok q (xT hgl) t y;omega
     ·exact u
   refine r 0 i p ((Le _ _).2 0 ?_);rw[List.getElem?_set,yr rfl,yr (by rw[List.length_replicate];omega)]
theorem Jn.get (h:Jn g but s)(hn:1<=g.length)(hok:∀l∈g,∀t∈l,0<=t/\t<(g.length:Int))(i:Nat)(hi:i<10):s[i]?=some ((Ar g but).getD i false):=by
 have j:=h.2 i;have m:=GH (but:=but) hn hok i;obtain⟨y,d⟩:∃y,s[i]?=some y:=⟨s[i]'(by have:=h.1;omega),by simp[show i<s.length by have:=h.1;omega]⟩
 cases y with
 | true =>
  have:=m.2 (j.1 d);simp[List.getD,this,d]
 | false =>
  rw[d]
  cases q:(Ar g but).getD i false with
  | false=>rfl
  | true=>have:=j.2 (m.1 (JZ q));rw[d]at this;exact this
theorem L6 (ha:¬FI g (-1) 0 a):∀v i,FI g (-1) v i->FI g (-1) 0 v->FI g (a:Int) v i:=by
 intro v i h
 induction h with
 | here v q=>exact fun hv=>.here v (fun e=>ha (by have:v=a:=by omega
                                                  rw[<-this];exact hv))
 | step v i t q ht hr ih =>
  intro hv
  have d:(v:Int)≠a:=fun e=>ha (by have:v=a:=by omega
                                  rw[<-this];exact hv)
  exact .step v i t d ht (ih (hv.snoc ht hr.ne))
end
end Ir
end
section
open Go.RowKit
def rb (g:List (List Int))(i:Nat):Bool:=(Ar g (-1)).getD i false
def Ir.Hj (g:List (List Int)):List Int:=Du ((List.range 10).map (rb g)) 0
theorem jT (hv:DK g=0)(h:Jn g (-1) s):s=(List.range 10).map (rb g):=by
 apply List.ext_getElem?;intro i;by_cases d:i<10
 ·rw[h.get (fo hv).1 (iV hv) i d];simp[d,rb]
 ·have:=h.1;rw[yi (by omega),yi (by simp;omega)]
theorem mp (v:Value)(g:List (List Int))(w:World)(hg:TabAt w.heap.size w v g)(hv:DK g=0) :
  Calls prog 106 #[v] w fun e w'=>∃u,e=.returned (.tuple #[u,.int .i64 0])/\IntsAt w'.heap.size w' u (Hj g)/\Gr w w':=by
 have l:=dJ (nP v g w hg);rw[hv]at l
 have m:Hid (∀j,Gr w j->Calls prog 137 #[v,.int .i64 (-1)] j (RG (nv ((List.range 10).map (rb g))) j)) :=
  fun j q=>(jj v g (-1) j (hg.gr q) hv).mono fun _ _ ⟨s,h1,h2,h3⟩=>⟨by rw[h1,jT hv h2],h3⟩
 have p:Hid (∀j,Calls prog 135 #[nv ((List.range 10).map (rb g))] j fun e w'=>∃v,e=.returned v/\IntsAt w'.heap.size w' v (Hj g)/\Gr j w') :=
  fun j=>nT _ (by simp) j
 obtain⟨r,d⟩:=xJ (nv ((List.range 10).map (rb g)));rw[d]at m p;clear d hg hv
 go_enter func106, ntmps106
 go_wp2_with (first|(go_at_call 136;refine l.out.mono ?_;rintro e j ⟨rfl,q⟩)|(go_at_call 137;refine(m.out _ q).mono ?_;rintro e A ⟨rfl,t⟩)|(go_at_call 135;refine(p.out _).mono ?_;rintro e B ⟨z,rfl,hl,y⟩))
 go_ret2;exact⟨z,rfl,hl,q.trans (t.trans y)⟩
theorem nu (n:Nat)(B hb:Nat)(s:List Bool)(w:World)(hr:ARow B hb w s)(hn:n<10)(y:Bool)(hy:s[n]?=some y) :
  Calls prog 186 #[.int .i64 (n:Int),.pointer (some ⟨hb,0,none⟩)] w (RS (.bool (!y)) w):=by
 have g:=hr.cell n y hy;have d:(n:Int)<10:=by omega
 clear hr hy
 go_enter func186, ntmps186
 go_wp2;go_ret;exact⟨rfl,rfl⟩
theorem pB (v u:Value)(g:List (List Int))(l:List Int)(w:World)(hg:TabAt w.heap.size w v g)(hu:IntsAt w.heap.size w u l)(hv:DK g=0)(hl:Hid (∀z∈l,0<=z/\z<(g.length:Int))) :
  Calls prog 165 #[v,u] w (RG (.int .i64 (if l.any (fun z=>!rb g z.toNat) then 9 else 0)) w):=by
 have U:=fo hv
 have A:Jm g l=0:=by unfold Jm;rw[yr hv,yt];intro h;obtain⟨z,M,h⟩:=yG.1 h;have:=hl.out z M;unfold BE at h;simp at h;omega
 have r:=dJ (lO v u g l w hg hu);rw[A]at r
 have m:Hid (∀d,Gr w d->Calls prog 137 #[v,.int .i64 (-1)] d (RG (nv ((List.range 10).map (rb g))) d)) :=
  fun d j=>(jj v g (-1) d (hg.gr j) hv).mono fun _ _ ⟨s,h1,h2,h3⟩=>⟨by rw[h1,jT hv h2],h3⟩
 have hlen:((List.range 10).map (rb g)).length=10:=by simp
 have J:Hid (∀n:Nat,n<10->((List.range 10).map (rb g))[n]?=some (rb g n)):=fun n h=>by simp[h]
 obtain⟨s,Q⟩:=xJ ((List.range 10).map (rb g));rw[Q]at m J hlen
 have t:Hid (∀d p,Gr w d->ARow p p d s->p<d.heap.size->Calls prog 88 #[u,.func (.func 186) #[] #[.pointer (some ⟨p,0,none⟩)]] d (RG (.bool (l.any fun z=>!rb g z.toNat)) d)) :=
  fun d p j R L=>dM _ _ (enters_of func186 (by kernel_rfl) rfl) _ _ _ _ (hu.gr j) (fun z M W y=>by
    obtain⟨S,X⟩:=hl.out z M
    obtain⟨n,rfl⟩:=xZ S
    have:=nu n p p s W (R.other (y.heap p L)) (by omega) (rb g n) (J.out n (by omega))
    exact this.mono fun _ _ h=>⟨h.1,h.2 ▸ yO _⟩)
 obtain⟨q,O⟩:=xJ ((l.any fun z=>!rb g z.toNat));rw[O]at t ⊢;clear Q O hg hu hv A J;obtain⟨a0,C,D,a3,a4,E,F,G,H,I,rfl⟩:=ten s hlen;rw[show nv [a0,C,D,a3,a4,E,F,G,H,I]=.agg #[.bool a0,.bool C,.bool D,.bool a3,.bool a4,.bool E,.bool F,.bool G,.bool H,.bool I] from rfl]at m
 have N:Hid (∀d:World,ARow d.heap.size d.heap.size (d.alloc (.cells #[.bool a0,.bool C,.bool D,.bool a3,.bool a4,.bool E,.bool F,.bool G,.bool H,.bool I] 163)) [a0,C,D,a3,a4,E,F,G,H,I]) :=
  fun d=>ARow.of (heap_alloc_new d _) rfl (yJ _)
 go_enter func165, ntmps165
 cases q with
 | true =>
  go_wp2_with (first|(go_at_call 133;refine r.out.mono ?_;rintro e d ⟨rfl,j⟩)|(go_at_call 137;refine(m.out _ j).mono ?_;rintro e B ⟨rfl,y⟩)|(go_at_call 88;refine(t.out _ B.heap.size ((j.trans y).alloc _) (N.out B) (by simp)).mono ?_;rintro e T ⟨rfl,K⟩))
  go_ret;exact⟨rfl,((j.trans y).alloc _).trans K⟩
 | false =>
  go_wp2_with (first|(go_at_call 133;refine r.out.mono ?_;rintro e d ⟨rfl,j⟩)|(go_at_call 137;refine(m.out _ j).mono ?_;rintro e B ⟨rfl,y⟩)|(go_at_call 88;refine(t.out _ B.heap.size ((j.trans y).alloc _) (N.out B) (by simp)).mono ?_;rintro e T ⟨rfl,K⟩))
  go_ret;exact⟨rfl,((j.trans y).alloc _).trans K⟩
theorem tC (v:Value)(g:List (List Int))(a b:Nat)(w:World)(hg:TabAt w.heap.size w v g)(hv:DK g=0)(hb:b<g.length) :
  Calls prog 166 #[v,.int .i64 a,.int .i64 b] w (RG (.bool (Bz g a b)) w):=by
 have z:=fo hv
 have d:Hid (Calls prog 137 #[v,.int .i64 (a:Int)] w fun e w'=>∃s,e=.returned (nv s)/\(∀W,(Instr.index 163 (nv s) (.int .i64 (b:Int))).run prog W=.ok (.bool ((Ar g a).getD b false)) W)/\Gr w w') :=
  (jj v g a w hg hv).mono fun _ _ ⟨s,t,m,u⟩=>⟨s,t,fun W=>lG s m.1 b _ (m.get z.1 (iV hv) b (by omega)) W,u⟩
 have j:Hid (Bz g a b=(decide ((a:Int)=b) || !(Ar g a).getD b false)):=by show _=_;unfold Bz;simp
 obtain⟨q,p⟩:=xJ ((Ar g a).getD b false);rw[p]at d j;unfold nv at d;clear p hg hv;by_cases h:(a:Int)=b
 ·have l:((a:Int) == b)=true:=by simp[h]
  go_enter func166, ntmps166
  go_wp2;go_ret;exact⟨cZ (by rw[j.out];simp[h]),yO _⟩
 ·have l:((a:Int) == b)=false:=by simp[h]
  go_enter func166, ntmps166
  go_wp2_with (go_at_call 137;refine d.out.mono ?_;rintro e A ⟨s,rfl,y,r⟩);go_ret;exact⟨cZ (by rw[j.out];simp[h]),r⟩
theorem rn (w:World)(x y:Int):IntsAt (w.heap.size+1) (w.alloc (.cells #[.int .i64 x,.int .i64 y] 3)) (.slice (some ⟨w.heap.size,0,none⟩) 2 2) [x,y]:=by
 refine⟨_,_,rfl,yJ _,by simp,fun _=>⟨_,_,rfl,by omega,fun j z hz=>?_⟩⟩;have d:∀i,(w.alloc (.cells #[.int .i64 x,.int .i64 y] 3)).cell? ⟨w.heap.size,i,none⟩=(#[Value.int .i64 x,Value.int .i64 y]:Array Value)[i]?:=fun i=>yo _ _ _ _ _ _ (heap_alloc_new w _);rw[d]
 match j,hz with
 | 0,hz=>simp at hz;subst hz;rfl
 | 1,hz=>simp at hz;subst hz;rfl
theorem rS (hv:DK g=0)(i:Nat):rb g i=true↔FI g (-1) 0 i:=by
 rw[<-GH (fo hv).1 (iV hv) i];unfold rb;constructor
 ·exact JZ
 ·intro h;simp[List.getD,h]
theorem kt (hv:DK g=0)(ha:rb g a=false)(hb:rb g b=true):Bz g a b=false:=by
 have j:¬FI g (-1) 0 a:=fun h=>by rw[(rS hv a).2 h]at ha;cases ha
 have d:=(rS hv b).1 hb;have m:FI g (-1) 0 0:=.here 0 (by omega);have h:=(GH (but:=(a:Int)) (fo hv).1 (iV hv) b).2 (L6 j 0 b d m);unfold Bz
 have l:(a:Int)≠b:=fun e=>by have:a=b:=by omega
                             subst this;rw[ha]at hb;cases hb
 simp[List.getD,h,l]
theorem kl (v:Value)(g:List (List Int))(a b:Nat)(w:World)(hg:TabAt w.heap.size w v g)(hv:DK g=0)(ha:a<g.length)(hb:b<g.length)(hr:rb g b=true) :
  Calls prog 138 #[v,.int .i64 a,.int .i64 b] w fun e w'=>∃x z,e=.returned (.tuple #[.bool x,.int .i64 z])/\(decide (z=0) && x)=Bz g a b/\Gr w w':=by
 obtain⟨W,u⟩:=xJ (w.alloc (.cells #[.int .i64 (a:Int),.int .i64 (b:Int)] 3));have l:Gr w W:=by rw[<-u];exact(yO w).alloc _
 have t:IntsAt W.heap.size W (.slice (some ⟨w.heap.size,0,none⟩) 2 2) [(a:Int),(b:Int)]:=by rw[<-u];simpa using rn w a b
 have j:=dJ (pB v _ g [(a:Int),(b:Int)] W (hg.gr l) t hv (fun z hz=>by simp at hz;omega));have q:Hid (∀m,Gr w m->Calls prog 166 #[v,.int .i64 a,.int .i64 b] m (RG (.bool (Bz g a b)) m)):=fun m p=>tC v g a b m (hg.gr p) hv hb
 cases ra:rb g a with
 | true =>
  have e:([(a:Int),(b:Int)].any fun z=>!rb g z.toNat)=false:=by simp[ra,hr]
  rw[e]at j;obtain⟨d,r⟩:=xJ (Bz g a b);rw[r]at q ⊢;clear e r hg hv t ra hr
  go_enter func138, ntmps138
  go_wp2_with (first|(go_at_call 165;refine j.out.mono ?_;rintro e m ⟨rfl,p⟩)|(go_at_call 166;refine(q.out _ (l.trans p)).mono ?_;rintro e B ⟨rfl,A⟩))
  go_ret2;exact⟨d,0,rfl,by simp,l.trans (p.trans A)⟩
 | false =>
  have e:([(a:Int),(b:Int)].any fun z=>!rb g z.toNat)=true:=by simp[ra]
  rw[e]at j;have r:=kt hv ra hr;have y:=dJ r;clear e hg hv t ra hr r
  go_enter func138, ntmps138
  go_wp2_with (first|(go_at_call 165;refine j.out.mono ?_;rintro e m ⟨rfl,p⟩))
  go_ret2;exact⟨false,9,rfl,by rw[y.out];simp,l.trans p⟩
theorem nV (n:Nat)(w:World)(h0:1<=n)(h1:n<=32):Calls prog 147 #[.int .i64 (n:Int)] w (RS (.int .u32 (2 ^ n-1)) w):=by
 rcases (by omega:n=1\/n=2\/n=3\/n=4\/n=5\/n=6\/n=7\/n=8\/n=9\/n=10\/n=11\/n=12\/n=13\/n=14\/n=15\/n=16\/n=17\/n=18\/n=19\/n=20\/n=21\/n=22\/n=23\/n=24\/n=25\/n=26\/n=27\/n=28\/n=29\/n=30\/n=31\/n=32) with rfl|rfl|rfl|rfl|rfl|rfl|rfl|rfl|rfl|rfl|rfl|rfl|rfl|rfl|rfl|rfl|rfl|rfl|rfl|rfl|rfl|rfl|rfl|rfl|rfl|rfl|rfl|rfl|rfl|rfl|rfl|rfl
 all_goals
  go_enter func147, ntmps147
  go_wp2;go_ret;exact⟨dg (by decide),rfl⟩
def Ir.zV (f:Fn)(x:Ins):Int × Int × Bool :=
 let c:=ir x.op
 if c=1 then (0,0,yS x.w && decide (x.i<=2 ^ x.w.toNat-1))
 else if c=2 then (2,0,yS x.w && decide (x.i=0))
 else if c=3 then (2,0,decide (x.w=1) && decide (x.i<=9))
 else if c=4 then (3,0,(yS x.w || decide (x.w=33)) && decide (x.i=0))
 else if c=5\/c=6\/c=8 then (1,0,yS x.w && decide (x.i=0))
 else if c=7 then (2,0,yS x.w && decide (1<=x.i) && decide (x.i<x.w) && decide (x.w%x.i=0))
 else if c=9 then (0,0,yS x.w && decide (x.i=0))
 else if c=10 then (0,0,decide (x.w=33) && decide (x.i<f.s.length))
 else if c=11 then (2,0,decide (x.w=33) && decide (x.i=0))
 else if c=12 then (1,0,Ea x.w && decide (x.i=0))
 else if c=13 then (2,0,decide (x.w=0) && decide (x.i=0))
 else if c=14 then (x.to.length,x.to.length,(yS x.w || decide (x.w=33)) && decide (x.i=0) && decide (0<x.to.length))
 else if c=15 then (0,1,decide (x.w=0) && decide (x.i=0))
 else if c=16 then (1,2,decide (x.w=0) && decide (x.i=0) && (decide (x.to.length≠2) || decide (x.to.getD 0 0≠x.to.getD 1 0)))
 else if c=17 then (if f.ret<1 then f.ret else 1,0,decide (x.w=0) && decide (x.i=0))
 else if c=18 then (0,0,decide (x.w=0) && decide (x.i=0))
 else (0,0,false)
theorem uO (n:Nat)(w:World)(h0:1<=n)(h1:n<=32):Calls prog 116 #[.int .i64 (n:Int)] w (RS (.tuple #[.int .u32 (2 ^ n-1),.int .i64 0]) w):=by
 have g:=eS (n:Int) w;rw[show yS (n:Int)=true by simp[yS];omega]at g;have j:=dJ g;have d:=dJ (nV n w h0 h1);obtain⟨m,l⟩:∃m:Int,(2:Int) ^ n-1=m:=⟨_,rfl⟩;rw[l]at d ⊢;clear g l
 go_enter func116, ntmps116
 go_wp2_with (first|(go_at_call 146;refine j.out.mono ?_;rintro e p ⟨rfl,rfl⟩)|(go_at_call 147;refine d.out.mono ?_;rintro e p ⟨rfl,rfl⟩))
 go_ret2;exact⟨rfl,rfl⟩
theorem td (n:Int)(w:World)(h:yS n=false):Calls prog 116 #[.int .i64 n] w (RS (.tuple #[.int .u32 0,.int .i64 1]) w):=by
 have d:=eS n w;rw[h]at d;have g:=dJ d;clear d
 go_enter func116, ntmps116
 go_wp2_with (first|(go_at_call 146;refine g.out.mono ?_;rintro e j ⟨rfl,rfl⟩))
 go_ret2;exact⟨rfl,rfl⟩
end
section
theorem lX:Gv:=by
 intro g but r l
 have d:∀i,NT g but i↔FI g but 0 i:=fun i=>by rw[<-GH r l i];unfold NT;rw[xU];cases h:(Ar g but)[i]?<;>simp
 refine⟨fun h=>(d 0).2 (.here 0 (by omega)),fun b t hb ht j=>(d _).2 (((d b).1 hb).snoc ht j),fun S h0 hS i hi=>?_⟩
 have p:∀v i,FI g but v i->FI g but 0 v->S v->S i:=by
  intro v i h
  induction h with
  | here v q=>exact fun _ m=>m
  | step v i t q ht hr ih=>exact fun hv m=>ih (hv.snoc ht hr.ne) (hS v t ((d v).2 hv) m ht hr.ne)
 have j:=((d i).1 hi).ne;exact p 0 i ((d i).1 hi) (.here 0 j) (h0 (by omega))
end

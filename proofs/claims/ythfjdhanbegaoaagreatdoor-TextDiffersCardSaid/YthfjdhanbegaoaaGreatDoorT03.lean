/- Parts. -/
import Derived.Test.YthfjdhanbegaoaaGreatDoorT02
import Derived.Shelf.Abstract
import Derived.Deep.WholeRow
set_option linter.unusedSimpArgs false
set_option linter.unusedVariables false
set_option maxRecDepth 100000
set_option maxHeartbeats 16000000
open Go.Proofs.Tryz
namespace Go.Proofs.YthfjdhanbegaoaaGreatDoor
section
open Go.RowKit
namespace Ir
def findI {α:Type}(p:α->Bool):List α->Nat->Int
 | [],_=>-1
 | x::r,k=>if p x then k else findI p r (k+1)
theorem findI_any {α:Type}(p:α->Bool):∀(l:List α)(k:Nat),decide (0<=findI p l k)=l.any p
 | [],k=>by simp[findI]
 | x::r,k=>by
  rw[findI]
  cases h:p x
  ·simp[h,findI_any p r (k+1)]
  ·simp[h]
def isNumber (n:Int):Bool:=decide (1<=n) && decide (n<=32)
def isLast (n:Int):Bool:=decide (29<=n) && decide (n<=32)
def outside (n:Nat)(z:Int):Bool:=decide (z<0) || decide ((n:Int)<=z)
end Ir
theorem dO (n:Int)(w:World):Calls prog 79 #[.int .i64 n] w (RS (.bool (Ref.isWidth n)) w):=by
 go_enter func79, ntmps79
 go_wp2;all_goals go_ret
 all_goals exact⟨dc (by grind [Ref.isWidth]),rfl⟩
theorem fN (n:Int)(w:World):Calls prog 147 #[.int .i64 n] w (RS (.bool (Ref.isWidth n)) w):=by
 go_enter func147, ntmps147
 go_wp2;all_goals go_ret
 all_goals exact⟨dc (by grind [Ref.isWidth]),rfl⟩
theorem gj (n:Int)(w:World):Calls prog 85 #[.int .i64 n] w (RS (.bool (Ref.isLast n)) w):=by
 go_enter func85, ntmps85
 go_wp2;all_goals go_ret
 all_goals exact⟨dc (by grind [Ref.isLast]),rfl⟩
theorem fP (n:Int)(w:World):Calls prog 93 #[.int .i64 n] w (RS (.bool (Ref.isMem n)) w):=by
 go_enter func93, ntmps93
 go_wp2;all_goals go_ret
 all_goals exact⟨dc (by grind [Ref.isMem]),rfl⟩
theorem jv (n:Int)(w:World):Calls prog 78 #[.int .i64 n] w (RS (.bool (!Ref.isWidth n)) w):=by
 have C:=dJ (dO n w)
 go_enter func78, ntmps78
 go_wp2_with (go_at_call 79;refine C.out.mono ?_;rintro e d ⟨rfl,rfl⟩);go_ret;exact⟨rfl,rfl⟩
theorem jw (n:Int)(w:World):Calls prog 80 #[.int .i64 n] w (RS (.bool (!Ref.isSlot n)) w):=by
 go_enter func80, ntmps80
 go_wp2;all_goals go_ret
 all_goals exact⟨dc (by grind [Ref.isSlot]),rfl⟩
theorem lG (A:Option Addr)(n c:Nat)(w:World):Calls prog 151 #[.slice A n c] w (RS (.bool (decide (2<n))) w):=by
 by_cases h:2<n
 ·have d:(2:Int)<n:=by omega
  go_enter func151, ntmps151
  go_wp2;go_ret;exact⟨dc (by simp[h]),rfl⟩
 ·have d:(n:Int)<=2:=by omega
  go_enter func151, ntmps151
  go_wp2;go_ret;exact⟨dc (by simp;omega),rfl⟩
theorem hZ (g:Nat)(lb:Array Value)(eg:∀args w,(callFunc g args).run prog w=.ok (.enter g args) w)(p:Int->Bool)(v:Value)(zs:List Int)(w:World)(hz:IntsAt w.heap.size w v zs)
  (hp:Hid (∀z∈zs,∀W,Gr w W->Calls prog g (#[.int .i64 z]++lb) W (RG (.bool (p z)) W))) :
  Calls prog 117 #[v,.func (.func g) #[] lb] w (RG (.int .i64 (Ir.findI p zs 0)) w):=by
 obtain⟨A,c,rfl,M,N,D⟩:=hz
 go_enter func117, ntmps117
 go_wp2
 go_loopw [5,8] (fun _ i wr=>∃k:Nat,k<=zs.length/\i=.int .i64 k/\Gr w wr/\Hid (Ir.findI p zs 0=Ir.findI p (zs.drop k) k)) (fun _ i _=>zs.length-(intOf i).toNat)
 case atStart=>exact⟨0,pR _,rfl,qj _,rfl⟩
 case round =>
  obtain⟨k,I,rfl,j,d⟩:=hrel;obtain⟨C,rfl⟩:∃C:World,C=wr:=⟨_,rfl⟩;rcases hr:zs.drop k with _|⟨z,r⟩
  ·have y:=dm hr I;have G:Hid (Ir.findI p zs 0=-1):=by show _=_;rw[d.out,hr];rfl
   subst y;clear hr d;go_wp2;go_ret;exact⟨df (by rw[G.out]),j⟩
  ·obtain⟨J,B,m⟩:=dj hr;obtain⟨b,o,rfl,H,E⟩:=D (by omega);have K:=(j.cell _ _ H).trans (E k z B);have t:Hid (Ir.findI p zs 0=if p z then (k:Int) else Ir.findI p r (k+1)):=by show _=_;rw[d.out,hr];rfl
   have u:Hid (zs.drop (k+1)=r):=m;have l:=dJ (hp.out z (pa B) C j);clear hr B m d E D;obtain⟨q,F⟩:=xJ (p z);rw[F]at t l;clear F
   cases q with
   | true =>
    go_wp2_with (go_at_fn g;refine l.out.mono ?_;rintro e L ⟨rfl,g1⟩);go_ret;exact⟨df (by rw[t.out];simp),j.trans g1⟩
   | false =>
    go_wp2_with (go_at_fn g;refine l.out.mono ?_;rintro e L ⟨rfl,g1⟩);go_roundw;case rel=>exact⟨k+1,by omega,by go_num,j.trans g1,by (show _=_;rw[t.out,u.out];simp)⟩
    case measure=>simp[intOf];omega
theorem dx (g:Nat)(lb:Array Value)(eg:∀args w,(callFunc g args).run prog w=.ok (.enter g args) w)(p:Int->Bool)(v:Value)(zs:List Int)(w:World)(hz:IntsAt w.heap.size w v zs)
  (hp:Hid (∀z∈zs,∀W,Gr w W->Calls prog g (#[.int .i64 z]++lb) W (RG (.bool (p z)) W))) :
  Calls prog 77 #[v,.func (.func g) #[] lb] w (RG (.bool (zs.any p)) w):=by
 have C:=dJ (hZ g lb eg p v zs w hz hp);have d:Hid (decide (0<=Ir.findI p zs 0)=zs.any p):=Ir.findI_any p zs 0;obtain⟨i,j⟩:=xJ (Ir.findI p zs 0);rw[j]at C d;clear j hp hz eg;by_cases h:0<=i
 ·go_enter func77, ntmps77
  go_wp2_with (go_at_call 117;refine C.out.mono ?_;rintro e l ⟨rfl,g1⟩);go_ret;exact⟨dc (by rw[<-d.out];try simp[h]),g1⟩
 ·go_enter func77, ntmps77
  go_wp2_with (go_at_call 117;refine C.out.mono ?_;rintro e l ⟨rfl,g1⟩);go_ret;exact⟨dc (by rw[<-d.out];try simp[h]),g1⟩
namespace Ir
def isHead (f:Fn):Bool:=f.params.all Ref.isWidth && decide (0<=f.ret) && decide (f.ret<=32) && f.slots.all Ref.isSlot
theorem any_not {α:Type}(p:α->Bool)(l:List α):(l.any fun z=>!p z)=!l.all p:=by
 induction l with
 | nil=>rfl
 | cons a r ih=>simp[ih,Bool.not_and]
end Ir
theorem kd (v:Value)(f:Fn)(w:World)(hf:FnAt w.heap.size w v f)(hs:f.blocks.length<=100000) :
  Calls prog 48 #[v] w (RG (.int .i64 (Ref.total f.blocks)) w):=by
 obtain⟨vp,vs,vb,rfl,L,r,F⟩:=hf;obtain⟨z,D,rfl,M,O,-⟩:=L;obtain⟨A,E,rfl,Q,R,-⟩:=r;obtain⟨y,C,rfl,G,H,j⟩:=F;have m:Gr w (w.alloc (.cells #[.slice z f.params.length D,.int .i64 f.ret,.slice A f.slots.length E,.slice y f.blocks.length C] 25)):=(qj _).alloc _
 go_enter func48, ntmps48
 go_wp2
 go_loop [3,5,9] (fun s _ b=>∃k N:Nat,k<=f.blocks.length/\b=.int .i64 k/\s=.int .i64 N/\N<=17592186044416*k/\Hid (N=Ref.total (f.blocks.take k))) (fun _ _ b=>f.blocks.length-(intOf b).toNat)
 case atStart=>exact⟨0,0,pR _,rfl,rfl,by omega,by show _=_;simp[Ref.total]⟩
 case round =>
  obtain⟨k,N,X,rfl,rfl,W,g⟩:=hrel;by_cases q:k<f.blocks.length
  ·obtain⟨U,Z,rfl,I,d⟩:=j (by omega);obtain⟨l,p⟩:∃l,f.blocks[k]?=some l:=⟨f.blocks[k],by simp[q]⟩;obtain⟨u,Y,t⟩:=d k l p;obtain⟨T,V,rfl,J,K,-⟩:=t
   have B:Hid (Ref.total (f.blocks.take (k+1))=Ref.total (f.blocks.take k)+l.length):=by show _=_;rw[Ref.total_take_succ _ _ _ p]
   clear p d j;go_wp2;go_round;case rel=>exact⟨k+1,N+l.length,by omega,by go_num,by go_num,by omega,by show _=_;rw[B.out,g.out]⟩
   case measure=>simp[intOf];omega
  ·obtain rfl:k=f.blocks.length:=by omega
   go_wp2;go_ret;exact⟨df (by rw[g.out,pE]),m⟩
theorem ko (v:Value)(f:Fn)(w:World)(hf:FnAt w.heap.size w v f) :
  Calls prog 49 #[v] w (RG (.bool (Ir.isHead f)) w):=by
 obtain⟨vp,vs,vb,rfl,H,I,L⟩:=hf
 have l:Hid (∀j,Gr w j->Calls prog 77 #[vp,.func (.func 78) #[] #[]] j (RG (.bool (!f.params.all Ref.isWidth)) j)):=by intro j g1;rw[<-Ir.any_not];exact dx _ _ (enters_of func78 (by kernel_rfl) rfl) _ _ _ _ (H.gr g1) (fun z _ W _=>(jv z W).mono fun _ _ h=>⟨h.1,h.2 ▸ qj _⟩)
 have m:Hid (∀j,Gr w j->Calls prog 77 #[vs,.func (.func 80) #[] #[]] j (RG (.bool (!f.slots.all Ref.isSlot)) j)):=by intro j g1;rw[<-Ir.any_not];exact dx _ _ (enters_of func80 (by kernel_rfl) rfl) _ _ _ _ (I.gr g1) (fun z _ W _=>(jw z W).mono fun _ _ h=>⟨h.1,h.2 ▸ qj _⟩)
 obtain⟨y,C,rfl,O,Q,-⟩:=H;obtain⟨A,D,rfl,R,T,-⟩:=I;obtain⟨F,G,rfl,M,N,-⟩:=L;obtain⟨W,E⟩:=xJ (w.alloc (.cells #[.slice y f.params.length C,.int .i64 f.ret,.slice A f.slots.length D,.slice F f.blocks.length G] 25));have d:Gr w W:=by rw[<-E];exact(qj w).alloc _
 have K:W.heap.size=w.heap.size+1:=by rw[<-E];simp
 have t:∀o,W.cell? ⟨w.heap.size,o,none⟩=(#[.slice y f.params.length C,.int .i64 f.ret,.slice A f.slots.length D,.slice F f.blocks.length G]:Array Value)[o]?:=by intro o;rw[<-E];exact px _ _ _ _ _ _ (heap_alloc_new w _)
 have B:Hid (∀w',Gr W w'->w'.cell? ⟨w.heap.size,0,none⟩=some (.slice y f.params.length C)/\w'.cell? ⟨w.heap.size,1,none⟩=some (.int .i64 f.ret)/\w'.cell? ⟨w.heap.size,2,none⟩=some (.slice A f.slots.length D)) :=
  fun w' g=>⟨(g.cell w.heap.size 0 (by omega)).trans (t 0),(g.cell w.heap.size 1 (by omega)).trans (t 1),(g.cell w.heap.size 2 (by omega)).trans (t 2)⟩
 obtain⟨k0,k1,k2⟩:=B.out W (qj _);clear t;have p:Hid (Ir.isHead f=(f.params.all Ref.isWidth && decide (0<=f.ret) && decide (f.ret<=32) && f.slots.all Ref.isSlot)):=by show _=_;rfl
 obtain⟨U,q⟩:=xJ (f.params.all Ref.isWidth);obtain⟨sa,r⟩:=xJ (f.slots.all Ref.isSlot);rw[q]at l p;rw[r]at m p;clear q r
 go_enter func49, ntmps49
 cases U with
 | false =>
  go_wp2_with (go_at_call 77;first|(refine(l.out _ d).mono ?_;rintro e j ⟨rfl,g1⟩));go_ret;exact⟨dc (by rw[p.out];simp),d.trans g1⟩
 | true =>
  by_cases u:f.ret<0\/32<f.ret
  ·have J:Hid (Ir.isHead f=false):=by show _=_;rw[p.out];rcases u with u|u<;>simp<;>omega
   go_wp2_with (go_at_call 77;first|(refine(l.out _ d).mono ?_;rintro e j ⟨rfl,g1⟩;obtain⟨V,X,Y⟩:=B.out _ g1));all_goals first|omega|(go_ret;exact⟨dc (by rw[J.out]),d.trans g1⟩)
  ·have Z:0<=f.ret:=by omega
   have r2:f.ret<=32:=by omega
   clear u;go_wp2_with (go_at_call 77;first|(refine(m.out _ (d.trans g1)).mono ?_;rintro e w2 ⟨rfl,g2⟩)|(refine(l.out _ d).mono ?_;rintro e j ⟨rfl,g1⟩;obtain⟨V,X,Y⟩:=B.out _ g1));go_ret;exact⟨dc (by rw[p.out];simp[Z,r2]),d.trans (g1.trans g2)⟩
def Ir.classOf (op:Int):Int :=
 if op=0 then 1 else if op=14 then 3 else if op=15 then 4 else if op=16\/op=17 then 5 else if op=18 then 6 else if op=19\/op=20 then 7 else if op=21 then 8
 else if op=22\/op=23 then 9 else if op=24 then 10 else if op=25 then 11 else if op=26 then 12 else if op=27 then 13 else if op=28 then 14 else if op=29 then 15
 else if op=30 then 16 else if op=31 then 17 else if op=32 then 18 else if 1<=op/\op<=13 then 2 else 0
def Ir.flagsOf (op:Int):Int :=
 if op=1\/op=2\/op=3\/op=11 then 3 else if op=4\/op=6\/op=12\/op=13 then 4 else if op=25 then 8 else 0
theorem gc (n:Int)(w:World):Calls prog 92 #[.int .i64 n] w (RS (.int .i64 (Ir.classOf n)) w):=by
 go_enter func92, ntmps92
 go_wp2;all_goals go_ret
 all_goals exact⟨df (by grind [Ir.classOf]),rfl⟩
theorem jo (n:Int)(w:World):Calls prog 83 #[.int .i64 n] w (RS (.int .i64 (Ir.flagsOf n)) w):=by
 go_enter func83, ntmps83
 go_wp2;all_goals go_ret
 all_goals exact⟨df (by grind [Ir.flagsOf]),rfl⟩
theorem ld (v:Value)(zs:List Int)(n:Int)(w:World)(hz:IntsAt w.heap.size w v zs) :
  Calls prog 124 #[v,.int .i64 n] w (RS (.int .i64 (Ir.findI (fun z=>decide (z=n)) zs 0)) w):=by
 obtain⟨A,c,rfl,E,F,p⟩:=hz
 go_enter func124, ntmps124
 go_wp2
 go_loop [5,8] (fun _ i=>∃k:Nat,k<=zs.length/\i=.int .i64 k/\Hid (Ir.findI (fun z=>decide (z=n)) zs 0=Ir.findI (fun z=>decide (z=n)) (zs.drop k) k)) (fun _ i=>zs.length-(intOf i).toNat)
 case atStart=>exact⟨0,pR _,rfl,rfl⟩
 case round =>
  obtain⟨k,B,rfl,d⟩:=hrel;rcases hr:zs.drop k with _|⟨z,r⟩
  ·have l:=dm hr B;have u:Hid (Ir.findI (fun z=>decide (z=n)) zs 0=-1):=by show _=_;rw[d.out,hr];rfl
   subst l;clear hr d;go_wp2;go_ret;exact⟨df (by rw[u.out]),rfl⟩
  ·obtain⟨C,t,g⟩:=dj hr;obtain⟨b,o,rfl,G,q⟩:=p (by omega);have D:=q k z t;have m:Hid (Ir.findI (fun z=>decide (z=n)) zs 0=if z=n then (k:Int) else Ir.findI (fun z=>decide (z=n)) r (k+1)):=by show _=_;rw[d.out,hr];simp[Ir.findI]
   have j:Hid (zs.drop (k+1)=r):=g;clear hr t g d q p;by_cases h:z=n
   ·subst h;go_wp2;go_ret;exact⟨df (by rw[m.out];simp),rfl⟩
   ·have y:(n == z)=false:=by simp;exact fun e=>h e.symm
    go_wp2;go_round;case rel=>exact⟨k+1,by omega,by go_num,by (show _=_;rw[m.out,j.out];simp[h])⟩
    case measure=>simp[intOf];omega
theorem fL (v:Value)(zs:List Int)(n:Int)(w:World)(hz:IntsAt w.heap.size w v zs) :
  Calls prog 95 #[v,.int .i64 n] w (RS (.bool (Ref.has zs n)) w):=by
 have C:=dJ (ld v zs n w hz);have d:Hid (decide (0<=Ir.findI (fun z=>decide (z=n)) zs 0)=Ref.has zs n):=Ir.findI_any _ zs 0;obtain⟨i,g⟩:∃i,Ir.findI (fun z=>decide (z=n)) zs 0=i:=⟨_,rfl⟩;rw[g]at C d;clear g hz;by_cases h:0<=i
 ·go_enter func95, ntmps95
  go_wp2_with (go_at_call 124;refine C.out.mono ?_;rintro e j ⟨rfl,rfl⟩);go_ret;exact⟨dc (by rw[<-d.out];try simp[h]),rfl⟩
 ·go_enter func95, ntmps95
  go_wp2_with (go_at_call 124;refine C.out.mono ?_;rintro e j ⟨rfl,rfl⟩);go_ret;exact⟨dc (by rw[<-d.out];try simp[h]),rfl⟩
namespace Ir
def gval (g:List (List Int)):Int :=
 if g.length<1\/10<g.length then 3 else if g.any (fun l=>decide (2<l.length))=true then 3 else if g.any (fun l=>l.any (outside g.length))=true then 1 else 0
def noded (g:List (List Int))(l:List Int):Int:=if gval g=0 then (if l.any (outside g.length)=true then 4 else 0) else gval g
end Ir
theorem gF (g:Nat)(lb:Array Value)(eg:∀args w,(callFunc g args).run prog w=.ok (.enter g args) w)(p:List Int->Bool)(v:Value)(t:List (List Int))(w:World)(hz:TabAt w.heap.size w v t)
  (hp:Hid (∀l∈t,∀W u,Gr w W->IntsAt W.heap.size W u l->Calls prog g (#[u]++lb) W (RG (.bool (p l)) W))) :
  Calls prog 171 #[v,.func (.func g) #[] lb] w (RG (.int .i64 (Ir.findI p t 0)) w):=by
 obtain⟨A,c,rfl,R,T,G⟩:=hz
 go_enter func171, ntmps171
 go_wp2
 go_loopw [5,8] (fun _ i wr=>∃k:Nat,k<=t.length/\i=.int .i64 k/\Gr w wr/\Hid (Ir.findI p t 0=Ir.findI p (t.drop k) k)) (fun _ i _=>t.length-(intOf i).toNat)
 case atStart=>exact⟨0,pR _,rfl,qj _,rfl⟩
 case round =>
  obtain⟨k,M,rfl,j,d⟩:=hrel;obtain⟨F,rfl⟩:∃F:World,F=wr:=⟨_,rfl⟩;rcases hr:t.drop k with _|⟨l,r⟩
  ·have D:=dm hr M;have K:Hid (Ir.findI p t 0=-1):=by show _=_;rw[d.out,hr];rfl
   subst D;clear hr d;go_wp2;go_ret;exact⟨df (by rw[K.out]),j⟩
  ·obtain⟨N,E,y⟩:=dj hr;obtain⟨b,o,rfl,L,H⟩:=G (by omega);obtain⟨u,J,z⟩:=H k l E;have O:=(j.cell _ _ L).trans J;have B:Hid (Ir.findI p t 0=if p l then (k:Int) else Ir.findI p r (k+1)):=by show _=_;rw[d.out,hr];rfl
   have C:Hid (t.drop (k+1)=r):=y;have m:=dJ (hp.out l (pa E) F u j (z.gr j));clear hr E y d H G J z;obtain⟨q,I⟩:=xJ (p l);rw[I]at B m;clear I
   cases q with
   | true =>
    go_wp2_with (go_at_fn g;refine m.out.mono ?_;rintro e Q ⟨rfl,g1⟩);go_ret;exact⟨df (by rw[B.out];simp),j.trans g1⟩
   | false =>
    go_wp2_with (go_at_fn g;refine m.out.mono ?_;rintro e Q ⟨rfl,g1⟩);go_roundw;case rel=>exact⟨k+1,by omega,by go_num,j.trans g1,by (show _=_;rw[B.out,C.out];simp)⟩
    case measure=>simp[intOf];omega
theorem fE (g:Nat)(lb:Array Value)(eg:∀args w,(callFunc g args).run prog w=.ok (.enter g args) w)(p:List Int->Bool)(v:Value)(t:List (List Int))(w:World)(hz:TabAt w.heap.size w v t)
  (hp:Hid (∀l∈t,∀W u,Gr w W->IntsAt W.heap.size W u l->Calls prog g (#[u]++lb) W (RG (.bool (p l)) W))) :
  Calls prog 150 #[v,.func (.func g) #[] lb] w (RG (.bool (t.any p)) w):=by
 have C:=dJ (gF g lb eg p v t w hz hp);have d:Hid (decide (0<=Ir.findI p t 0)=t.any p):=Ir.findI_any p t 0;obtain⟨i,j⟩:=xJ (Ir.findI p t 0);rw[j]at C d;clear j hp hz eg;by_cases h:0<=i
 ·go_enter func150, ntmps150
  go_wp2_with (go_at_call 171;refine C.out.mono ?_;rintro e m ⟨rfl,g1⟩);go_ret;exact⟨dc (by rw[<-d.out];try simp[h]),g1⟩
 ·go_enter func150, ntmps150
  go_wp2_with (go_at_call 171;refine C.out.mono ?_;rintro e m ⟨rfl,g1⟩);go_ret;exact⟨dc (by rw[<-d.out];try simp[h]),g1⟩
theorem lH (n:Int)(B:Nat)(A:Option Addr)(len c:Nat)(w:World)(hc:w.cell? ⟨B,0,none⟩=some (.slice A len c)) :
  Calls prog 152 #[.int .i64 n,.pointer (some ⟨B,0,none⟩)] w (RS (.bool (Ir.outside len n)) w):=by
 go_enter func152, ntmps152
 go_wp2;all_goals go_ret
 all_goals exact⟨dc (by unfold Ir.outside;grind),rfl⟩
theorem kA (n:Int)(B:Nat)(A:Option Addr)(len c:Nat)(w:World)(hc:w.cell? ⟨B,0,none⟩=some (.slice A len c)) :
  Calls prog 149 #[.int .i64 n,.pointer (some ⟨B,0,none⟩)] w (RS (.bool (Ir.outside len n)) w):=by
 go_enter func149, ntmps149
 go_wp2;all_goals go_ret
 all_goals exact⟨dc (by unfold Ir.outside;grind),rfl⟩
theorem jX (v:Value)(g:List (List Int))(w:World)(hg:TabAt w.heap.size w v g) :
  Calls prog 122 #[v] w (RG (.int .i64 (Ir.gval g)) w):=by
 have C:=hg;obtain⟨A,c,rfl,h1,h2,N⟩:=hg;by_cases Q:g.length<1\/10<g.length
 ·have j:Gr w (w.alloc (.cells #[.slice A g.length c] 98)):=(qj _).alloc _;have HV:Hid (Ir.gval g=3):=by show _=_;unfold Ir.gval;rw[pB Q]
  clear C N
  go_enter func122, ntmps122
  go_wp2;all_goals first|omega|(go_ret;exact⟨df (by rw[HV.out]),j⟩)
 obtain⟨W,O⟩:=xJ (w.alloc (.cells #[.slice A g.length c] 98));have j:Gr w W:=by rw[<-O];exact(qj w).alloc _
 have aa:W.heap.size=w.heap.size+1:=by rw[<-O];simp
 have V:W.cell? ⟨w.heap.size,0,none⟩=some (.slice A g.length c):=by rw[<-O];exact px _ _ _ _ _ _ (heap_alloc_new w _)
 have J:Hid (∀w',Gr W w'->w'.cell? ⟨w.heap.size,0,none⟩=some (.slice A g.length c)):=fun w' q=>(q.cell w.heap.size 0 (by omega)).trans V;have p:Hid (Ir.gval g=if g.any (fun l=>decide (2<l.length))=true then 3 else if g.any (fun l=>l.any (Ir.outside g.length))=true then 1 else 0):=by show _=_;unfold Ir.gval;rw[pC Q]
 have y:Hid (Calls prog 150 #[.slice A g.length c,.func (.func 151) #[] #[]] W (RG (.bool (g.any fun l=>decide (2<l.length))) W)) :=
  fE _ _ (enters_of func151 (by kernel_rfl) rfl) _ _ _ _ (C.gr j) (fun l _ I u _ D=>by
    obtain⟨Y,c',rfl,-,-,-⟩:=D
    exact(lG Y l.length c' I).mono fun _ _ h=>⟨h.1,h.2 ▸ qj _⟩)
 have K:Hid (∀l t u,Gr W t->IntsAt t.heap.size t u l->Calls prog 77 #[u,.func (.func 152) #[] #[.pointer (some ⟨w.heap.size,0,none⟩)]] t (RG (.bool (l.any (Ir.outside g.length))) t)) :=
  fun l t u g1 D=>dx _ _ (enters_of func152 (by kernel_rfl) rfl) _ _ _ _ D (fun z _ I g2 =>
    (lH z w.heap.size A g.length c I (J.out I (g1.trans g2))).mono fun _ _ h=>⟨h.1,h.2 ▸ qj _⟩)
 have z1:(1:Int)<=g.length:=by omega
 have z2:(g.length:Int)<=10:=by omega
 obtain⟨bg,og,rfl,R,E⟩:=N (by omega);have HG:=dJ E;obtain⟨q,F⟩:∃q,(g.any fun l=>decide (2<l.length))=q:=⟨_,rfl⟩;rw[F]at p y;clear C N E Q F
 go_enter func122, ntmps122
 cases q with
 | true =>
  go_wp2_with (go_at_call 150;refine y.out.mono ?_;rintro e t ⟨rfl,g1⟩);go_ret;exact⟨df (by rw[p.out];simp),j.trans g1⟩
 | false =>
  go_wp2_with (go_at_call 150;refine y.out.mono ?_;rintro e t ⟨rfl,g1⟩;have b1:=J.out _ g1);clear V
  go_loopw [4,19] (fun _ i wr=>∃k:Nat,k<=g.length/\i=.int .i64 k/\Gr t wr/\Hid ((g.any fun l=>l.any (Ir.outside g.length))=((g.drop k).any fun l=>l.any (Ir.outside g.length)))) (fun _ i _=>g.length-(intOf i).toNat)
  case atStart=>exact⟨0,pR _,rfl,qj _,rfl⟩
  case round =>
   obtain⟨k,hk,rfl,m,d⟩:=hrel;obtain⟨U,rfl⟩:∃U:World,U=wr:=⟨_,rfl⟩;have b2:=J.out _ (g1.trans m);clear b1;rcases hr:g.drop k with _|⟨l,r⟩
   ·have T:=dm hr hk;have Z:Hid (Ir.gval g=0):=by show _=_;rw[p.out,d.out,hr];simp
    subst T;clear hr d;go_wp2;go_ret;exact⟨df (by rw[Z.out]),j.trans (g1.trans m)⟩
   ·obtain⟨ab,X,G⟩:=dj hr;obtain⟨u,D,H⟩:=HG.out k l X;have ac:=((j.trans (g1.trans m)).cell _ _ R).trans D;have L:Hid ((g.any fun l=>l.any (Ir.outside g.length))=(l.any (Ir.outside g.length) || r.any fun l=>l.any (Ir.outside g.length))):=by show _=_;rw[d.out,hr];rfl
    have M:Hid (g.drop (k+1)=r):=G;have B:=dJ (K.out l U u (g1.trans m) (H.gr (j.trans (g1.trans m))));clear hr X G d D H;obtain⟨q,F⟩:=xJ (l.any (Ir.outside g.length));rw[F]at L B;clear F
    cases q with
    | true =>
     go_wp2_with (go_at_call 77;refine B.out.mono ?_;rintro e w2 ⟨rfl,g2⟩);go_ret;exact⟨df (by rw[p.out,L.out];simp),j.trans (g1.trans (m.trans g2))⟩
    | false =>
     go_wp2_with (go_at_call 77;refine B.out.mono ?_;rintro e w2 ⟨rfl,g2⟩);go_roundw;case rel=>exact⟨k+1,by omega,by go_num,m.trans g2,by (show _=_;rw[L.out,M.out];simp)⟩
     case measure=>simp[intOf];omega
theorem iT (v u:Value)(g:List (List Int))(l:List Int)(w:World)(hg:TabAt w.heap.size w v g)(hu:IntsAt w.heap.size w u l) :
  Calls prog 119 #[v,u] w (RG (.int .i64 (Ir.noded g l)) w):=by
 have t:=hg;obtain⟨A,c,rfl,H,I,-⟩:=hg;obtain⟨W,B⟩:=xJ (w.alloc (.cells #[.slice A g.length c] 98));have d:Gr w W:=by rw[<-B];exact(qj w).alloc _
 have F:W.heap.size=w.heap.size+1:=by rw[<-B];simp
 have E:W.cell? ⟨w.heap.size,0,none⟩=some (.slice A g.length c):=by rw[<-B];exact px _ _ _ _ _ _ (heap_alloc_new w _)
 have y:Hid (∀w',Gr W w'->w'.cell? ⟨w.heap.size,0,none⟩=some (.slice A g.length c)):=fun w' q=>(q.cell w.heap.size 0 (by omega)).trans E;have j:=dJ (jX _ g W (t.gr d))
 have m:Hid (∀p,Gr W p->Calls prog 77 #[u,.func (.func 149) #[] #[.pointer (some ⟨w.heap.size,0,none⟩)]] p (RG (.bool (l.any (Ir.outside g.length))) p)) :=
  fun p g1=>dx _ _ (enters_of func149 (by kernel_rfl) rfl) _ _ _ _ (hu.gr (d.trans g1)) (fun z _ W' g2 =>
    (kA z w.heap.size A g.length c W' (y.out W' (g1.trans g2))).mono fun _ _ h=>⟨h.1,h.2 ▸ qj _⟩)
 have r:Hid (Ir.noded g l=if Ir.gval g=0 then (if l.any (Ir.outside g.length)=true then 4 else 0) else Ir.gval g):=by show _=_;rfl
 obtain⟨e,C⟩:=xJ (Ir.gval g);obtain⟨q,D⟩:=xJ (l.any (Ir.outside g.length));rw[C]at j r;rw[D]at m r;clear t hu C D;by_cases h0:e=0
 ·subst h0
  go_enter func119, ntmps119
  cases q with
  | true =>
   go_wp2_with (first|(go_at_call 122;refine j.out.mono ?_;rintro e p ⟨rfl,g1⟩;have b1:=y.out _ g1)|(go_at_call 77;refine(m.out _ g1).mono ?_;rintro e G ⟨rfl,g2⟩));go_ret;exact⟨df (by rw[r.out];simp),d.trans (g1.trans g2)⟩
  | false =>
   go_wp2_with (first|(go_at_call 122;refine j.out.mono ?_;rintro e p ⟨rfl,g1⟩;have b1:=y.out _ g1)|(go_at_call 77;refine(m.out _ g1).mono ?_;rintro e G ⟨rfl,g2⟩));go_ret;exact⟨df (by rw[r.out];simp),d.trans (g1.trans g2)⟩
 ·have J:(e == 0)=false:=by simp[h0]
  go_enter func119, ntmps119
  go_wp2_with (go_at_call 122;refine j.out.mono ?_;rintro e p ⟨rfl,g1⟩;have b1:=y.out _ g1);go_ret;exact⟨df (by rw[r.out,pC h0]),d.trans g1⟩
def nv (bs:List Bool):Value:=.agg (bs.map Value.bool).toArray
theorem ten {α:Type}(bs:List α)(h:bs.length=10):∃a b c d e f g i j k,bs=[a,b,c,d,e,f,g,i,j,k]:=by
 match bs,h with
 | [a,b,c,d,e,f,g,i,j,k],_=>exact⟨a,b,c,d,e,f,g,i,j,k,rfl⟩
namespace Ir
def listFrom:List Bool->Nat->List Int
 | [],_=>[]
 | b::r,k=>if b then (k:Int)::listFrom r (k+1) else listFrom r (k+1)
def beforeBits (g:List (List Int))(z:Int)(n:Nat):List Bool:=(List.range 10).map fun a=>decide (a<n) && Ref.has (g.getD a []) z
end Ir
theorem fQ:∀(bs:List Bool)(k:Nat),(Ir.listFrom bs k).length<=bs.length
 | [],_=>pS _
 | b::r,k=>by
  rw[Ir.listFrom];have:=fQ r (k+1)
  split<;>simp<;>omega
theorem oM (a0 a1 a2 a3 a4 a5 a6 a7 a8 a9:Bool)(w:World):(Instr.index 148 (Value.agg #[Value.bool a0,Value.bool a1,Value.bool a2,Value.bool a3,Value.bool a4,Value.bool a5,Value.bool a6,Value.bool a7,Value.bool a8,Value.bool a9]) (.int .i64 0)).run prog w=.ok (.bool a0) w:=by kernel_rfl
theorem oN (a0 a1 a2 a3 a4 a5 a6 a7 a8 a9:Bool)(w:World):(Instr.index 148 (Value.agg #[Value.bool a0,Value.bool a1,Value.bool a2,Value.bool a3,Value.bool a4,Value.bool a5,Value.bool a6,Value.bool a7,Value.bool a8,Value.bool a9]) (.int .i64 1)).run prog w=.ok (.bool a1) w:=by kernel_rfl
theorem oO (a0 a1 a2 a3 a4 a5 a6 a7 a8 a9:Bool)(w:World):(Instr.index 148 (Value.agg #[Value.bool a0,Value.bool a1,Value.bool a2,Value.bool a3,Value.bool a4,Value.bool a5,Value.bool a6,Value.bool a7,Value.bool a8,Value.bool a9]) (.int .i64 2)).run prog w=.ok (.bool a2) w:=by kernel_rfl
theorem oP (a0 a1 a2 a3 a4 a5 a6 a7 a8 a9:Bool)(w:World):(Instr.index 148 (Value.agg #[Value.bool a0,Value.bool a1,Value.bool a2,Value.bool a3,Value.bool a4,Value.bool a5,Value.bool a6,Value.bool a7,Value.bool a8,Value.bool a9]) (.int .i64 3)).run prog w=.ok (.bool a3) w:=by kernel_rfl
theorem oQ (a0 a1 a2 a3 a4 a5 a6 a7 a8 a9:Bool)(w:World):(Instr.index 148 (Value.agg #[Value.bool a0,Value.bool a1,Value.bool a2,Value.bool a3,Value.bool a4,Value.bool a5,Value.bool a6,Value.bool a7,Value.bool a8,Value.bool a9]) (.int .i64 4)).run prog w=.ok (.bool a4) w:=by kernel_rfl
theorem oR (a0 a1 a2 a3 a4 a5 a6 a7 a8 a9:Bool)(w:World):(Instr.index 148 (Value.agg #[Value.bool a0,Value.bool a1,Value.bool a2,Value.bool a3,Value.bool a4,Value.bool a5,Value.bool a6,Value.bool a7,Value.bool a8,Value.bool a9]) (.int .i64 5)).run prog w=.ok (.bool a5) w:=by kernel_rfl
theorem oS (a0 a1 a2 a3 a4 a5 a6 a7 a8 a9:Bool)(w:World):(Instr.index 148 (Value.agg #[Value.bool a0,Value.bool a1,Value.bool a2,Value.bool a3,Value.bool a4,Value.bool a5,Value.bool a6,Value.bool a7,Value.bool a8,Value.bool a9]) (.int .i64 6)).run prog w=.ok (.bool a6) w:=by kernel_rfl
theorem oT (a0 a1 a2 a3 a4 a5 a6 a7 a8 a9:Bool)(w:World):(Instr.index 148 (Value.agg #[Value.bool a0,Value.bool a1,Value.bool a2,Value.bool a3,Value.bool a4,Value.bool a5,Value.bool a6,Value.bool a7,Value.bool a8,Value.bool a9]) (.int .i64 7)).run prog w=.ok (.bool a7) w:=by kernel_rfl
theorem oU (a0 a1 a2 a3 a4 a5 a6 a7 a8 a9:Bool)(w:World):(Instr.index 148 (Value.agg #[Value.bool a0,Value.bool a1,Value.bool a2,Value.bool a3,Value.bool a4,Value.bool a5,Value.bool a6,Value.bool a7,Value.bool a8,Value.bool a9]) (.int .i64 8)).run prog w=.ok (.bool a8) w:=by kernel_rfl
theorem oV (a0 a1 a2 a3 a4 a5 a6 a7 a8 a9:Bool)(w:World):(Instr.index 148 (Value.agg #[Value.bool a0,Value.bool a1,Value.bool a2,Value.bool a3,Value.bool a4,Value.bool a5,Value.bool a6,Value.bool a7,Value.bool a8,Value.bool a9]) (.int .i64 9)).run prog w=.ok (.bool a9) w:=by kernel_rfl
theorem iQ (bs:List Bool)(h:bs.length=10)(k:Nat)(b:Bool)(hb:bs[k]?=some b)(w:World):(Instr.index 148 (nv bs) (.int .i64 (k:Int))).run prog w=.ok (.bool b) w:=by
 obtain⟨a0,d,a2,a3,a4,a5,g,j,l,a9,rfl⟩:=ten bs h;have m:k<10:=by have:=(oZ.1 hb).1;simpa using this
 rcases (by omega:k=0\/k=1\/k=2\/k=3\/k=4\/k=5\/k=6\/k=7\/k=8\/k=9) with rfl|rfl|rfl|rfl|rfl|rfl|rfl|rfl|rfl|rfl;all_goals (simp at hb;subst hb)
 ·exact oM _ _ _ _ _ _ _ _ _ _ w
 ·exact oN _ _ _ _ _ _ _ _ _ _ w
 ·exact oO _ _ _ _ _ _ _ _ _ _ w
 ·exact oP _ _ _ _ _ _ _ _ _ _ w
 ·exact oQ _ _ _ _ _ _ _ _ _ _ w
 ·exact oR _ _ _ _ _ _ _ _ _ _ w
 ·exact oS _ _ _ _ _ _ _ _ _ _ w
 ·exact oT _ _ _ _ _ _ _ _ _ _ w
 ·exact oU _ _ _ _ _ _ _ _ _ _ w
 ·exact oV _ _ _ _ _ _ _ _ _ _ w
theorem jZ (bs:List Bool)(hb:bs.length=10)(w:World) :
  Calls prog 121 #[nv bs] w fun e w'=>∃v,e=.returned v/\IntsAt w'.heap.size w' v (Ir.listFrom bs 0)/\Gr w w':=by
 obtain⟨i0,Q,E,F,G⟩:=info_parts ej;have M:Hid (∀k,k<10->∃b,bs[k]?=some b):=fun k R=>⟨bs[k]'(by omega),by simp[show k<bs.length by omega]⟩;have L:Hid (bs.length=10):=hb;have I:Hid (Ir.listFrom bs 0=[]++Ir.listFrom (bs.drop 0) 0):=rfl;obtain⟨out,g⟩:=xJ (Ir.listFrom bs 0);rw[g]at I ⊢;have q:Hid (out.length<=10):=by rw[<-g];show _<=10;have:=fQ bs 0;omega
 clear g;obtain⟨a0,u,a2,a3,a4,a5,y,z,A,a9,m⟩:=ten bs hb;have r:=dJ m;rw[show nv bs=.agg #[Value.bool a0,Value.bool u,Value.bool a2,Value.bool a3,Value.bool a4,Value.bool a5,Value.bool y,Value.bool z,Value.bool A,Value.bool a9] by rw[m];rfl];clear m
 go_enter func121, ntmps121
 go_wp2
 have t:Hid (∀(k:Nat)(b:Bool),bs[k]?=some b->∀w,(Instr.index 148 (Value.agg #[Value.bool a0,Value.bool u,Value.bool a2,Value.bool a3,Value.bool a4,Value.bool a5,Value.bool y,Value.bool z,Value.bool A,Value.bool a9]) (.int .i64 (k:Int))).run prog w=.ok (.bool b) w):=by intro k b h w;have:=iQ bs hb k b h w;rw[r.out]at this;exact this
 clear hb;have B:Gr w (w.alloc (.cells #[Value.bool a0,Value.bool u,Value.bool a2,Value.bool a3,Value.bool a4,Value.bool a5,Value.bool y,Value.bool z,Value.bool A,Value.bool a9] 148)):=(qj _).alloc _
 go_loopw [3,4,5,7] (fun s _ _ i wr=>∃(k:Nat)(done:List Int),k<=10/\i=.int .i64 k/\Own1 w.heap.size 3 wr s (done.map (Value.int .i64))/\Gr w wr/\Hid (out=done++Ir.listFrom (bs.drop k) k)) (fun _ _ _ i _=>10-(intOf i).toNat)
 case atStart=>exact⟨0,[],pR _,rfl,Own1.nil _ _ _,B,I⟩
 case round =>
  obtain⟨k,done,R,rfl,j,l,d⟩:=hrel;by_cases D:k<10
  ·obtain⟨b,hb⟩:=M.out k D;have X:=t.out k b hb
   have J:Hid (out=done++(if b then (k:Int)::Ir.listFrom (bs.drop (k+1)) (k+1) else Ir.listFrom (bs.drop (k+1)) (k+1))):=by
    show _=_;rw[d.out]
    have e:bs.drop k=b::bs.drop (k+1):=by obtain⟨N,O⟩:=oZ.1 hb;rw[po N,O]
    rw[e];rfl
   have K:done.length<=10:=by have:=q.out;have:=congrArg List.length d.out;simp at this;omega
   clear hb d;have T:(k:Int)<10:=by omega
   cases b with
   | true =>
    go_wp2_with (at_builtin;refine nF underlying22 Q E F G rfl (by omega) rfl _ _ rfl rfl j rfl rfl (by simp;omega) l.size ?_;intro U V Y p C _);go_roundw;case rel=>exact⟨k+1,done++[(k:Int)],by omega,by go_num,by simpa using p,l.below C (pS _),by (show _=_;rw[J.out];simp)⟩
    case measure=>simp[intOf];omega
   | false =>
    go_wp2;go_roundw;case rel=>exact⟨k+1,done,by omega,by go_num,j,l,by (show _=_;rw[J.out];simp)⟩
    case measure=>simp[intOf];omega
  ·obtain rfl:k=10:=by omega
   have H:Hid (out=done):=by show _=_;rw[d.out,show bs.drop 10=[] by simp[L.out]];simp[Ir.listFrom]
   clear d;go_wp2;go_ret;have W:done.length<=10:=by have:=q.out;rw[H.out]at this;exact this
   exact⟨_,rfl,by rw[H.out];have:=j.ints (by omega);exact this,l⟩
def ARow (B hb:Nat)(w:World)(bs:List Bool):Prop:=w.ownsRow B 148 1 (.slice (some ⟨hb,0,none⟩) 10 10) 10 (bs.map Value.bool)
section
variable {B hb:Nat}{w w':World}{bs:List Bool}
theorem ARow.len (h:ARow B hb w bs):bs.length=10:=by have:=h.1;simpa using this
theorem ARow.cell (h:ARow B hb w bs)(j:Nat)(b:Bool)(hj:bs[j]?=some b):w.cell? ⟨hb,j,none⟩=some (.bool b):=by have g:=h.len;have d:=(oZ.1 hj).1;rw[World.ownsRow.cellAt h j (by omega),pk,hj];rfl
theorem ARow.frozen (h:ARow B hb w bs)(j:Nat):w.frozen? ⟨hb,j,none⟩=false:=World.ownsRow.frozenAt h j
theorem ARow.set_ (h:ARow B hb w bs)(j:Nat)(b:Bool):ARow B hb (w.setCell ⟨hb,j,none⟩ (.bool b)) (bs.set j b):=by have:=(World.ownsRow.stored h j (.bool b)).1;unfold ARow;rw[List.map_set];exact this
theorem ql (h:w.heap[hb]?=some (.cells #[.bool false,.bool false,.bool false,.bool false,.bool false,.bool false,.bool false,.bool false,.bool false,.bool false] 148 (0,0)))(hB:B<=hb):ARow B hb w (List.replicate 10 false) :=
 ⟨rfl,.inr ⟨hb,10,_,rfl,hB,h,pS _,by simp[maxLen],rfl,rfl⟩⟩
theorem ARow.heap (h:ARow B hb w bs):w.heap[hb]?=some (.cells (bs.map Value.bool).toArray 148 (0,0)):=by
 obtain⟨r,l⟩:=h;rcases l with ⟨h,-⟩|⟨g,j,d,e,-,m,-,-,p,q⟩
 ·cases h
 ·cases e;rw[m];have:d.toList=bs.map Value.bool:=by rw[<-q];exact(pq (by simp[p])).symm
  rw[<-this]
theorem ARow.of (h:w.heap[hb]?=some (.cells (bs.map Value.bool).toArray 148 (0,0)))(hl:bs.length=10)(hB:B<=hb):ARow B hb w bs :=
 ⟨by simpa using hl,.inr ⟨hb,10,_,rfl,hB,h,pS _,by simp[maxLen],by simpa using hl,by simp[pq,hl]⟩⟩
theorem ARow.lt (h:ARow B hb w bs):hb<w.heap.size:=by have:=h.heap;exact(pf.1 this).1
theorem ARow.other (h:ARow B hb w bs)(hh:w'.heap[hb]?=w.heap[hb]?):ARow B hb w' bs:=by
 have t:=h;obtain⟨q,l⟩:=h;refine⟨q,?_⟩;rcases l with ⟨h,e⟩|⟨g,j,d,e,m,p,r⟩
 ·exact .inl ⟨h,e⟩
 ·cases e;exact .inr ⟨hb,10,d,rfl,m,hh.trans p,r⟩
end
theorem ib (g:List (List Int))(z:Int)(n:Nat):(Ir.beforeBits g z n).length=10:=by simp[Ir.beforeBits]
theorem ll (g:List (List Int))(z:Int)(n:Nat)(l:List Int)(h:g[n]?=some l)(hn:n<10):(Ir.beforeBits g z n).set n (Ref.has l z)=Ir.beforeBits g z (n+1):=by
 apply List.ext_getElem?;intro i;unfold Ir.beforeBits;rw[List.getElem?_set];by_cases e:n=i
 ·subst e;simp[hn,List.getD,h]
 ·by_cases j:i<10
  ·simp[e,j];by_cases d:i<n
   ·simp[d,show i<n+1 by omega]
   ·simp[d,show ¬i<n+1 by omega]
  ·simp[e,j]
theorem jr (v:Value)(g:List (List Int))(z:Int)(w:World)(hg:TabAt w.heap.size w v g)(hn:g.length<=10) :
  Calls prog 120 #[v,.int .i64 z] w (RG (nv (Ir.beforeBits g z g.length)) w):=by
 obtain⟨A,c,rfl,h1,h2,H⟩:=hg
 have q:∀W:World,W=(w.alloc (.cells #[.bool false,.bool false,.bool false,.bool false,.bool false,.bool false,.bool false,.bool false,.bool false,.bool false] 148)).alloc (.cells #[.bool false,.bool false,.bool false,.bool false,.bool false,.bool false,.bool false,.bool false,.bool false,.bool false] 148)->ARow w.heap.size w.heap.size W (List.replicate 10 false)/\ARow w.heap.size (w.heap.size+1) W (List.replicate 10 false)/\Gr w W:=by intro W T;subst T;exact⟨ql (heap_alloc2_old w _ _) (pS _),ql (heap_alloc2_new w _ _) (by omega),((qj w).alloc _).alloc _⟩
 obtain⟨N,E,O⟩:=q _ rfl;clear q;have M:Ir.beforeBits g z 0=List.replicate 10 false:=by simp[Ir.beforeBits];rfl
 rw[<-M]at E;clear M
 go_enter func120, ntmps120
 go_wp2
 go_loopw [6,7,10] (fun _ _ i wr=>∃k:Nat,k<=g.length/\i=.int .i64 k/\ARow w.heap.size w.heap.size wr (List.replicate 10 false)/\ARow w.heap.size (w.heap.size+1) wr (Ir.beforeBits g z k)/\Gr w wr) (fun _ _ i _=>g.length-(intOf i).toNat)
 case atStart=>exact⟨0,pR _,rfl,N,E,O⟩
 case round =>
  obtain⟨k,hk,rfl,d,j,m⟩:=hrel;obtain⟨F,rfl⟩:∃F:World,F=wr:=⟨_,rfl⟩;clear N E O;by_cases D:k<g.length
  ·obtain⟨b,o,rfl,U,I⟩:=H (by omega);obtain⟨l,C⟩:∃l,g[k]?=some l:=⟨g[k],by simp[D]⟩;obtain⟨u,K,r⟩:=I k l C;have X:=(m.cell _ _ U).trans K;have R:=dJ (fL u l z F (r.gr m));have Q:Hid ((Ir.beforeBits g z k).set k (Ref.has l z)=Ir.beforeBits g z (k+1)):=ll g z k l C (by omega);obtain⟨y,L⟩:∃y,(Ir.beforeBits g z k)[k]?=some y:=⟨(Ir.beforeBits g z k)[k]'(by rw[ib];omega),by simp[show k<(Ir.beforeBits g z k).length by rw[ib];omega]⟩;have B:=j.cell k y L;have V:=j.frozen k;have J:(k:Int)<10:=by omega
   clear C I K r H L;go_wp2_with (go_at_call 95;refine R.out.mono ?_;rintro e w' ⟨rfl,rfl⟩);go_roundw;case rel=>exact⟨k+1,by omega,by go_num,d.other (heap_setCell_other _ _ _ _ (by show w.heap.size≠w.heap.size+1;omega)),by rw[<-Q.out];exact j.set_ k _,m.setCell (by simp) _⟩
   case measure=>simp[intOf];omega
  ·obtain rfl:k=g.length:=by omega
   have G:=dJ j.len;obtain⟨bs,p⟩:=xJ (Ir.beforeBits g z g.length);rw[p]at j G;have t:=dJ p;clear p;obtain⟨a0,Y,a2,a3,a4,a5,Z,a7,a8,a9,rfl⟩:=ten bs G.out;have c0:=j.cell 0 _ rfl;have c1:=j.cell 1 _ rfl;have c2:=j.cell 2 _ rfl;have c3:=j.cell 3 _ rfl;have c4:=j.cell 4 _ rfl;have c5:=j.cell 5 _ rfl;have c6:=j.cell 6 _ rfl;have c7:=j.cell 7 _ rfl;have c8:=j.cell 8 _ rfl;have c9:=j.cell 9 _ rfl;have d0:=d.cell 0 _ rfl;have f0:=d.frozen 0;have d1:=d.cell 1 _ rfl;have f1:=d.frozen 1;have d2:=d.cell 2 _ rfl;have f2:=d.frozen 2;have d3:=d.cell 3 _ rfl;have f3:=d.frozen 3;have d4:=d.cell 4 _ rfl;have f4:=d.frozen 4;have d5:=d.cell 5 _ rfl;have f5:=d.frozen 5;have d6:=d.cell 6 _ rfl;have f6:=d.frozen 6;have d7:=d.cell 7 _ rfl;have f7:=d.frozen 7;have d8:=d.cell 8 _ rfl;have f8:=d.frozen 8;have d9:=d.cell 9 _ rfl;have f9:=d.frozen 9;go_wp2;refine pA (by simp[results,results120,go_sem, *];rfl) rfl ?_;refine⟨du (by rw[t.out];rfl),?_⟩
   iterate 10 refine Gr.setCell ?_ (pS w.heap.size) _
   exact m
theorem eR (g:List (List Int))(z:Int):∀(m b:Nat),g.length<=b+m->Ir.listFrom ((List.range' b m).map fun a=>decide (a<g.length) && Ref.has (g.getD a []) z) b=Ref.beforeFrom z (g.drop b) b
 | 0,b,h=>by rw[pt (by omega)];rfl
 | m+1,b,h=>by
  rw[List.range'_succ,List.map_cons,Ir.listFrom,eR g z m (b+1) (by omega)]
  by_cases hb:b<g.length
  ·rw[po hb,Ref.beforeFrom]
   simp[hb,List.getD]
  ·rw[pt (by omega),pt (by omega)]
   simp[hb,Ref.beforeFrom]
theorem jF (g:List (List Int))(z:Int)(h:g.length<=10):Ir.listFrom (Ir.beforeBits g z g.length) 0=Ref.before g z:=by unfold Ir.beforeBits Ref.before;rw[List.range_eq_range',eR g z 10 0 (by omega)];rfl
theorem eF {g:List (List Int)}(h:Ir.gval g=0):1<=g.length/\g.length<=10:=by
 unfold Ir.gval at h;split at h
 ·cases h
 ·omega
theorem lW {g:List (List Int)}{z:Int}(h:Ir.gval g=0)(h0:0<=z)(h1:z<g.length):Ir.noded g [z]=0:=by unfold Ir.noded;rw[pB h];simp[Ir.outside];omega
theorem lO (w:World)(z:Int):IntsAt (w.heap.size+1) (w.alloc (.cells #[.int .i64 z] 3)) (.slice (some ⟨w.heap.size,0,none⟩) 1 1) [z]:=by
 refine⟨_,_,rfl,pS _,by simp,fun _=>⟨_,_,rfl,by omega,fun j y hy=>?_⟩⟩;have:j=0:=by have:=(oZ.1 hy).1;simp at this;omega
 subst this;simp at hy;subst hy;exact px _ _ _ _ _ _ (heap_alloc_new w _)
theorem kg (v:Value)(g:List (List Int))(z:Int)(w:World)(hg:TabAt w.heap.size w v g)(hv:Ir.gval g=0)(h0:0<=z)(h1:z<g.length) :
  Calls prog 87 #[v,.int .i64 z] w fun e w'=>∃u,e=.returned (.tuple #[u,.int .i64 0])/\IntsAt w'.heap.size w' u (Ref.before g z)/\Gr w w':=by
 have y:=(eF hv).2;obtain⟨W,t⟩:=xJ (w.alloc (.cells #[.int .i64 z] 3));have l:Gr w W:=by rw[<-t];exact(qj w).alloc _
 have A:IntsAt W.heap.size W (.slice (some ⟨w.heap.size,0,none⟩) 1 1) [z]:=by rw[<-t];simpa using lO w z
 have m:=dJ (iT v _ g [z] W (hg.gr l) A);rw[lW hv h0 h1]at m;have p:Hid (∀j,Gr w j->Calls prog 120 #[v,.int .i64 z] j (RG (nv (Ir.beforeBits g z g.length)) j)):=fun j g1=>jr v g z j (hg.gr g1) y
 have q:Hid (∀j,Calls prog 121 #[nv (Ir.beforeBits g z g.length)] j fun e w'=>∃v,e=.returned v/\IntsAt w'.heap.size w' v (Ref.before g z)/\Gr j w'):=by rw[<-jF g z y];exact fun j=>jZ _ (ib _ _ _) j
 obtain⟨r,d⟩:=xJ (nv (Ir.beforeBits g z g.length));rw[d]at p q;clear d hg hv A
 go_enter func87, ntmps87
 go_wp2_with (first|(go_at_call 119;refine m.out.mono ?_;rintro e j ⟨rfl,g1⟩)|(go_at_call 120;refine(p.out _ (l.trans g1)).mono ?_;rintro e D ⟨rfl,g2⟩)|(go_at_call 121;refine(q.out _).mono ?_;rintro e E ⟨C,rfl,B,g3⟩))
 go_ret2;exact⟨C,rfl,B,l.trans (g1.trans (g2.trans g3))⟩
namespace Ir
inductive From (g:List (List Int)) (but:Int):Nat->Nat->Prop
 | here (v:Nat) (h:(v:Int)≠but):From g but v v
 | step (v i:Nat) (t:Int) (h:(v:Int)≠but) (ht:t∈g.getD v []) (hr:From g but t.toNat i):From g but v i
def cnt (s:List Bool):Nat:=s.countP (fun b=>!b)
def Vis (g:List (List Int))(but:Int)(s s':List Bool)(v:Nat):Prop :=
 (∀i:Nat,s[i]?=some true->s'[i]?=some true)/\((v:Int)=but\/s'[v]?=some true)/\(∀i:Nat,s'[i]?=some true->s[i]?=some true\/From g but v i) /\
  (∀i:Nat,s'[i]?=some true->s[i]?=some true\/∀t∈g.getD i [],t=but\/s'[t.toNat]?=some true)
def VisL (g:List (List Int))(but:Int)(s1 si:List Bool)(l done:List Int):Prop :=
 (∀i:Nat,s1[i]?=some true->si[i]?=some true)/\(∀t∈done,t=but\/si[t.toNat]?=some true)/\(∀i:Nat,si[i]?=some true->s1[i]?=some true\/∃t∈l,From g but t.toNat i) /\
  (∀i:Nat,si[i]?=some true->s1[i]?=some true\/∀t∈g.getD i [],t=but\/si[t.toNat]?=some true)
theorem Vis.same (g:List (List Int))(but:Int)(s:List Bool)(v:Nat)(h:(v:Int)=but\/s[v]?=some true):Vis g but s s v :=
 ⟨fun _ h=>h,h,fun _ h=>.inl h,fun _ h=>.inl h⟩
theorem VisL.start (g:List (List Int))(but:Int)(s1:List Bool)(l:List Int):VisL g but s1 s1 l [] :=
 ⟨fun _ h=>h,fun t ht=>by simp at ht,fun _ h=>.inl h,fun _ h=>.inl h⟩
theorem VisL.more {g:List (List Int)}{but:Int}{s1 si sj:List Bool}{l done:List Int}{t:Int}(h:VisL g but s1 si l done)(hv:Vis g but si sj t.toNat)(ht0:0<=t)(ht:t∈l):VisL g but s1 sj l (done++[t]):=by
 obtain⟨m,a2,a3,a4⟩:=h;obtain⟨b1,b2,p,q⟩:=hv;refine⟨fun i j=>b1 i (m i j),?_,?_,?_⟩
 ·intro u d;rcases pI.1 d with d|d
  ·rcases a2 u d with h|h
   ·exact .inl h
   ·exact .inr (b1 _ h)
  ·simp at d;subst d;rcases b2 with h|h
   ·left;omega
   ·exact .inr h
 ·intro i j;rcases p i j with h|h
  ·exact a3 i h
  ·exact .inr ⟨t,ht,h⟩
 ·intro i j;rcases q i j with h|h
  ·rcases a4 i h with h|h
   ·exact .inl h
   ·exact .inr fun u d=>(h u d).imp_right (b1 _)
  ·exact .inr h
theorem VisL.done {g:List (List Int)}{but:Int}{s si:List Bool}{l:List Int}{v:Nat}(h:VisL g but (s.set v true) si l l)(hl:g[v]?=some l)(hv:(v:Int)≠but)(hlt:v<s.length):Vis g but s si v:=by
 obtain⟨p,a2,a3,a4⟩:=h;have q:(s.set v true)[v]?=some true:=by simp[hlt]
 have m:∀i:Nat,(s.set v true)[i]?=some true->i=v\/s[i]?=some true:=by
  intro i d;rw[List.getElem?_set]at d;split at d
  ·left;omega
  ·exact .inr d
 have j:g.getD v []=l:=by simp[List.getD,hl]
 refine⟨fun i d=>p i ?_,.inr (p v q),?_,?_⟩
 ·rw[List.getElem?_set];split
  ·rename_i e;subst e;simp
  ·exact d
 ·intro i d;rcases a3 i d with h|⟨t,r,h⟩
  ·rcases m i h with rfl|h
   ·exact .inr (.here _ hv)
   ·exact .inl h
  ·exact .inr (.step v i t hv (by rw[j];exact r) h)
 ·intro i d;rcases a4 i d with h|h
  ·rcases m i h with rfl|h
   ·right;rw[j];exact a2
   ·exact .inl h
  ·exact .inr h
theorem cnt_le:∀(s s':List Bool),s.length=s'.length->(∀i:Nat,s[i]?=some true->s'[i]?=some true)->cnt s'<=cnt s
 | [],[],_,_=>pS _
 | a::r,b::q,hl,h=>by
  have ih:=cnt_le r q (by simpa using hl) (fun i hi=>by have:=h (i+1) (by simpa using hi);simpa using this)
  have h0:=h 0;unfold cnt at *;cases a<;>cases b<;>simp_all<;>omega
theorem cnt_set:∀(s:List Bool)(v:Nat),s[v]?=some false->cnt (s.set v true)+1=cnt s
 | [],v,h=>by simp at h
 | a::r,0,h=>by simp at h;subst h;simp[cnt]
 | a::r,v+1,h=>by
  have:=cnt_set r v (by simpa using h)
  unfold cnt at *;cases a<;>simp[List.set]<;>omega
end Ir
section
variable (g:List (List Int))(but:Int)(vg:Value)(w0:World)(bb gb:Nat)
def fi (bb hb gb:Nat):Value:=.func (.func 153) #[] #[.pointer (some ⟨bb,0,none⟩),.pointer (some ⟨hb,0,none⟩),.pointer (some ⟨gb,0,none⟩),.pointer (some ⟨hb+1,0,none⟩)]
theorem mL (hg:TabAt w0.heap.size w0 vg g)(hn:g.length<=10)(hok:Hid (∀l∈g,∀t∈l,0<=t/\t<(g.length:Int)))(hbb:bb<w0.heap.size)(hgb:gb<w0.heap.size)
  (hcb:w0.cell? ⟨bb,0,none⟩=some (.int .i64 but)) (hcg:w0.cell? ⟨gb,0,none⟩=some vg) :
  ∀(n:Nat)(s:List Bool)(v:Nat)(w:World),Ir.cnt s<=n->v<g.length->Gr w0 w->ARow w0.heap.size w0.heap.size w s->w.cell? ⟨w0.heap.size+1,0,none⟩=some (fi bb w0.heap.size gb) ->
   Calls prog 153 #[.int .i64 v,.pointer (some ⟨bb,0,none⟩),.pointer (some ⟨w0.heap.size,0,none⟩),.pointer (some ⟨gb,0,none⟩),.pointer (some ⟨w0.heap.size+1,0,none⟩)] w fun e w' =>
    e=.returned (.tuple #[])/\∃s',Ir.Vis g but s s' v/\ARow w0.heap.size w0.heap.size w' s'/\Gr w0 w'/\w'.cell? ⟨w0.heap.size+1,0,none⟩=some (fi bb w0.heap.size gb):=by
 intro n
 induction n with
 | zero =>
  intro s v w U hv m d j;have Z:=d.len;have af:=(m.cell _ 0 hbb).trans hcb
  have J:s[v]?=some true:=by
   have:v<s.length:=by omega
   cases h:s[v]'this with
   | true=>simp[this,h]
   | false =>
    have:=Ir.cnt_set s v (by simp[this,h]);omega
  have ai:=d.cell v true J;have Y:(v:Int)<10:=by omega
  have O:Hid (Ir.Vis g but s s v):=Ir.Vis.same g but s v (.inr J);have N:=dJ d;clear Z J d U;rcases Decidable.em ((v:Int)=but) with h|h
  ·have hb:((v:Int) == but)=true:=by simp[h]
   go_enter func153, ntmps153
   go_wp2;refine pA (results_none rfl _ _ _) rfl ?_;exact⟨rfl,s,O.out,N.out,m,j⟩
  ·have hb:((v:Int) == but)=false:=by simp[h]
   go_enter func153, ntmps153
   go_wp2;refine pA (results_none rfl _ _ _) rfl ?_;exact⟨rfl,s,O.out,N.out,m,j⟩
 | succ n ih =>
  intro s v w U hv m d j;have Z:=d.len;have af:=(m.cell _ 0 hbb).trans hcb;have Y:(v:Int)<10:=by omega
  obtain⟨y,Q⟩:∃y,s[v]?=some y:=⟨s[v]'(by omega),by simp[show v<s.length by omega]⟩;have ai:=d.cell v y Q;have ao:=d.frozen v;rcases Decidable.em ((v:Int)=but) with h|h
  ·have hb:((v:Int) == but)=true:=by simp[h]
   have O:Hid (Ir.Vis g but s s v):=Ir.Vis.same g but s v (.inl h);have N:=dJ d;clear Z Q d U h ih
   go_enter func153, ntmps153
   go_wp2;refine pA (results_none rfl _ _ _) rfl ?_;exact⟨rfl,s,O.out,N.out,m,j⟩
  ·have hb:((v:Int) == but)=false:=by simp[h]
   cases y with
   | true =>
    have O:Hid (Ir.Vis g but s s v):=Ir.Vis.same g but s v (.inr Q);have N:=dJ d;clear Z Q d U h ih
    go_enter func153, ntmps153
    go_wp2;refine pA (results_none rfl _ _ _) rfl ?_;exact⟨rfl,s,O.out,N.out,m,j⟩
   | false =>
    have H:Ir.cnt (s.set v true)<=n:=by have:=Ir.cnt_set s v Q;omega
    obtain⟨l,D⟩:∃l,g[v]?=some l:=⟨g[v],by simp[hv]⟩;have HD:Hid (∀z,Ir.VisL g but (s.set v true) z l l->Ir.Vis g but s z v):=fun z q=>q.done D h (by omega);have ad:Hid (∀t∈l,0<=t/\t<(g.length:Int)):=hok.out l (pa D);have p:=d.set_ v true;obtain⟨s1,aa⟩:=xJ (s.set v true);rw[aa]at p HD H;have A:Gr w0 (w.setCell ⟨w0.heap.size,v,none⟩ (.bool true)):=m.setCell (pS _) _
    have K:(w.setCell ⟨w0.heap.size,v,none⟩ (.bool true)).cell? ⟨w0.heap.size+1,0,none⟩=some (fi bb w0.heap.size gb):=by exact(World.cell?_setCell_other _ _ _ _ (by simp)).trans j
    obtain⟨Ag,cg,rfl,-,-,g3⟩:=hg;obtain⟨bg,og,rfl,ah,W⟩:=g3 (by omega);obtain⟨u,hu,am⟩:=W v l D;have ap:=(A.cell _ 0 hgb).trans hcg;have au:=(A.cell _ _ ah).trans hu;obtain⟨Al,cl,rfl,p1,p2,p3⟩:=am;have P3:=dJ p3;have IH:=dJ ih;have zv:(v:Int)<(g.length:Int):=by omega
    have ae:Hid (Ir.VisL g but s1 s1 l (l.take 0)):=Ir.VisL.start g but s1 l;have ab:Hid (Ir.cnt s1<=n):=H;have T:=dJ p;clear Z Q d U h ih D aa W g3 hu p3 p H
    go_enter func153, ntmps153
    go_wp2
    go_loopw [7,23] (fun _ i wr=>∃(k:Nat)(z:List Bool),k<=l.length/\i=.int .i64 k/\Gr w0 wr/\wr.cell? ⟨w0.heap.size+1,0,none⟩=some (fi bb w0.heap.size gb)/\Hid (ARow w0.heap.size w0.heap.size wr z)/\Hid (Ir.VisL g but s1 z l (l.take k))) (fun _ i _=>l.length-(intOf i).toNat)
    case atStart=>exact⟨0,s1,pR _,rfl,A,K,T,ae⟩
    case round =>
     obtain⟨k,z,hk,rfl,B,M,F,G⟩:=hrel;obtain⟨wo,rfl⟩:∃wo:World,wo=wr:=⟨_,rfl⟩;rcases hr:l.drop k with _|⟨t,r⟩
     ·have aj:=dm hr hk;subst aj;have HF:Hid (Ir.Vis g but s z v):=HD.out z (by have:=G.out;rwa [pE]at this);clear hr;go_wp2
      go_end0
      exact⟨rfl,z,HF.out,F.out,B,M⟩
     ·obtain⟨aq,hx,ak⟩:=dj hr;obtain⟨b,o,rfl,ag,V⟩:=P3.out (by omega);have ht:=V k t hx;have ar:=(B.cell _ _ ag).trans ht;have C:=pa hx;obtain⟨q0,q1⟩:=ad.out t C;obtain⟨tn,rfl⟩:=pg q0;have al:tn<g.length:=by omega
      have E:Ir.cnt z<=n:=Nat.le_trans (Ir.cnt_le s1 z (by rw[T.out.len,F.out.len]) G.out.1) ab.out;have ac:=dJ (IH.out z tn wo E al B F.out M)
      have HT:Hid (l.take (k+1)=l.take k++[(tn:Int)]):=by show _=_;obtain⟨e1,e2⟩:=oZ.1 hx;rw[pG e1,e2]
      have R:=dJ C;clear hr hx ak V ht C E;unfold fi at M;go_wp2_with (go_at_call 153;(refine ac.out.mono ?_;rintro e w2 ⟨rfl,sj,an,I,X,L⟩));go_roundw;case rel=>exact⟨k+1,sj,by omega,by go_num,X,L,I,by (show Ir.VisL _ _ _ _ _ _;rw[HT.out];exact G.out.more (by simpa using an) (by omega) R.out)⟩
      case measure=>simp[intOf];omega
end
namespace Ir
theorem vis_from {g:List (List Int)}{but:Int}{s s':List Bool}(h:Vis g but s s' 0)(hs:∀i:Nat,s[i]?≠some true)(hok:∀l∈g,∀t∈l,0<=t/\t<(g.length:Int)):∀i:Nat,s'[i]?=some true↔From g but 0 i:=by
 obtain⟨-,r,u,y⟩:=h
 have m:∀v i,From g but v i->s'[v]?=some true->s'[i]?=some true:=by
  intro v i d
  induction d with
  | here v h=>exact fun h=>h
  | step v i t h ht hr ih =>
   intro B;apply ih;rcases y v B with j|j
   ·exact absurd j (hs v)
   ·rcases j t ht with p|p
    ·exfalso;have C:(t.toNat:Int)≠but:=by cases hr with|here _ q=>exact q|step _ _ _ q _ _=>exact q
     have D:0<=t:=by
      cases hl:g[v]? with
      | none=>simp[List.getD,hl]at ht
      | some l =>
       have A:t∈l:=by simpa[List.getD,hl] using ht
       exact(hok l (pa hl) t A).1
     omega
    ·exact p
 intro i;constructor
 ·intro z;rcases u i z with h|h
  ·exact absurd h (hs i)
  ·exact h
 ·intro d;refine m 0 i d ?_;rcases r with h|h
  ·exfalso
   cases d with
   | here _ q=>exact q h
   | step _ _ _ q _ _=>exact q h
  ·exact h
def IsReach (g:List (List Int))(but:Int)(s:List Bool):Prop:=s.length=10/\∀i:Nat,s[i]?=some true↔From g but 0 i
end Ir
theorem gi {g:List (List Int)}(h:Ir.gval g=0):∀l∈g,∀t∈l,0<=t/\t<(g.length:Int):=by
 intro l j t m;unfold Ir.gval at h;split at h
 ·cases h
 ·split at h
  ·cases h
  ·split at h
   ·cases h
   ·rename_i d
    have:Ir.outside g.length t=false:=by
     cases q:Ir.outside g.length t with
     | false=>rfl
     | true=>exact absurd (pP.2 ⟨l,j,pP.2 ⟨t,m,q⟩⟩) d
    unfold Ir.outside at this;simp at this;omega
theorem jd (V:World)(x y:Value)(t:TypeId)(n:Nat)(hn:n=V.heap.size)(hx:x.oneCell'=true):Sem.run prog (store ⟨n,0,none⟩ x) (V.alloc (.cells #[y] t))=.ok () (V.alloc (.cells #[x] t)):=by subst hn;have h:=heap_alloc_new V (.cells #[y] t);have d:=cell_of_one h;have g:=free_of_one h;rw[run_store _ _ _ _ _ hx,d];simp only[g];rw[World.setCell_alloc_at _ _ _ _ _ rfl];rfl
theorem gy (vg:Value)(g:List (List Int))(but:Int)(w:World)(hg:TabAt w.heap.size w vg g)(hv:Ir.gval g=0) :
  Calls prog 123 #[vg,.int .i64 but] w fun e w'=>∃s,e=.returned (nv s)/\Ir.IsReach g but s/\Gr w w':=by
 obtain⟨V,U⟩:=eF hv;have t:=gi hv;have B:=hg;obtain⟨A,c,rfl,-,-,-⟩:=hg
 have H:∃w0 W,((((w.alloc (.cells #[.slice A g.length c] 98)).alloc (.cells #[.int .i64 but] 3)).alloc (.cells #[Value.bool false,Value.bool false,Value.bool false,Value.bool false,Value.bool false,Value.bool false,Value.bool false,Value.bool false,Value.bool false,Value.bool false] 148)).alloc (.cells #[Value.bool false,Value.bool false,Value.bool false,Value.bool false,Value.bool false,Value.bool false,Value.bool false,Value.bool false,Value.bool false,Value.bool false] 148)).alloc (.cells #[fi (w.heap.size+1) (w.heap.size+3) w.heap.size] 124)=W /\
   Gr w w0/\w0.heap.size=w.heap.size+3/\w0.cell? ⟨w.heap.size,0,none⟩=some (.slice A g.length c)/\w0.cell? ⟨w.heap.size+1,0,none⟩=some (.int .i64 but)/\ARow w.heap.size (w.heap.size+2) w0 (List.replicate 10 false)/\Gr w0 W /\
   ARow w0.heap.size (w.heap.size+3) W (List.replicate 10 false)/\W.cell? ⟨w.heap.size+3+1,0,none⟩=some (fi (w.heap.size+1) (w.heap.size+3) w.heap.size):=by
  obtain⟨w0,m⟩:=xJ (((w.alloc (.cells #[.slice A g.length c] 98)).alloc (.cells #[.int .i64 but] 3)).alloc (.cells #[Value.bool false,Value.bool false,Value.bool false,Value.bool false,Value.bool false,Value.bool false,Value.bool false,Value.bool false,Value.bool false,Value.bool false] 148));have l:w0.heap.size=w.heap.size+3:=by rw[<-m];simp
  refine⟨w0,_,rfl,?_,l,?_,?_,?_,?_,?_,?_⟩
  ·rw[<-m];exact(((qj w).alloc _).alloc _).alloc _
  ·rw[<-m];exact(((qj _).alloc _).cell w.heap.size 0 (by simp;omega)).trans ((((qj _).alloc _).cell w.heap.size 0 (by simp)).trans (px _ _ _ _ _ _ (heap_alloc_new w _)))
  ·rw[<-m];have e:(w.alloc (.cells #[.slice A g.length c] 98)).heap.size=w.heap.size+1:=by simp
   have:=px _ _ 0 _ _ _ (heap_alloc_new (w.alloc (.cells #[.slice A g.length c] 98)) (.cells #[.int .i64 but] 3));rw[e]at this;exact(((qj _).alloc _).cell (w.heap.size+1) 0 (by simp)).trans this
  ·rw[<-m];refine ql ?_ (by omega);have e:((w.alloc (.cells #[.slice A g.length c] 98)).alloc (.cells #[.int .i64 but] 3)).heap.size=w.heap.size+2:=by simp
   have:=heap_alloc_new ((w.alloc (.cells #[.slice A g.length c] 98)).alloc (.cells #[.int .i64 but] 3)) (.cells #[Value.bool false,Value.bool false,Value.bool false,Value.bool false,Value.bool false,Value.bool false,Value.bool false,Value.bool false,Value.bool false,Value.bool false] 148);rw[e]at this;exact this
  ·rw[m];exact((qj w0).alloc _).alloc _
  ·rw[m,<-l];exact ql (heap_alloc2_old w0 _ _) (pS _)
  ·rw[m,<-l];exact px _ _ _ _ _ _ (heap_alloc2_new w0 _ _)
 obtain⟨w0,W,K,y,l,D,z,F,C,u,p⟩:=H
 have L:Hid (Calls prog 153 #[.int .i64 0,.pointer (some ⟨w.heap.size+1,0,none⟩),.pointer (some ⟨w.heap.size+3,0,none⟩),.pointer (some ⟨w.heap.size,0,none⟩),.pointer (some ⟨w.heap.size+3+1,0,none⟩)] W fun e w' =>
       e=.returned (.tuple #[])/\∃q,Ir.Vis g but (List.replicate 10 false) q 0/\ARow w0.heap.size (w.heap.size+3) w' q/\Gr w0 w'):=by
  have:=mL g but (.slice A g.length c) w0 (w.heap.size+1) w.heap.size (B.gr y) U t (by omega) (by omega) z D 10 (List.replicate 10 false) 0 W (by simp[Ir.cnt]) (by omega) C (by rw[l];rw[l]at u;exact u) (by rw[l];exact p);rw[l]at this ⊢;exact this.mono fun _ _ ⟨O,q,Q,R,T,_⟩=>⟨O,q,Q,R,T⟩
 have M:Hid (∀q,Ir.Vis g but (List.replicate 10 false) q 0->q.length=10->Ir.IsReach g but q):=fun q h hl=>⟨hl,Ir.vis_from h (fun i=>by rw[pu];split<;>simp) t⟩;unfold fi at K;have G:=jd ((((w.alloc (.cells #[.slice A g.length c] 98)).alloc (.cells #[.int .i64 but] 3)).alloc (.cells #[Value.bool false,Value.bool false,Value.bool false,Value.bool false,Value.bool false,Value.bool false,Value.bool false,Value.bool false,Value.bool false,Value.bool false] 148)).alloc (.cells #[Value.bool false,Value.bool false,Value.bool false,Value.bool false,Value.bool false,Value.bool false,Value.bool false,Value.bool false,Value.bool false,Value.bool false] 148)) (fi (w.heap.size+1) (w.heap.size+1+1+1) w.heap.size) .nilFunc 124 (w.heap.size+1+1+1+1) (by simp) rfl;rw[show w.heap.size+3=w.heap.size+1+1+1 by omega]at K L p;unfold fi at G p;rw[K]at G;have I:=dJ F;have J:=dJ l;clear B hv t D z F u C l
 go_enter func123, ntmps123
 go_wp2_with (go_at_call 153;refine L.out.mono ?_;rintro e X ⟨rfl,s,r,j,E⟩;have N:=dJ (M.out s r j.len);clear r;have d:ARow w.heap.size (w.heap.size+1+1) X (List.replicate 10 false):=I.out.other (E.heap _ (by have:=J.out;omega));obtain⟨a0,Y,a2,a3,a4,a5,Z,a7,a8,a9,rfl⟩:=ten s j.len;have c0:=j.cell 0 _ rfl;have c1:=j.cell 1 _ rfl;have c2:=j.cell 2 _ rfl;have c3:=j.cell 3 _ rfl;have c4:=j.cell 4 _ rfl;have c5:=j.cell 5 _ rfl;have c6:=j.cell 6 _ rfl;have c7:=j.cell 7 _ rfl;have c8:=j.cell 8 _ rfl;have c9:=j.cell 9 _ rfl;have d0:=d.cell 0 _ rfl;have f0:=d.frozen 0;have d1:=d.cell 1 _ rfl;have f1:=d.frozen 1;have d2:=d.cell 2 _ rfl;have f2:=d.frozen 2;have d3:=d.cell 3 _ rfl;have f3:=d.frozen 3;have d4:=d.cell 4 _ rfl;have f4:=d.frozen 4;have d5:=d.cell 5 _ rfl;have f5:=d.frozen 5;have d6:=d.cell 6 _ rfl;have f6:=d.frozen 6;have d7:=d.cell 7 _ rfl;have f7:=d.frozen 7;have d8:=d.cell 8 _ rfl;have f8:=d.frozen 8;have d9:=d.cell 9 _ rfl;have f9:=d.frozen 9;clear p j d);refine pA (by simp[results,results123,go_sem, *];rfl) rfl ?_;refine⟨_,rfl,N.out,?_⟩
 iterate 10 refine Gr.setCell ?_ (by show w.heap.size<=w.heap.size+1+1;omega) _
 exact y.trans E
end
section
namespace Ir
section
variable {g:List (List Int)}{but:Int}
theorem From.ne {v i:Nat}(h:From g but v i):(v:Int)≠but:=by cases h with|here _ q=>exact q|step _ _ _ q _ _=>exact q
theorem From.snoc {v i:Nat}(h:From g but v i):∀{t:Int},t∈g.getD i []->(t.toNat:Int)≠but->From g but v t.toNat:=by
 induction h with
 | here v q=>exact fun j d=>.step v _ _ q j (.here _ d)
 | step v i t q j _ ih=>exact fun l d=>.step v _ t q j (ih l d)
def Sound (g:List (List Int))(but:Int)(out:List Bool):Prop:=∀i:Nat,out[i]?=some true->From g but 0 i
def Leq (a b:List Bool):Prop:=a.length=b.length/\∀i:Nat,a[i]?=some true->b[i]?=some true
theorem Leq.refl (a:List Bool):Leq a a:=⟨rfl,fun _ h=>h⟩
theorem Leq.trans {a b c:List Bool}(h:Leq a b)(k:Leq b c):Leq a c:=⟨h.1.trans k.1,fun i d=>k.2 i (h.2 i d)⟩
theorem cnt_lt:∀(s s':List Bool),Leq s s'->s≠s'->cnt s'<cnt s
 | [],[],_,h=>absurd rfl h
 | [],_::_,h,_=>by have:=h.1;simp at this
 | _::_,[],h,_=>by have:=h.1;simp at this
 | a::r,b::q,hl,h=>by
  have d:Leq r q:=⟨by have:=hl.1;simpa using this,fun i g=>by have:=hl.2 (i+1) (by simpa using g);simpa using this⟩;have h0:=hl.2 0;by_cases e:r=q
  ·subst e;unfold cnt;cases a<;>cases b<;>simp_all
  ·have:=cnt_lt r q d e;unfold cnt at *;cases a<;>cases b<;>simp_all<;>omega
theorem edge_leq (out:List Bool)(t:Int):Leq out (Ref.spreadEdge but out t):=by
 unfold Ref.spreadEdge;split
 ·exact Leq.refl _
 ·refine⟨by simp,fun i d=>?_⟩;rw[List.getElem?_set];split
  ·rename_i e;subst e;have:=(oZ.1 d).1;simp[this]
  ·exact d
theorem edges_leq (l:List Int):∀(out:List Bool),Leq out (l.foldl (Ref.spreadEdge but) out):=by
 induction l with
 | nil=>exact fun _=>Leq.refl _
 | cons t r ih=>exact fun out=>(edge_leq out t).trans (ih _)
theorem block_leq (out:List Bool)(b:Nat):Leq out (Ref.spreadBlock but g out b):=by
 unfold Ref.spreadBlock;split
 ·exact edges_leq _ _
 ·exact Leq.refl _
theorem blocks_leq (l:List Nat):∀(out:List Bool),Leq out (l.foldl (Ref.spreadBlock but g) out):=by
 induction l with
 | nil=>exact fun _=>Leq.refl _
 | cons t r ih=>exact fun out=>(block_leq out t).trans (ih _)
theorem edge_sound {out:List Bool}{t:Int}(h:Sound g but out)(ht:t≠but->From g but 0 t.toNat):Sound g but (Ref.spreadEdge but out t):=by
 unfold Ref.spreadEdge;split
 ·exact h
 ·rename_i j;intro i d;rw[List.getElem?_set]at d;split at d
  ·rename_i e;subst e;exact ht j
  ·exact h i d
theorem edges_sound (l:List Int):∀{out:List Bool},Sound g but out->(∀t∈l,t≠but->From g but 0 t.toNat)->Sound g but (l.foldl (Ref.spreadEdge but) out):=by
 induction l with
 | nil=>exact fun h _=>h
 | cons t r ih=>exact fun h d=>ih (edge_sound h (d t (by simp))) fun u hu=>d u (by simp[hu])
theorem getD_true {out:List Bool}{b:Nat}(h:out.getD b false=true):out[b]?=some true:=by
 cases q:out[b]? with
 | none=>simp[List.getD,q]at h
 | some x=>simp[List.getD,q]at h;rw[h]
theorem block_sound {out:List Bool}{b:Nat}(hok:∀l∈g,∀t∈l,0<=t/\t<(g.length:Int))(h:Sound g but out):Sound g but (Ref.spreadBlock but g out b):=by
 unfold Ref.spreadBlock;split
 ·rename_i j;refine edges_sound _ h fun t d p=>(h b (getD_true j)).snoc d ?_
  cases hl:g[b]? with
  | none=>simp[List.getD,hl]at d
  | some l =>
   have m:t∈l:=by simpa[List.getD,hl] using d
   have:=(hok l (pa hl) t m).1;omega
 ·exact h
theorem blocks_sound (hok:∀l∈g,∀t∈l,0<=t/\t<(g.length:Int))(l:List Nat):∀{out:List Bool},Sound g but out->Sound g but (l.foldl (Ref.spreadBlock but g) out):=by
 induction l with
 | nil=>exact fun h=>h
 | cons t r ih=>exact fun h=>ih (block_sound hok h)
theorem spread_sound (hok:∀l∈g,∀t∈l,0<=t/\t<(g.length:Int)):∀(n:Nat){out:List Bool},Sound g but out->Sound g but (Ref.spread but g n out)
 | 0,_,h=>h
 | n+1,_,h=>spread_sound hok n (blocks_sound hok _ h)
theorem spread_leq:∀(n:Nat)(out:List Bool),Leq out (Ref.spread but g n out)
 | 0,_=>Leq.refl _
 | n+1,out=>(blocks_leq _ out).trans (spread_leq n _)
def Closed (g:List (List Int))(but:Int)(out:List Bool):Prop:=∀b:Nat,out[b]?=some true->∀t∈g.getD b [],t=but\/out[t.toNat]?=some true
theorem edges_set (l:List Int):∀(out:List Bool)(t:Int),t∈l->t≠but->t.toNat<out.length->(l.foldl (Ref.spreadEdge but) out)[t.toNat]?=some true:=by
 induction l with
 | nil=>exact fun _ _ h=>by simp at h
 | cons u r ih =>
  intro out t d j g;rcases List.mem_cons.1 d with rfl|d
  ·refine(edges_leq r _).2 _ ?_;unfold Ref.spreadEdge;rw[pC j];simp[g]
  ·exact ih _ t d j (by rw[<-(edge_leq out u).1];exact g)
theorem blocks_set (hok:∀l∈g,∀t∈l,0<=t/\t<(g.length:Int))(l:List Nat):∀(out:List Bool),out.length=g.length->∀b∈l,out[b]?=some true->∀t∈g.getD b [],t=but\/(l.foldl (Ref.spreadBlock but g) out)[t.toNat]?=some true:=by
 induction l with
 | nil=>exact fun _ _ _ h=>by simp at h
 | cons c r ih =>
  intro out p b m d t j;rcases List.mem_cons.1 m with rfl|m
  ·by_cases e:t=but
   ·exact .inl e
   ·right;refine(blocks_leq r _).2 _ ?_;unfold Ref.spreadBlock;rw[pB (by simp[List.getD,d])];refine edges_set _ _ t j e ?_
    cases hgl:g[b]? with
    | none=>simp[List.getD,hgl]at j
    | some q =>
     have u:t∈q:=by simpa[List.getD,hgl] using j
     have:=hok q (pa hgl) t u;omega
  ·exact ih _ (by rw[<-(block_leq out c).1];exact p) b m ((block_leq out c).2 b d) t j
theorem round_closed (hok:∀l∈g,∀t∈l,0<=t/\t<(g.length:Int)){out:List Bool}(hl:out.length=g.length)(h:Ref.spreadRound but g out=out):Closed g but out:=by
 intro b d t m;have j:=(oZ.1 d).1;have:=blocks_set (but:=but) hok (List.range g.length) out hl b (by simp;omega) d t m;have e:(List.range g.length).foldl (Ref.spreadBlock but g) out=out:=h
 rwa [e]at this
theorem spread_fix {out:List Bool}(h:Ref.spreadRound but g out=out):∀n,Ref.spread but g n out=out
 | 0=>rfl
 | n+1=>by rw[Ref.spread,h];exact spread_fix h n
theorem spread_closed (hok:∀l∈g,∀t∈l,0<=t/\t<(g.length:Int)):∀(n:Nat)(out:List Bool),out.length=g.length->cnt out<=n->Closed g but (Ref.spread but g n out)
 | 0,out,hl,hc=>by
  intro b p t m
  right
  have r:=(oZ.1 p).1
  cases hgl:g[b]? with
  | none=>simp[List.getD,hgl]at m
  | some q =>
   have u:t∈q:=by simpa[List.getD,hgl] using m
   have y:=hok q (pa hgl) t u;show out[t.toNat]?=some true;have d:t.toNat<out.length:=by omega
   cases q2:out[t.toNat] with
   | true=>simp[d,q2]
   | false =>
    have:=cnt_set out t.toNat (by simp[d,q2]);omega
 | n+1,out,hl,hc=>by
  by_cases e:Ref.spreadRound but g out=out
  ·rw[spread_fix e];exact round_closed hok hl e
  ·have j:Leq out (Ref.spreadRound but g out):=blocks_leq _ out;have:=cnt_lt _ _ j (fun q=>e q.symm);exact spread_closed hok n _ (by rw[<-j.1];exact hl) (by omega)
theorem reached_from (hn:1<=g.length)(hok:∀l∈g,∀t∈l,0<=t/\t<(g.length:Int)):∀i:Nat,(Ref.reached g but)[i]?=some true↔From g but 0 i:=by
 intro i;unfold Ref.reached;by_cases h0:but=0
 ·rw[pB h0];constructor
  ·intro h;rw[pu]at h;split at h<;>cases h
  ·intro h;exact absurd h0.symm h.ne
 ·rw[pC h0]
  have y:Sound g but ((List.replicate g.length false).set 0 true):=by
   intro i d;rw[List.getElem?_set]at d;split at d
   ·rename_i e;subst e;exact .here 0 (fun e=>h0 e.symm)
   ·rw[pu]at d;split at d<;>cases d
  constructor
  ·exact spread_sound hok _ y i
  ·intro m;have j:=spread_closed (but:=but) hok g.length ((List.replicate g.length false).set 0 true) (by simp) (by unfold cnt;exact Nat.le_trans List.countP_le_length (by simp))
   have p:∀v i,From g but v i->(Ref.spread but g g.length ((List.replicate g.length false).set 0 true))[v]?=some true->(Ref.spread but g g.length ((List.replicate g.length false).set 0 true))[i]?=some true:=by
    intro v i m
    induction m with
    | here v h=>exact fun h=>h
    | step v i t h ht hr ih =>
     intro z;apply ih;rcases j v z t ht with r|r
     ·exfalso;have A:=hr.ne
      cases hgl:g[v]? with
      | none=>simp[List.getD,hgl]at ht
      | some q =>
       have u:t∈q:=by simpa[List.getD,hgl] using ht
       have:=hok q (pa hgl) t u;omega
     ·exact r
   refine p 0 i m ((spread_leq _ _).2 0 ?_);rw[List.getElem?_set,pB rfl,pB (by rw[List.length_replicate];omega)]
theorem IsReach.get {s:List Bool}(h:IsReach g but s)(hn:1<=g.length)(hok:∀l∈g,∀t∈l,0<=t/\t<(g.length:Int))(i:Nat)(hi:i<10):s[i]?=some ((Ref.reached g but).getD i false):=by
 have j:=h.2 i;have m:=reached_from (but:=but) hn hok i;obtain⟨y,d⟩:∃y,s[i]?=some y:=⟨s[i]'(by have:=h.1;omega),by simp[show i<s.length by have:=h.1;omega]⟩
 cases y with
 | true =>
  have:=m.2 (j.1 d);simp[List.getD,this,d]
 | false =>
  rw[d]
  cases q:(Ref.reached g but).getD i false with
  | false=>rfl
  | true=>have:=j.2 (m.1 (getD_true q));rw[d]at this;exact this
theorem from_avoid {a:Nat}(ha:¬From g (-1) 0 a):∀v i,From g (-1) v i->From g (-1) 0 v->From g (a:Int) v i:=by
 intro v i h
 induction h with
 | here v q=>exact fun d=>.here v (fun e=>ha (by have:v=a:=by omega
                                                 rw[<-this];exact d))
 | step v i t q ht hr ih =>
  intro d
  have j:(v:Int)≠a:=fun e=>ha (by have:v=a:=by omega
                                  rw[<-this];exact d)
  exact .step v i t j ht (ih (d.snoc ht hr.ne))
end
end Ir
end
section
open Go.RowKit
def rb (g:List (List Int))(i:Nat):Bool:=(Ref.reached g (-1)).getD i false
def Ir.reachedL (g:List (List Int)):List Int:=Ir.listFrom ((List.range 10).map (rb g)) 0
theorem gO {g:List (List Int)}{s:List Bool}(hv:Ir.gval g=0)(h:Ir.IsReach g (-1) s):s=(List.range 10).map (rb g):=by
 apply List.ext_getElem?;intro i;by_cases d:i<10
 ·rw[h.get (eF hv).1 (gi hv) i d];simp[d,rb]
 ·have:=h.1;rw[pr (by omega),pr (by simp;omega)]
theorem jj (v:Value)(g:List (List Int))(w:World)(hg:TabAt w.heap.size w v g)(hv:Ir.gval g=0) :
  Calls prog 94 #[v] w fun e w'=>∃u,e=.returned (.tuple #[u,.int .i64 0])/\IntsAt w'.heap.size w' u (Ir.reachedL g)/\Gr w w':=by
 have l:=dJ (jX v g w hg);rw[hv]at l
 have m:Hid (∀j,Gr w j->Calls prog 123 #[v,.int .i64 (-1)] j (RG (nv ((List.range 10).map (rb g))) j)) :=
  fun j g1=>(gy v g (-1) j (hg.gr g1) hv).mono fun _ _ ⟨s,h1,h2,h3⟩=>⟨by rw[h1,gO hv h2],h3⟩
 have p:Hid (∀j,Calls prog 121 #[nv ((List.range 10).map (rb g))] j fun e w'=>∃v,e=.returned v/\IntsAt w'.heap.size w' v (Ir.reachedL g)/\Gr j w') :=
  fun j=>jZ _ (by simp) j
 obtain⟨q,d⟩:=xJ (nv ((List.range 10).map (rb g)));rw[d]at m p;clear d hg hv
 go_enter func94, ntmps94
 go_wp2_with (first|(go_at_call 122;refine l.out.mono ?_;rintro e j ⟨rfl,g1⟩)|(go_at_call 123;refine(m.out _ g1).mono ?_;rintro e y ⟨rfl,g2⟩)|(go_at_call 121;refine(p.out _).mono ?_;rintro e z ⟨t,rfl,r,g3⟩))
 go_ret2;exact⟨t,rfl,r,g1.trans (g2.trans g3)⟩
theorem jN (n:Nat)(B hb:Nat)(s:List Bool)(w:World)(hr:ARow B hb w s)(hn:n<10)(y:Bool)(hy:s[n]?=some y) :
  Calls prog 172 #[.int .i64 (n:Int),.pointer (some ⟨hb,0,none⟩)] w (RS (.bool (!y)) w):=by
 have g:=hr.cell n y hy;have d:(n:Int)<10:=by omega
 clear hr hy
 go_enter func172, ntmps172
 go_wp2;go_ret;exact⟨rfl,rfl⟩
theorem kI (v u:Value)(g:List (List Int))(l:List Int)(w:World)(hg:TabAt w.heap.size w v g)(hu:IntsAt w.heap.size w u l)(hv:Ir.gval g=0)(hl:Hid (∀z∈l,0<=z/\z<(g.length:Int))) :
  Calls prog 154 #[v,u] w (RG (.int .i64 (if l.any (fun z=>!rb g z.toNat) then 9 else 0)) w):=by
 have O:=eF hv
 have y:Ir.noded g l=0:=by unfold Ir.noded;rw[pB hv,pC];intro h;obtain⟨z,H,h⟩:=pP.1 h;have:=hl.out z H;unfold Ir.outside at h;simp at h;omega
 have r:=dJ (iT v u g l w hg hu);rw[y]at r
 have j:Hid (∀d,Gr w d->Calls prog 123 #[v,.int .i64 (-1)] d (RG (nv ((List.range 10).map (rb g))) d)) :=
  fun d g1=>(gy v g (-1) d (hg.gr g1) hv).mono fun _ _ ⟨s,h1,h2,h3⟩=>⟨by rw[h1,gO hv h2],h3⟩
 have p:((List.range 10).map (rb g)).length=10:=by simp
 have F:Hid (∀n:Nat,n<10->((List.range 10).map (rb g))[n]?=some (rb g n)):=fun n h=>by simp[h]
 obtain⟨s,K⟩:=xJ ((List.range 10).map (rb g));rw[K]at j F p
 have t:Hid (∀d m,Gr w d->ARow m m d s->m<d.heap.size->Calls prog 77 #[u,.func (.func 172) #[] #[.pointer (some ⟨m,0,none⟩)]] d (RG (.bool (l.any fun z=>!rb g z.toNat)) d)) :=
  fun d m g1 L G=>dx _ _ (enters_of func172 (by kernel_rfl) rfl) _ _ _ _ (hu.gr g1) (fun z H W g2=>by
    obtain⟨M,Q⟩:=hl.out z H
    obtain⟨n,rfl⟩:=pg M
    have:=jN n m m s W (L.other (g2.heap m G)) (by omega) (rb g n) (F.out n (by omega))
    exact this.mono fun _ _ h=>⟨h.1,h.2 ▸ qj _⟩)
 obtain⟨q,J⟩:=xJ ((l.any fun z=>!rb g z.toNat));rw[J]at t ⊢;clear K J hg hu hv y F;obtain⟨a0,B,a2,a3,a4,a5,C,D,E,a9,rfl⟩:=ten s p;rw[show nv [a0,B,a2,a3,a4,a5,C,D,E,a9]=.agg #[.bool a0,.bool B,.bool a2,.bool a3,.bool a4,.bool a5,.bool C,.bool D,.bool E,.bool a9] from rfl]at j
 have I:Hid (∀d:World,ARow d.heap.size d.heap.size (d.alloc (.cells #[.bool a0,.bool B,.bool a2,.bool a3,.bool a4,.bool a5,.bool C,.bool D,.bool E,.bool a9] 148)) [a0,B,a2,a3,a4,a5,C,D,E,a9]) :=
  fun d=>ARow.of (heap_alloc_new d _) rfl (pS _)
 go_enter func154, ntmps154
 cases q with
 | true =>
  go_wp2_with (first|(go_at_call 119;refine r.out.mono ?_;rintro e d ⟨rfl,g1⟩)|(go_at_call 123;refine(j.out _ g1).mono ?_;rintro e A ⟨rfl,g2⟩)|(go_at_call 77;refine(t.out _ A.heap.size ((g1.trans g2).alloc _) (I.out A) (by simp)).mono ?_;rintro e N ⟨rfl,g3⟩))
  go_ret;exact⟨rfl,((g1.trans g2).alloc _).trans g3⟩
 | false =>
  go_wp2_with (first|(go_at_call 119;refine r.out.mono ?_;rintro e d ⟨rfl,g1⟩)|(go_at_call 123;refine(j.out _ g1).mono ?_;rintro e A ⟨rfl,g2⟩)|(go_at_call 77;refine(t.out _ A.heap.size ((g1.trans g2).alloc _) (I.out A) (by simp)).mono ?_;rintro e N ⟨rfl,g3⟩))
  go_ret;exact⟨rfl,((g1.trans g2).alloc _).trans g3⟩
theorem mV (v:Value)(g:List (List Int))(a b:Nat)(w:World)(hg:TabAt w.heap.size w v g)(hv:Ir.gval g=0)(hb:b<g.length) :
  Calls prog 155 #[v,.int .i64 a,.int .i64 b] w (RG (.bool (Ref.dominates g a b)) w):=by
 have y:=eF hv
 have d:Hid (Calls prog 123 #[v,.int .i64 (a:Int)] w fun e w'=>∃s,e=.returned (nv s)/\(∀W,(Instr.index 148 (nv s) (.int .i64 (b:Int))).run prog W=.ok (.bool ((Ref.reached g a).getD b false)) W)/\Gr w w') :=
  (gy v g a w hg hv).mono fun _ _ ⟨s,r,m,t⟩=>⟨s,r,fun W=>iQ s m.1 b _ (m.get y.1 (gi hv) b (by omega)) W,t⟩
 have j:Hid (Ref.dominates g a b=(decide ((a:Int)=b) || !(Ref.reached g a).getD b false)):=by show _=_;unfold Ref.dominates;simp
 obtain⟨q,p⟩:=xJ ((Ref.reached g a).getD b false);rw[p]at d j;unfold nv at d;clear p hg hv;by_cases h:(a:Int)=b
 ·have l:((a:Int) == b)=true:=by simp[h]
  go_enter func155, ntmps155
  go_wp2;go_ret;exact⟨dc (by rw[j.out];simp[h]),qj _⟩
 ·have l:((a:Int) == b)=false:=by simp[h]
  go_enter func155, ntmps155
  go_wp2_with (go_at_call 123;refine d.out.mono ?_;rintro e z ⟨s,rfl,u,g1⟩);go_ret;exact⟨dc (by rw[j.out];simp[h]),g1⟩
theorem lP (w:World)(x y:Int):IntsAt (w.heap.size+1) (w.alloc (.cells #[.int .i64 x,.int .i64 y] 3)) (.slice (some ⟨w.heap.size,0,none⟩) 2 2) [x,y]:=by
 refine⟨_,_,rfl,pS _,by simp,fun _=>⟨_,_,rfl,by omega,fun j z hz=>?_⟩⟩;have d:∀i,(w.alloc (.cells #[.int .i64 x,.int .i64 y] 3)).cell? ⟨w.heap.size,i,none⟩=(#[Value.int .i64 x,Value.int .i64 y]:Array Value)[i]?:=fun i=>px _ _ _ _ _ _ (heap_alloc_new w _);rw[d]
 match j,hz with
 | 0,hz=>simp at hz;subst hz;rfl
 | 1,hz=>simp at hz;subst hz;rfl
theorem mi {g:List (List Int)}(hv:Ir.gval g=0)(i:Nat):rb g i=true↔Ir.From g (-1) 0 i:=by
 rw[<-Ir.reached_from (eF hv).1 (gi hv) i];unfold rb;constructor
 ·exact Ir.getD_true
 ·intro h;simp[List.getD,h]
theorem ij {g:List (List Int)}(hv:Ir.gval g=0){a b:Nat}(ha:rb g a=false)(hb:rb g b=true):Ref.dominates g a b=false:=by
 have j:¬Ir.From g (-1) 0 a:=fun h=>by rw[(mi hv a).2 h]at ha;cases ha
 have d:=(mi hv b).1 hb;have h0:Ir.From g (-1) 0 0:=.here 0 (by omega);have h:=(Ir.reached_from (but:=(a:Int)) (eF hv).1 (gi hv) b).2 (Ir.from_avoid j 0 b d h0);unfold Ref.dominates
 have l:(a:Int)≠b:=fun e=>by have:a=b:=by omega
                             subst this;rw[ha]at hb;cases hb
 simp[List.getD,h,l]
theorem hU (v:Value)(g:List (List Int))(a b:Nat)(w:World)(hg:TabAt w.heap.size w v g)(hv:Ir.gval g=0)(ha:a<g.length)(hb:b<g.length)(hr:rb g b=true) :
  Calls prog 125 #[v,.int .i64 a,.int .i64 b] w fun e w'=>∃x z,e=.returned (.tuple #[.bool x,.int .i64 z])/\(decide (z=0) && x)=Ref.dominates g a b/\Gr w w':=by
 obtain⟨W,r⟩:=xJ (w.alloc (.cells #[.int .i64 (a:Int),.int .i64 (b:Int)] 3));have l:Gr w W:=by rw[<-r];exact(qj w).alloc _
 have q:IntsAt W.heap.size W (.slice (some ⟨w.heap.size,0,none⟩) 2 2) [(a:Int),(b:Int)]:=by rw[<-r];simpa using lP w a b
 have j:=dJ (kI v _ g [(a:Int),(b:Int)] W (hg.gr l) q hv (fun z hz=>by simp at hz;omega));have p:Hid (∀m,Gr w m->Calls prog 155 #[v,.int .i64 a,.int .i64 b] m (RG (.bool (Ref.dominates g a b)) m)):=fun m g1=>mV v g a b m (hg.gr g1) hv hb
 cases ra:rb g a with
 | true =>
  have e:([(a:Int),(b:Int)].any fun z=>!rb g z.toNat)=false:=by simp[ra,hr]
  rw[e]at j;obtain⟨d,hd⟩:=xJ (Ref.dominates g a b);rw[hd]at p ⊢;clear e hd hg hv q ra hr
  go_enter func125, ntmps125
  go_wp2_with (first|(go_at_call 154;refine j.out.mono ?_;rintro e m ⟨rfl,g1⟩)|(go_at_call 155;refine(p.out _ (l.trans g1)).mono ?_;rintro e u ⟨rfl,g2⟩))
  go_ret2;exact⟨d,0,rfl,by simp,l.trans (g1.trans g2)⟩
 | false =>
  have e:([(a:Int),(b:Int)].any fun z=>!rb g z.toNat)=true:=by simp[ra]
  rw[e]at j;have hd:=ij hv ra hr;have t:=dJ hd;clear e hg hv q ra hr hd
  go_enter func125, ntmps125
  go_wp2_with (first|(go_at_call 154;refine j.out.mono ?_;rintro e m ⟨rfl,g1⟩))
  go_ret2;exact⟨false,9,rfl,by rw[t.out];simp,l.trans g1⟩
theorem nd (n:Nat)(w:World)(h0:1<=n)(h1:n<=32):Calls prog 148 #[.int .i64 (n:Int)] w (RS (.int .u32 (2 ^ n-1)) w):=by
 rcases (by omega:n=1\/n=2\/n=3\/n=4\/n=5\/n=6\/n=7\/n=8\/n=9\/n=10\/n=11\/n=12\/n=13\/n=14\/n=15\/n=16\/n=17\/n=18\/n=19\/n=20\/n=21\/n=22\/n=23\/n=24\/n=25\/n=26\/n=27\/n=28\/n=29\/n=30\/n=31\/n=32) with rfl|rfl|rfl|rfl|rfl|rfl|rfl|rfl|rfl|rfl|rfl|rfl|rfl|rfl|rfl|rfl|rfl|rfl|rfl|rfl|rfl|rfl|rfl|rfl|rfl|rfl|rfl|rfl|rfl|rfl|rfl|rfl
 all_goals
  go_enter func148, ntmps148
  go_wp2;go_ret;exact⟨df (by decide),rfl⟩
def Ir.shapeOf (f:Fn)(x:Ins):Int × Int × Bool :=
 let c:=Ir.classOf x.op
 if c=1 then (0,0,Ref.isWidth x.width && decide (x.imm<=2 ^ x.width.toNat-1))
 else if c=2 then (2,0,Ref.isWidth x.width && decide (x.imm=0))
 else if c=3 then (2,0,decide (x.width=1) && decide (x.imm<=9))
 else if c=4 then (3,0,(Ref.isWidth x.width || decide (x.width=33)) && decide (x.imm=0))
 else if c=5\/c=6\/c=8 then (1,0,Ref.isWidth x.width && decide (x.imm=0))
 else if c=7 then (2,0,Ref.isWidth x.width && decide (1<=x.imm) && decide (x.imm<x.width) && decide (x.width%x.imm=0))
 else if c=9 then (0,0,Ref.isWidth x.width && decide (x.imm=0))
 else if c=10 then (0,0,decide (x.width=33) && decide (x.imm<f.slots.length))
 else if c=11 then (2,0,decide (x.width=33) && decide (x.imm=0))
 else if c=12 then (1,0,Ref.isMem x.width && decide (x.imm=0))
 else if c=13 then (2,0,decide (x.width=0) && decide (x.imm=0))
 else if c=14 then (x.to.length,x.to.length,(Ref.isWidth x.width || decide (x.width=33)) && decide (x.imm=0) && decide (0<x.to.length))
 else if c=15 then (0,1,decide (x.width=0) && decide (x.imm=0))
 else if c=16 then (1,2,decide (x.width=0) && decide (x.imm=0) && (decide (x.to.length≠2) || decide (x.to.getD 0 0≠x.to.getD 1 0)))
 else if c=17 then (if f.ret<1 then f.ret else 1,0,decide (x.width=0) && decide (x.imm=0))
 else if c=18 then (0,0,decide (x.width=0) && decide (x.imm=0))
 else (0,0,false)
theorem nL (n:Nat)(w:World)(h0:1<=n)(h1:n<=32):Calls prog 118 #[.int .i64 (n:Int)] w (RS (.tuple #[.int .u32 (2 ^ n-1),.int .i64 0]) w):=by
 have g:=fN (n:Int) w;rw[show Ref.isWidth (n:Int)=true by simp[Ref.isWidth];omega]at g;have j:=dJ g;have d:=dJ (nd n w h0 h1);obtain⟨m,l⟩:∃m:Int,(2:Int) ^ n-1=m:=⟨_,rfl⟩;rw[l]at d ⊢;clear g l
 go_enter func118, ntmps118
 go_wp2_with (first|(go_at_call 147;refine j.out.mono ?_;rintro e p ⟨rfl,rfl⟩)|(go_at_call 148;refine d.out.mono ?_;rintro e p ⟨rfl,rfl⟩))
 go_ret2;exact⟨rfl,rfl⟩
theorem mP (n:Int)(w:World)(h:Ref.isWidth n=false):Calls prog 118 #[.int .i64 n] w (RS (.tuple #[.int .u32 0,.int .i64 1]) w):=by
 have d:=fN n w;rw[h]at d;have g:=dJ d;clear d
 go_enter func118, ntmps118
 go_wp2_with (first|(go_at_call 147;refine g.out.mono ?_;rintro e j ⟨rfl,rfl⟩))
 go_ret2;exact⟨rfl,rfl⟩
end

import Derived.Test.YtjkajidbdmbbaaaGreatN19
import Derived.Lib.SmallJoins
import Derived.SizedLaws
import Derived.Test.YtjkajidbdmbbaaaGreatRows
import Derived.ProofKit
import Derived.OpenShut
import Derived.ShutString
import Derived.ChangeOld
import Derived.Below
import Derived.Test.YtjkajidbdmbbaaaGreatN05
set_option linter.unusedSimpArgs false
set_option linter.unusedVariables false
set_option maxRecDepth 100000
set_option maxHeartbeats 16000000
open Go.Proofs.Tryz
namespace Go.Proofs.YtjkajidbdmbbaaaGreat
open Ref Rn Wd Ir Rf
variable {a:Addr}{f:Fn}{cs:List Value}{fuel:Nat}{v:Value}{w:World}
section
open Go.RowKit Go.Deep Go.ChangeShapes Go.WideShapes
theorem iK (h:w.cell? a=some v):a.block<w.heap.size:=by
 rcases yw a.block w.heap.size with d|d
 ·exact d
 ·unfold World.cell? at h;rw[Array.getElem?_eq_none d]at h;simp at h
theorem eE {H:Type}{P:Program}{e:TypeId}{d:DataW H}{m:Nat}:∀{l:List (DataW H)},d∈l->m∈d.weights P e->m∈DataW.weightsAll P e l
 | [],h,_=>by cases h
 | d'::r,h,hm=>by
  simp only[DataW.weightsAll,yz]
  rcases List.mem_cons.1 h with rfl|h
  ·exact Or.inl hm
  ·exact Or.inr (eE h hm)
def uC (x:Ins):Prop:=(0<=x.i/\x.i<4294967296)/\(∀z∈x.args,-9223372036854775808<=z/\z<=9223372036854775807)/\-9223372036854775808<=x.g/\x.g<=9223372036854775807
section
variable {H:Type}{enc:TypeId × Value->H}{w:World}
theorem fF {x:DataW H × List MemPlace}(h:DataW.trod enc prog w 0 (fun _=>true) true fuel 33 [v]=some x)
  (hw:∀m∈x.1.weights prog 33,m<=reachBytes):∃zs,IntsAt w.heap.size w v zs/\∀z∈zs,(Lit.int .i64 z).wf=true:=by
 rcases open_ints underlying33 underlying3 (by kernel_rfl) h with ⟨g,-⟩|⟨a,l,c,zs,g,-,hl,-,E,rfl,d,A⟩
 ·obtain rfl:v=.slice none 0 0:=by simpa using g
  exact⟨[],⟨none,0,rfl,by simp,by simp,by simp⟩,by simp⟩
 ·obtain rfl:v=.slice (some a) l c:=by simpa using g
  simp only[if_true]at E;have r:=hw (((lits (H:=H) .i64 (zs.take l)).length+(lits (H:=H) .i64 (zs.drop l)).length)*Program.bytesOf prog 3) (by simp[DataW.weights,underlying33]);have C:Program.bytesOf prog 3=8:=by kernel_rfl
  have D:reachBytes=0x7ffffffff000:=rfl;rw[C,D]at r;simp only[lits,yl,List.length_take,List.length_drop]at r;have hlen:(zs.take l).length=l:=by simp;omega
  refine⟨zs.take l,⟨some a,c,by rw[hlen],by rw[hlen];exact hl,by rw[hlen];omega,fun B=>?_⟩,fun z hz'=>A z (List.mem_of_mem_take hz')⟩;rw[hlen]at B;have q:=d 0 (by omega);obtain⟨b,off,t⟩:=a;have p:t=none:=by simpa[Addr.add] using World.cell?_spot q
  subst p;refine⟨b,off,rfl,by simpa[Addr.add] using iK q,fun j z u=>?_⟩
  have y:j<l:=by have:=(xS.1 u).1;rw[hlen]at this;exact this
  rw[yf,yr y]at u;have:=d j (by omega);rw[add_plain]at this;simpa[List.getD,u] using this
theorem tI {x:DataW H × List MemPlace}(h:DataW.trod enc prog w 0 (fun _=>true) true fuel 68 cs=some x)
  (hw:∀m∈x.1.weights prog 68,m<=reachBytes) :
  ∃(X:Ins)(va vt:Value),cs=[.int .i64 X.op,.int .i64 X.w,.int .i64 X.g,va,.int .u32 X.i,vt]/\IntsAt w.heap.size w va X.args/\IntsAt w.heap.size w vt X.to/\uC X:=by
 have F:Program.cellsOf prog 3=1:=by kernel_rfl
 have j:Program.cellsOf prog 33=1:=by kernel_rfl
 have l:Program.cellsOf prog 22=1:=by kernel_rfl
 have p:Program.cellsOf prog 68=6:=by kernel_rfl
 obtain⟨xs,n,rfl,rfl,hl,hlen,d⟩:=DataW.trod_struct underlying68 h;rw[p]at hl
 match xs,hlen with
 | [y0,y1,y2,y3,y4,y5],_ =>
  match cs,hl with
  | [c0,c1,c2,c3,c4,c5],_ =>
   have r:=d 0 _ rfl;have t:=d 1 _ rfl;have u:=d 2 _ rfl;have y:=d 3 _ rfl;have A:=d 4 _ rfl;have B:=d 5 _ rfl;simp[F,j,l]at r t u y A B;obtain⟨C,G,-,w0⟩:=DataW.trod_int underlying3 r;obtain⟨D,I,-,T⟩:=DataW.trod_int underlying3 t;obtain⟨E,J,-,Q⟩:=DataW.trod_int underlying3 u;obtain⟨g,K,-,R⟩:=DataW.trod_int underlying22 A;obtain⟨zs,L,q⟩:=fF y (fun m hm=>hw m (by simp[DataW.weights,underlying68,DataW.weightsEach,hm]));obtain⟨O,M,-⟩:=fF B (fun m hm=>hw m (by simp[DataW.weights,underlying68,DataW.weightsEach,hm]));obtain rfl:c0=.int .i64 C:=by simpa using G
   obtain rfl:c1=.int .i64 D:=by simpa using I
   obtain rfl:c2=.int .i64 E:=by simpa using J
   obtain rfl:c4=.int .u32 g:=by simpa using K
   refine⟨⟨C,D,E,zs,g,O⟩,c3,c5,rfl,L,M,?_,fun z N=>bounds_i64 (q z N),bounds_i64 Q⟩;have S:=bounds_u32 R;show (0:Int)<=g/\g<4294967296;omega
theorem tm {x:DataW H × List MemPlace}(h:DataW.trod enc prog w 0 (fun _=>true) true fuel 66 [v]=some x)
  (hw:∀m∈x.1.weights prog 66,m<=reachBytes):∃l,BlkAt w.heap.size w v l/\∀z∈l,uC z:=by
 have B:Program.cellsOf prog 68=6:=by kernel_rfl
 have R:Program.bytesOf prog 68=80:=by kernel_rfl
 have S:reachBytes=0x7ffffffff000:=rfl;rcases open_slice underlying66 h with ⟨g,-⟩|⟨a,l,c,m,n,D,U,g,-,hl,-,L,rfl,M⟩
 ·obtain rfl:v=.slice none 0 0:=by simpa using g
  exact⟨[],⟨none,0,rfl,by simp,by simp,by simp⟩,by simp⟩
 ·obtain rfl:v=.slice (some a) l c:=by simpa using g
  simp only[if_true]at L;subst L;have y:=hw _ (by simp only[DataW.weights,underlying66];exact List.mem_cons_self);simp only[yl,List.length_range]at y;rw[R,S]at y;rw[B]at M
  obtain⟨X,C⟩:=choose_lt (α:=Ins) (n:=l) (p:=fun i X=>(∃va vt,w.cells? 0 (a.add (i*6)) 6=some [.int .i64 X.op,.int .i64 X.w,.int .i64 X.g,va,.int .u32 X.i,vt]/\IntsAt w.heap.size w va X.args/\IntsAt w.heap.size w vt X.to)/\uC X) (fun i G=>by
    obtain⟨N,O,Q⟩:=M i (by omega)
    obtain⟨X,va,vt,rfl,E,I,T⟩:=tI Q (fun k hk=>hw k (by
      simp only[DataW.weights,underlying66]
      refine List.mem_cons_of_mem _ (yz.2 (Or.inl (eE (d:=D i) (List.mem_map.2 ⟨i,List.mem_range.2 G,rfl⟩) hk)))))
    exact⟨X,⟨va,vt,O,E,I⟩,T⟩)
  have hlen:((List.range l).map X).length=l:=by simp
  refine⟨(List.range l).map X,⟨some a,m,by rw[hlen],by rw[hlen];exact hl,by rw[hlen];omega,fun J=>?_⟩,fun z hz'=>?_⟩
  ·rw[hlen]at J;obtain⟨⟨va,vt,F,-,-⟩,-⟩:=C 0 J;have t:=(World.cells?_some F).2.2 0 (by omega);obtain⟨b,off,A⟩:=a;have r:A=none:=by simpa[Addr.add] using World.cell?_spot t
   subst r;refine⟨b,off,rfl,by simpa[Addr.add] using iK t,fun j z K=>?_⟩
   have u:j<l:=by have:=(xS.1 K).1;rw[hlen]at this;exact this
   obtain rfl:X j=z:=by simpa[u] using K
   obtain⟨⟨va,vt,F,E,I⟩,-⟩:=C j u;have q:=(World.cells?_some F).2.2;simp only[add_plain]at q;exact⟨va,vt,q 0 (by omega),q 1 (by omega),q 2 (by omega),q 3 (by omega),q 4 (by omega),q 5 (by omega),E,I⟩
  ·obtain⟨i,G,rfl⟩:=List.mem_map.1 hz';exact(C i (List.mem_range.1 G)).2
theorem qB {x:DataW H × List MemPlace}(h:DataW.trod enc prog w 0 (fun _=>true) true fuel 34 [v]=some x)
  (hw:∀m∈x.1.weights prog 34,m<=reachBytes):∃bs,BlksAt w.heap.size w v bs/\∀l∈bs,∀z∈l,uC z:=by
 have B:Program.cellsOf prog 66=1:=by kernel_rfl
 have K:Program.bytesOf prog 66=24:=by kernel_rfl
 have M:reachBytes=0x7ffffffff000:=rfl;rcases open_slice1 underlying34 B h with ⟨g,-⟩|⟨a,l,c,m,n,V,D,N,g,-,hl,-,I,rfl,E⟩
 ·obtain rfl:v=.slice none 0 0:=by simpa using g
  exact⟨[],⟨none,0,rfl,by simp,by simp,by simp⟩,by simp⟩
 ·obtain rfl:v=.slice (some a) l c:=by simpa using g
  simp only[if_true]at I;subst I;have y:=hw _ (by simp only[DataW.weights,underlying34];exact List.mem_cons_self);simp only[yl,List.length_range]at y;rw[K,M]at y
  obtain⟨X,F⟩:=choose_lt (α:=List Ins) (n:=l) (p:=fun i X=>BlkAt w.heap.size w (V i) X/\∀z∈X,uC z) (fun i C=>by
    exact tm (E i (by omega)).2 (fun k L=>hw k (by
      simp only[DataW.weights,underlying34]
      refine List.mem_cons_of_mem _ (yz.2 (Or.inl (eE (d:=D i) (List.mem_map.2 ⟨i,List.mem_range.2 C,rfl⟩) L))))))
  have hlen:((List.range l).map X).length=l:=by simp
  refine⟨(List.range l).map X,⟨some a,m,by rw[hlen],by rw[hlen];exact hl,by rw[hlen];omega,fun J=>?_⟩,fun z hz'=>?_⟩
  ·rw[hlen]at J;have t:=(E 0 (by omega)).1;obtain⟨b,off,A⟩:=a;have r:A=none:=by simpa[Addr.add] using World.cell?_spot t
   subst r;refine⟨b,off,rfl,by simpa[Addr.add] using iK t,fun j z G=>?_⟩
   have u:j<l:=by have:=(xS.1 G).1;rw[hlen]at this;exact this
   obtain rfl:X j=z:=by simpa[u] using G
   have q:=(E j (by omega)).1;rw[add_plain]at q;exact⟨V j,q,(F j u).1⟩
  ·obtain⟨i,C,rfl⟩:=List.mem_map.1 hz';exact(F i (List.mem_range.1 C)).2
theorem vd {d:DataW H}{p:List MemPlace}(hv:Value.okWide prog w .any 0 36 v)(h:DataW.Trod enc prog w 0 (fun _=>true) true 36 v d p)
  (hw:∀m∈d.weights prog 36,m<=reachBytes):∃f,FnAt w.heap.size w v f/\∀l∈f.b,∀z∈l,uC z:=by
 obtain⟨v0,E,F,v3,I,J,K,L,n,rfl,rfl,-,y,A,B,C⟩:=Go.Joins.open_agg4 underlying36 (by kernel_rfl) (by kernel_rfl) hv h;obtain⟨z0,q,-⟩:=fF y (fun m hm=>hw m (by simp[DataW.weights,underlying36,DataW.weightsEach,hm]));obtain⟨g,u,-,-⟩:=DataW.trod_int underlying3 A;obtain⟨G,r,-⟩:=fF B (fun m hm=>hw m (by simp[DataW.weights,underlying36,DataW.weightsEach,hm]));obtain⟨j,t,D⟩:=qB C (fun m hm=>hw m (by simp[DataW.weights,underlying36,DataW.weightsEach,hm]));obtain rfl:E=.int .i64 g:=by simpa using u
 exact⟨⟨z0,g,G,j⟩,⟨v0,F,v3,rfl,q,r,t⟩,D⟩
theorem vD (hs:∀l∈f.b,∀z∈l,uC z)(hl:eV f=false):gT f:=by
 unfold eV at hl;simp only[Bool.or_eq_false_iff,decide_eq_false_iff_not,List.any_eq_false]at hl;obtain⟨⟨⟨j,m⟩,a3⟩,a4⟩:=hl
 have g:∀l∈f.b,l.length<=100/\∀x∈l,x.args.length<=100/\x.to.length<=100:=by intro l hl;have:=a4 l hl;unfold eH at this;simp only[Bool.not_eq_true,Bool.or_eq_false_iff,decide_eq_false_iff_not,List.any_eq_false,fI]at this;refine⟨by omega,fun x d=>?_⟩;have p:=this.2 x d;omega
 exact⟨by omega,fun l hl=>by have:=(g l hl).1;omega,fun l hl x d=>⟨(hs l hl x d).1,(hs l hl x d).2.1,by have:=((g l hl).2 x d).1;omega,by have:=((g l hl).2 x d).2;omega⟩,
   fun l hl x d=>(hs l hl x d).2.2⟩
end
end
section
open Go.ChangeShapes Go.WideShapes Go.ChangeAt Go.RowKit
theorem own:ownKnob prog.godebug=none:=by kernel_rfl
theorem laidOut:laidOutB prog=true:=by kernel_rfl
end
section
open Go.RowKit
theorem dG (n:Int)(w:World)(hn:zi n):Calls prog 147 #[.int .i64 n] w (RS (.int .u32 (m9 n-1)) w):=by obtain⟨d,g⟩:=hn;obtain⟨m,rfl⟩:=xZ (show 0<=n by omega);exact nV m w (by omega) (by omega)
theorem dA (n x:Int)(w:World)(hn:zi n)(hx:yX n x):Calls prog 208 #[.int .i64 n,.int .u32 x] w (RS (.int .i64 (zU n x)) w):=by
 obtain⟨p,q⟩:=id hn;obtain⟨t,u⟩:=dL hn hx;have m:=hx.2;have d:m9 (n-1)<=x->zU n x=x-m9 n:=fun h=>yr h;have j:x<m9 (n-1)->zU n x=x:=fun h=>yt (by omega);clear hn hx;rcases (by omega:n=1\/n=2\/n=3\/n=4\/n=5\/n=6\/n=7\/n=8\/n=9\/n=10\/n=11\/n=12\/n=13\/n=14\/n=15\/n=16\/n=17\/n=18\/n=19\/n=20\/n=21\/n=22\/n=23\/n=24\/n=25\/n=26\/n=27\/n=28\/n=29\/n=30\/n=31\/n=32) with rfl|rfl|rfl|rfl|rfl|rfl|rfl|rfl|rfl|rfl|rfl|rfl|rfl|rfl|rfl|rfl|rfl|rfl|rfl|rfl|rfl|rfl|rfl|rfl|rfl|rfl|rfl|rfl|rfl|rfl|rfl|rfl
 all_goals
  simp[m9]at d j m;have g:=dJ d;have l:=dJ j;clear d j p q
  go_enter func208, ntmps208
  go_wp2_with (fail)
  all_goals
   go_ret;rename_i h;simp at h;refine⟨dg ?_,rfl⟩;have e:=g.out;have r:=l.out;omega
def U32At (B:Nat)(w:World)(v:Value)(zs:List Int):Prop :=
 SlAt B v zs.length fun b off=>∀j z,zs[j]?=some z->w.cell? ⟨b,off+j,none⟩=some (.int .u32 z)
theorem iD (n:Int):F6 n=yS n:=rfl
def gX (n:Int)(zs:List Int):Bool:=F6 n && zs.all fun z=>decide (z<m9 n)
theorem iJ (B:Nat)(n:Int)(v:Value)(zs:List Int)(w:World)(hv:U32At B w v zs):Calls prog 210 #[.int .i64 n,v] w (RS (.bool (gX n zs)) w):=by
 have t:=dJ fun j=>eS n j;obtain⟨A,c,rfl,R,S,H⟩:=hv;by_cases l:zi n
 ·have g:yS n=true:=by rw[<-iD];exact ei l
  rw[g]at t;have u:=dJ fun j=>dG n j l;have m:Hid (gX n zs=zs.all fun z=>decide (z<m9 n)):=by show _=_;unfold gX;rw[iD,g];rfl
  have O:=BC n;have Q:=C4 l;obtain⟨s,J⟩:=xJ (m9 n);rw[J]at u m O Q;clear l g J
  go_enter func210, ntmps210
  go_wp2_with (go_at_call 146;refine(t.out _).mono ?_;rintro e j ⟨rfl,rfl⟩)
  go_loop [6,12] (fun _ i=>∃k:Nat,k<=zs.length/\i=.int .i64 k/\Hid ((zs.all fun z=>decide (z<s))=((zs.drop k).all fun z=>decide (z<s)))) (fun _ i=>zs.length-(intOf i).toNat)
  case atStart=>exact⟨0,yI _,rfl,rfl⟩
  case round =>
   obtain⟨k,L,rfl,d⟩:=hrel;rcases hr:zs.drop k with _|⟨z,r⟩
   ·have D:=dw hr L;have y:Hid (gX n zs=true):=by show _=_;rw[m.out,d.out,hr];rfl
    subst D;clear hr d;go_wp2;go_ret;exact⟨cZ y.out.symm,rfl⟩
   ·obtain⟨M,K,p⟩:=dr hr;obtain⟨b,o,rfl,T,I⟩:=H (by omega);have N:=I k z K;have F:Hid ((zs.all fun z=>decide (z<s))=(decide (z<s) && r.all fun z=>decide (z<s))):=by show _=_;rw[d.out,hr];rfl
    have C:Hid (zs.drop (k+1)=r):=p;clear hr K p d I H;by_cases q:z<s
    ·have G:=dJ q;have E:z<=s-1:=by omega
     clear q;go_wp2_with (go_at_call 147;refine(u.out _).mono ?_;rintro e j ⟨rfl,rfl⟩);go_round;case rel=>exact⟨k+1,by omega,by go_num,by (show _=_;rw[F.out,C.out];simp[G.out])⟩
     case measure=>simp[intOf];omega
    ·have G:=dJ q;have E:s-1<z:=by omega
     have y:Hid (gX n zs=false):=by show _=_;rw[m.out,F.out];simp[q]
     clear q;go_wp2_with (go_at_call 147;refine(u.out _).mono ?_;rintro e j ⟨rfl,rfl⟩);go_ret;exact⟨cZ y.out.symm,rfl⟩
 ·have g:yS n=false:=by
   cases h:F6 n with
   | false=>exact h
   | true=>exact absurd (oy h) l
  rw[g]at t;have m:Hid (gX n zs=false):=by show _=_;unfold gX;rw[iD,g];rfl
  clear l g
  go_enter func210, ntmps210
  go_wp2_with (go_at_call 146;refine(t.out _).mono ?_;rintro e j ⟨rfl,rfl⟩);go_ret;exact⟨cZ m.out.symm,rfl⟩
end

/- Parts. -/
import Derived.Test.YthfjdhanbegaoaaGreatDoorT20
import Derived.Lib.SmallJoins
import Derived.SizedLaws
import Derived.Test.YthfjdhanbegaoaaGreatDoorRows
import Derived.ProofKit
import Derived.OpenShut
import Derived.ShutString
import Derived.ChangeOld
import Derived.Below
set_option linter.unusedSimpArgs false
set_option linter.unusedVariables false
set_option maxRecDepth 100000
set_option maxHeartbeats 16000000
open Go.Proofs.Tryz
namespace Go.Proofs.YthfjdhanbegaoaaGreatDoor
section
open Go.RowKit Go.Deep Go.ChangeShapes Go.WideShapes
theorem ig {w:World}{a:Addr}{v:Value}(h:w.cell? a=some v):a.block<w.heap.size:=by
 rcases pF a.block w.heap.size with d|d
 ·exact d
 ·unfold World.cell? at h;rw[Array.getElem?_eq_none d]at h;simp at h
theorem ey {H:Type}{P:Program}{e:TypeId}{d:DataW H}{m:Nat}:∀{l:List (DataW H)},d∈l->m∈d.weights P e->m∈DataW.weightsAll P e l
 | [],h,_=>by cases h
 | d'::r,h,hm=>by
  simp only[DataW.weightsAll,pI]
  rcases List.mem_cons.1 h with rfl|h
  ·exact Or.inl hm
  ·exact Or.inr (ey h hm)
def nE (x:Ins):Prop:=(0<=x.imm/\x.imm<4294967296)/\(∀z∈x.args,-9223372036854775808<=z/\z<=9223372036854775807)/\-9223372036854775808<=x.flags/\x.flags<=9223372036854775807
section
variable {H:Type}{enc:TypeId × Value->H}{w:World}
theorem ft {fuel:Nat}{v:Value}{x:DataW H × List MemPlace}(h:DataW.trod enc prog w 0 (fun _=>true) true fuel 22 [v]=some x)
  (hw:∀m∈x.1.weights prog 22,m<=reachBytes):∃zs,IntsAt w.heap.size w v zs/\∀z∈zs,(Lit.int .i64 z).wf=true:=by
 rcases open_ints underlying22 underlying3 (by kernel_rfl) h with ⟨p,-⟩|⟨a,l,c,zs,p,-,E,-,G,rfl,g,B⟩
 ·obtain rfl:v=.slice none 0 0:=by simpa using p
  exact⟨[],⟨none,0,rfl,by simp,by simp,by simp⟩,by simp⟩
 ·obtain rfl:v=.slice (some a) l c:=by simpa using p
  simp only[if_true]at G;have t:=hw (((lits (H:=H) .i64 (zs.take l)).length+(lits (H:=H) .i64 (zs.drop l)).length)*Program.bytesOf prog 3) (by simp[DataW.weights,underlying22]);have D:Program.bytesOf prog 3=8:=by kernel_rfl
  have F:reachBytes=0x7ffffffff000:=rfl;rw[D,F]at t;simp only[lits,pv,List.length_take,List.length_drop]at t;have d:(zs.take l).length=l:=by simp;omega
  refine⟨zs.take l,⟨some a,c,by rw[d],by rw[d];exact E,by rw[d];omega,fun h0=>?_⟩,fun z hz'=>B z (List.mem_of_mem_take hz')⟩;rw[d]at h0;have r:=g 0 (by omega);obtain⟨b,C,u⟩:=a;have q:u=none:=by simpa[Addr.add] using World.cell?_spot r
  subst q;refine⟨b,C,rfl,by simpa[Addr.add] using ig r,fun j z y=>?_⟩
  have A:j<l:=by have:=(oZ.1 y).1;rw[d]at this;exact this
  rw[pn,pB A]at y;have:=g j (by omega);rw[add_plain]at this;simpa[List.getD,y] using this
theorem mW {fuel:Nat}{cs:List Value}{x:DataW H × List MemPlace}(h:DataW.trod enc prog w 0 (fun _=>true) true fuel 50 cs=some x)
  (hw:∀m∈x.1.weights prog 50,m<=reachBytes) :
  ∃(X:Ins)(va vt:Value),cs=[.int .i64 X.op,.int .i64 X.width,.int .i64 X.flags,va,.int .u32 X.imm,vt]/\IntsAt w.heap.size w va X.args/\IntsAt w.heap.size w vt X.to/\nE X:=by
 have G:Program.cellsOf prog 3=1:=by kernel_rfl
 have l:Program.cellsOf prog 22=1:=by kernel_rfl
 have p:Program.cellsOf prog 48=1:=by kernel_rfl
 have q:Program.cellsOf prog 50=6:=by kernel_rfl
 obtain⟨O,n,rfl,rfl,C,g,d⟩:=DataW.trod_struct underlying50 h;rw[q]at C
 match O,g with
 | [y0,y1,y2,y3,y4,y5],_ =>
  match cs,C with
  | [c0,c1,c2,c3,c4,c5],_ =>
   have h0:=d 0 _ rfl;have t:=d 1 _ rfl;have u:=d 2 _ rfl;have y:=d 3 _ rfl;have A:=d 4 _ rfl;have B:=d 5 _ rfl;simp[G,l,p]at h0 t u y A B;obtain⟨D,g0,-,w0⟩:=DataW.trod_int underlying3 h0;obtain⟨E,g1,-,Q⟩:=DataW.trod_int underlying3 t;obtain⟨F,g2,-,L⟩:=DataW.trod_int underlying3 u;obtain⟨j,g4,-,M⟩:=DataW.trod_int underlying48 A;obtain⟨zs,I,r⟩:=ft y (fun m hm=>hw m (by simp[DataW.weights,underlying50,DataW.weightsEach,hm]));obtain⟨ts,J,-⟩:=ft B (fun m hm=>hw m (by simp[DataW.weights,underlying50,DataW.weightsEach,hm]));obtain rfl:c0=.int .i64 D:=by simpa using g0
   obtain rfl:c1=.int .i64 E:=by simpa using g1
   obtain rfl:c2=.int .i64 F:=by simpa using g2
   obtain rfl:c4=.int .u32 j:=by simpa using g4
   refine⟨⟨D,E,F,zs,j,ts⟩,c3,c5,rfl,I,J,?_,fun z K=>bounds_i64 (r z K),bounds_i64 L⟩;have N:=bounds_u32 M;show (0:Int)<=j/\j<4294967296;omega
theorem mS {fuel:Nat}{v:Value}{x:DataW H × List MemPlace}(h:DataW.trod enc prog w 0 (fun _=>true) true fuel 46 [v]=some x)
  (hw:∀m∈x.1.weights prog 46,m<=reachBytes):∃l,BlkAt w.heap.size w v l/\∀z∈l,nE z:=by
 have C:Program.cellsOf prog 50=6:=by kernel_rfl
 have T:Program.bytesOf prog 50=80:=by kernel_rfl
 have V:reachBytes=0x7ffffffff000:=rfl;rcases open_slice underlying46 h with ⟨r,-⟩|⟨a,l,c,m,n,D,Y,r,-,U,-,M,rfl,N⟩
 ·obtain rfl:v=.slice none 0 0:=by simpa using r
  exact⟨[],⟨none,0,rfl,by simp,by simp,by simp⟩,by simp⟩
 ·obtain rfl:v=.slice (some a) l c:=by simpa using r
  simp only[if_true]at M;subst M;have A:=hw _ (by simp only[DataW.weights,underlying46];exact List.mem_cons_self);simp only[pv,List.length_range]at A;rw[T,V]at A;rw[C]at N
  obtain⟨X,E⟩:=choose_lt (α:=Ins) (n:=l) (p:=fun i X=>(∃va vt,w.cells? 0 (a.add (i*6)) 6=some [.int .i64 X.op,.int .i64 X.width,.int .i64 X.flags,va,.int .u32 X.imm,vt]/\IntsAt w.heap.size w va X.args/\IntsAt w.heap.size w vt X.to)/\nE X) (fun i I=>by
    obtain⟨O,Q,R⟩:=N i (by omega)
    obtain⟨X,va,vt,rfl,F,J,W⟩:=mW R (fun k hk=>hw k (by
      simp only[DataW.weights,underlying46]
      refine List.mem_cons_of_mem _ (pI.2 (Or.inl (ey (d:=D i) (List.mem_map.2 ⟨i,List.mem_range.2 I,rfl⟩) hk)))))
    exact⟨X,⟨va,vt,Q,F,J⟩,W⟩)
  have g:((List.range l).map X).length=l:=by simp
  refine⟨(List.range l).map X,⟨some a,m,by rw[g],by rw[g];exact U,by rw[g];omega,fun h0=>?_⟩,fun z hz'=>?_⟩
  ·rw[g]at h0;obtain⟨⟨va,vt,G,-,-⟩,-⟩:=E 0 h0;have u:=(World.cells?_some G).2.2 0 (by omega);obtain⟨b,K,B⟩:=a;have t:B=none:=by simpa[Addr.add] using World.cell?_spot u
   subst t;refine⟨b,K,rfl,by simpa[Addr.add] using ig u,fun j z L=>?_⟩
   have y:j<l:=by have:=(oZ.1 L).1;rw[g]at this;exact this
   obtain rfl:X j=z:=by simpa[y] using L
   obtain⟨⟨va,vt,G,F,J⟩,-⟩:=E j y;have q:=(World.cells?_some G).2.2;simp only[add_plain]at q;exact⟨va,vt,q 0 (by omega),q 1 (by omega),q 2 (by omega),q 3 (by omega),q 4 (by omega),q 5 (by omega),F,J⟩
  ·obtain⟨i,I,rfl⟩:=List.mem_map.1 hz';exact(E i (List.mem_range.1 I)).2
theorem ln {fuel:Nat}{v:Value}{x:DataW H × List MemPlace}(h:DataW.trod enc prog w 0 (fun _=>true) true fuel 23 [v]=some x)
  (hw:∀m∈x.1.weights prog 23,m<=reachBytes):∃bs,BlksAt w.heap.size w v bs/\∀l∈bs,∀z∈l,nE z:=by
 have C:Program.cellsOf prog 46=1:=by kernel_rfl
 have L:Program.bytesOf prog 46=24:=by kernel_rfl
 have O:reachBytes=0x7ffffffff000:=rfl;rcases open_slice1 underlying23 C h with ⟨r,-⟩|⟨a,l,c,m,n,V,D,Q,r,-,N,-,K,rfl,F⟩
 ·obtain rfl:v=.slice none 0 0:=by simpa using r
  exact⟨[],⟨none,0,rfl,by simp,by simp,by simp⟩,by simp⟩
 ·obtain rfl:v=.slice (some a) l c:=by simpa using r
  simp only[if_true]at K;subst K;have A:=hw _ (by simp only[DataW.weights,underlying23];exact List.mem_cons_self);simp only[pv,List.length_range]at A;rw[L,O]at A
  obtain⟨X,I⟩:=choose_lt (α:=List Ins) (n:=l) (p:=fun i X=>BlkAt w.heap.size w (V i) X/\∀z∈X,nE z) (fun i E=>by
    exact mS (F i (by omega)).2 (fun k M=>hw k (by
      simp only[DataW.weights,underlying23]
      refine List.mem_cons_of_mem _ (pI.2 (Or.inl (ey (d:=D i) (List.mem_map.2 ⟨i,List.mem_range.2 E,rfl⟩) M))))))
  have g:((List.range l).map X).length=l:=by simp
  refine⟨(List.range l).map X,⟨some a,m,by rw[g],by rw[g];exact N,by rw[g];omega,fun h0=>?_⟩,fun z hz'=>?_⟩
  ·rw[g]at h0;have u:=(F 0 (by omega)).1;obtain⟨b,G,B⟩:=a;have t:B=none:=by simpa[Addr.add] using World.cell?_spot u
   subst t;refine⟨b,G,rfl,by simpa[Addr.add] using ig u,fun j z J=>?_⟩
   have y:j<l:=by have:=(oZ.1 J).1;rw[g]at this;exact this
   obtain rfl:X j=z:=by simpa[y] using J
   have q:=(F j (by omega)).1;rw[add_plain]at q;exact⟨V j,q,(I j y).1⟩
  ·obtain⟨i,E,rfl⟩:=List.mem_map.1 hz';exact(I i (List.mem_range.1 E)).2
theorem gh {v:Value}{d:DataW H}{p:List MemPlace}(hv:Value.okWide prog w .any 0 25 v)(h:DataW.Trod enc prog w 0 (fun _=>true) true 25 v d p)
  (hw:∀m∈d.weights prog 25,m<=reachBytes):∃f,FnAt w.heap.size w v f/\∀l∈f.blocks,∀z∈l,nE z:=by
 obtain⟨v0,B,v2,v3,C,D,E,F,n,rfl,rfl,-,h0,t,u,y⟩:=Go.Joins.open_agg4 underlying25 (by kernel_rfl) (by kernel_rfl) hv h;obtain⟨z0,j,-⟩:=ft h0 (fun m hm=>hw m (by simp[DataW.weights,underlying25,DataW.weightsEach,hm]));obtain⟨g,g1,-,-⟩:=DataW.trod_int underlying3 t;obtain⟨z2,q,-⟩:=ft u (fun m hm=>hw m (by simp[DataW.weights,underlying25,DataW.weightsEach,hm]));obtain⟨bs,r,A⟩:=ln y (fun m hm=>hw m (by simp[DataW.weights,underlying25,DataW.weightsEach,hm]));obtain rfl:B=.int .i64 g:=by simpa using g1
 exact⟨⟨z0,g,z2,bs⟩,⟨v0,v2,v3,rfl,j,q,r⟩,A⟩
theorem go {f:Fn}(hs:∀l∈f.blocks,∀z∈l,nE z)(hl:dA f=false):ia f:=by
 unfold dA at hl;simp only[Bool.or_eq_false_iff,decide_eq_false_iff_not,List.any_eq_false]at hl;obtain⟨⟨⟨j,a2⟩,a3⟩,a4⟩:=hl
 have g:∀l∈f.blocks,l.length<=100/\∀x∈l,x.args.length<=100/\x.to.length<=100:=by intro l hl;have:=a4 l hl;unfold ee at this;simp only[Bool.not_eq_true,Bool.or_eq_false_iff,decide_eq_false_iff_not,List.any_eq_false,eS]at this;refine⟨by omega,fun x d=>?_⟩;have m:=this.2 x d;omega
 exact⟨by omega,fun l hl=>by have:=(g l hl).1;omega,fun l hl x d=>⟨(hs l hl x d).1,(hs l hl x d).2.1,by have:=((g l hl).2 x d).1;omega,by have:=((g l hl).2 x d).2;omega⟩,
   fun l hl x d=>(hs l hl x d).2.2⟩
end
end
section
open Go.ChangeShapes Go.WideShapes Go.ChangeAt Go.RowKit
theorem own:ownKnob prog.godebug=none:=by kernel_rfl
theorem laidOut:laidOutB prog=true:=by kernel_rfl
end

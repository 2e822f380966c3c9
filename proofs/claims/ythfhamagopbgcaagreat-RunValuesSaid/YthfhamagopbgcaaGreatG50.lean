/- Parts: Lv. -/
import Derived.Test.YthfhamagopbgcaaGreatG49
set_option linter.unusedSimpArgs false
set_option linter.unusedVariables false
set_option maxRecDepth 100000
set_option maxHeartbeats 16000000
open Go.Proofs.Tryz
namespace Go.Proofs.YthfhamagopbgcaaGreat
open Go.RowKit Go.Shelf Go.Deep Go.ChangeShapes Go.WideShapes
theorem qh {H:Type} {enc:TypeId × Value->H} {w:World} {v:Value} {d:DataW H} {p:List MemPlace} (hv:Value.okWide prog w .any 0 56 v) (h:DataW.Trod enc prog w 0 (fun _=>true) true 56 v d p) :
  ∃ (pk:List Int) (vpk:Value) (x:Int),v=.agg #[vpk,.int .i64 x]/\ArgsAt w vpk pk/\-9223372036854775808<=x/\x<=9223372036854775807:=by
 obtain ⟨v0,q,t,u,n,rfl,rfl,-,j,l⟩:=Go.Joins.open_agg2 underlying56 (by kernel_rfl) (by kernel_rfl) hv h;obtain ⟨zs,m⟩:=iU j;obtain ⟨k,g,-,r⟩:=DataW.trod_int underlying3 l;obtain rfl:q=.int .i64 k:=by simpa using g
 exact ⟨zs,v0,k,rfl,m,bounds_i64 r⟩
theorem lawValues_any {w:World} {f:Fn} {vf:Value} (hfn:FnAt w.heap.size w vf f) (hn:dV f=false->jF f) (him:Rn.Im f) {i:Rn.Inp} {va vm:Value} (ha:ArgsAt w va i.args) (hm:TabAt w.heap.size w vm i.mem)
  {vpk:Value} {picks:List Int} (hpk:ArgsAt w vpk picks) (v:Int) (hv1:-9223372036854775808<=v) (hv2:v<=9223372036854775807) :
  Calls prog 9 #[vf,.agg #[va,vm],.agg #[vpk,.int .i64 v]] w fun e w'=>e=.returned (.bool true)/\Gr w w':=by
 have H:Hid (∀ d,Gr w d->Calls prog 11 #[vf,.agg #[va,vm]] d fun e w'=>e=.returned (.bool (dV f || fj i))/\Gr d w'):=fun d g=>kX (hfn.gr g) ha.len (hm.gr g);have z:Hid (∀ d,Calls prog 12 #[] d fun e w'=>e=.returned (.bool true)/\Gr d w'):=jt;have B:=dJ fun (h:(dV f || fj i)=false) (hl:picks.length<=1000) (d:World) (g:Gr w d)=>qZ (w:=d) (f:=f) (i:=i) (vf:=vf) (va:=va) (vm:=vm) (vpk:=vpk) (picks:=picks) (hfn.gr g) (hn (dW h).1) him (ha.u32 (dW h).2 g) (hm.gr g) ha.words (hpk.u32 hl g) hpk.words hl v;have C:=dJ fun (h:(dV f || fj i)=false) (hl:picks.length<=1000) (d:World) (g:Gr w d)=>nH (w:=d) (f:=f) (i:=i) (vf:=vf) (va:=va) (vm:=vm) (vpk:=vpk) (picks:=picks) (hfn.gr g) (hn (dW h).1) him (ha.u32 (dW h).2 g) (hm.gr g) ha.words (hpk.u32 hl g) hpk.words hl v hv1 hv2;obtain ⟨⟨x,hd,U⟩,Z⟩:∃ T,Rn.valueOf f i picks v=T:=⟨_,rfl⟩;rw [Z] at B C;obtain ⟨Aa,ca,rfl,-⟩:=id ha.len;obtain ⟨I,K,rfl,O,aa⟩:=id hpk.len;obtain ⟨Am,cm,rfl,-⟩:=id hm;obtain ⟨vp,vs,vb,rfl,hp,N,hb⟩:=hfn;obtain ⟨Ap,cp,rfl,-⟩:=hp;obtain ⟨As,cs,rfl,-⟩:=N;obtain ⟨Ab,cb,rfl,-⟩:=hb;obtain ⟨R,M⟩:=xJ ((w.alloc (.cells #[.slice Ap f.params.length cp,.int .i64 f.ret,.slice As f.slots.length cs,.slice Ab f.blocks.length cb] 25)).alloc (.cells #[.slice Aa i.args.length ca,.slice Am i.mem.length cm] 29));obtain ⟨X,s0,hc⟩:=gJ M;obtain ⟨W,Y⟩:=xJ (R.alloc (.cells #[.slice I picks.length K,.int .i64 v] 56));have l:Gr R W:=by rw [<- Y];exact (wL _).alloc _
 have q:W.heap[w.heap.size+2]?=some (.cells #[.slice I picks.length K,.int .i64 v] 56 (0,0)):=by rw [<- Y,<- s0];exact heap_alloc_new _ _
 have m:=dJ fun (wr:World) (g:Gr W wr)=>And.intro (hc wr (l.trans g)) (And.intro (vX _ _ 0 _ _ _ ((g.heap _ (cY q)).trans q):wr.cell? ⟨w.heap.size+2,0,none⟩=some (.slice I picks.length K)) (vX _ _ 1 _ _ _ ((g.heap _ (cY q)).trans q):wr.cell? ⟨w.heap.size+2,1,none⟩=some (.int .i64 v)));obtain ⟨⟨k0,k1,k2,k3,k4,k5⟩,k6,k7⟩:=m.out W (wL _);have u:=dJ (X.trans l);obtain ⟨lg,E⟩:=xJ ((dV f || fj i));rw [E] at H B C;have s2:(U == U)=true:=by simp
 unfold uh at B C;clear E hn ha hm X l hc q hpk O Z
 cases lg with
 | true =>
  go_enter func9, ntmps9
  go_wp2_with (first|(go_at_call 11;refine (H.out _ u.out).mono ?_;rintro e d ⟨rfl,l⟩;have y:Hid (Gr w d):=u.out.trans l;clear l)|(go_at_call 12;refine (z.out _).mono ?_;rintro e j ⟨rfl,D⟩))
  go_ret;exact ⟨rfl,y.out.trans D⟩
 | false =>
  by_cases F:picks.length<=1000
  ·have G:¬ (1000:Int)<(picks.length:Int):=by omega
   have I1:=dJ (B.out rfl F);have I2:=dJ (C.out rfl F);clear B C
   go_enter func9, ntmps9
   go_wp2_with (first|(go_at_call 11;refine (H.out _ u.out).mono ?_;rintro e d ⟨rfl,l⟩;have y:Hid (Gr W d):=l;clear l;obtain ⟨⟨l0,l1,l2,l3,l4,l5⟩,l6,l7⟩:=m.out d y.out)|(go_at_call 32;refine (I1.out _ (u.out.trans y.out)).mono ?_;rintro e j ⟨rfl,D⟩;have r:Hid (Gr W j):=y.out.trans D;clear D;have M0:=fun o=>(m.out (j.alloc o) (r.out.alloc o)).1.1;have M1:=fun o=>(m.out (j.alloc o) (r.out.alloc o)).1.2.1;have M2:=fun o=>(m.out (j.alloc o) (r.out.alloc o)).1.2.2.1;have M3:=fun o=>(m.out (j.alloc o) (r.out.alloc o)).1.2.2.2.1;have M4:=fun o=>(m.out (j.alloc o) (r.out.alloc o)).1.2.2.2.2.1;have M5:=fun o=>(m.out (j.alloc o) (r.out.alloc o)).1.2.2.2.2.2;have M6:=fun o=>(m.out (j.alloc o) (r.out.alloc o)).2.1;have M7:=fun o=>(m.out (j.alloc o) (r.out.alloc o)).2.2)|(go_at_call 33;obtain ⟨S,t⟩:=xJ (j.alloc (.cells #[.bool x.p,.int .i64 x.s,.int .u32 x.n] 37));rw [t];have Q:Hid (Gr W S):=(by show Gr _ _;rw [<- t];exact r.out.alloc _);have A:S.heap[j.heap.size]?=some (.cells #[.bool x.p,.int .i64 x.s,.int .u32 x.n] 37 (0,0)):=(by rw [<- t];exact heap_alloc_new _ _);refine (I2.out _ (u.out.trans Q.out)).mono ?_;rintro e w4 ⟨rfl,L⟩;have G4:Hid (Gr W w4):=Q.out.trans L;have J:Hid (∀ o,(w4.alloc o).heap[j.heap.size]?=some (.cells #[.bool x.p,.int .i64 x.s,.int .u32 x.n] 37 (0,0))):=(fun o=>((L.alloc o).heap _ (cY A)).trans A);have y0:=fun o=>vX _ _ 0 _ _ _ (J.out o);have y1:=fun o=>vX _ _ 1 _ _ _ (J.out o);have y2:=fun o=>vX _ _ 2 _ _ _ (J.out o);clear L A t)|(go_at_call 12;refine (z.out _).mono ?_;rintro e w7 ⟨rfl,g7⟩))
   go_ret;exact ⟨rfl,((u.out.trans G4.out).alloc _).trans g7⟩
  ·have G:(1000:Int)<(picks.length:Int):=by omega
   clear B C
   go_enter func9, ntmps9
   go_wp2_with (first|(go_at_call 11;refine (H.out _ u.out).mono ?_;rintro e d ⟨rfl,l⟩;have y:Hid (Gr w d):=u.out.trans l;obtain ⟨-,l6,-⟩:=m.out d l;clear l)|(go_at_call 12;refine (z.out _).mono ?_;rintro e j ⟨rfl,D⟩))
   go_ret;exact ⟨rfl,y.out.trans D⟩
end Go.Proofs.YthfhamagopbgcaaGreat

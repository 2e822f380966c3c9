/- Parts: Ap Wi Dv Eo Kn La Lt. -/
import Derived.Test.YthfhamagopbgcaaGreatG45
set_option linter.unusedSimpArgs false
set_option linter.unusedVariables false
set_option maxRecDepth 100000
set_option maxHeartbeats 16000000
open Go.Proofs.Tryz
namespace Go.Proofs.YthfhamagopbgcaaGreat
section
open Go.RowKit
theorem gJ {w W:World} {p0 p1 p2 p3 va vm:Value} (h:(w.alloc (.cells #[p0,p1,p2,p3] 25)).alloc (.cells #[va,vm] 29)=W):Gr w W/\W.heap.size=w.heap.size+2 /\
  ∀ wr,Gr W wr->wr.cell? ⟨w.heap.size,0,none⟩=some p0/\wr.cell? ⟨w.heap.size,1,none⟩=some p1/\wr.cell? ⟨w.heap.size,2,none⟩=some p2/\wr.cell? ⟨w.heap.size,3,none⟩=some p3/\wr.cell? ⟨w.heap.size+1,0,none⟩=some va/\wr.cell? ⟨w.heap.size+1,1,none⟩=some vm:=by
 subst h;have e:(w.alloc (.cells #[p0,p1,p2,p3] 25)).heap.size=w.heap.size+1:=by simp
 refine ⟨((wL w).alloc _).alloc _,by simp,fun wr g=>?_⟩;have d:wr.heap[w.heap.size]?=some (.cells #[p0,p1,p2,p3] 25 (0,0)):=(g.heap w.heap.size (by simp;omega)).trans ((((wL (w.alloc (.cells #[p0,p1,p2,p3] 25))).alloc (.cells #[va,vm] 29)).heap _ (by simp)).trans (heap_alloc_new w _));have j:wr.heap[w.heap.size+1]?=some (.cells #[va,vm] 29 (0,0)):=(g.heap (w.heap.size+1) (by simp)).trans (by rw [<- e];exact heap_alloc_new (w.alloc (.cells #[p0,p1,p2,p3] 25)) (.cells #[va,vm] 29));exact ⟨vX _ _ 0 _ _ _ d,vX _ _ 1 _ _ _ d,vX _ _ 2 _ _ _ d,vX _ _ 3 _ _ _ d,vX _ _ 0 _ _ _ j,vX _ _ 1 _ _ _ j⟩
def uh (x:Rn.V × Bool × Int):Value:=.tuple #[.agg #[.bool x.1.p,.int .i64 x.1.s,.int .u32 x.1.n],.bool x.2.1,.int .i64 x.2.2]
theorem eJ {x y:Rn.V × Bool × Int} (h:y=x):Ending.returned (.tuple #[.agg #[.bool x.1.p,.int .i64 x.1.s,.int .u32 x.1.n],.bool x.2.1,.int .i64 x.2.2])=.returned (uh y):=by rw [h];rfl
structure GotV (u:World) (Bv Bh n:Nat) (s:Rn.St):Prop where
 ln:s.vals.length=n
 hl:s.had.length=n
 hv:u.heap[Bv]?=some (.cells (dy s.vals).toArray 37 (0,0))
 hh:u.heap[Bh]?=some (.cells (s.had.map Value.bool).toArray 4 (0,0))
theorem GotV.cells {u:World} {Bv Bh n:Nat} {s:Rn.St} (h:GotV u Bv Bh n s) {v:Nat} (hv:v<n):u.cell? ⟨Bv,v * 3,none⟩=some (.bool (s.get v).p)/\u.cell? ⟨Bv,v * 3+1,none⟩=some (.int .i64 (s.get v).s)/\u.cell? ⟨Bv,v * 3+2,none⟩=some (.int .u32 (s.get v).n)/\u.cell? ⟨Bh,v,none⟩=some (.bool (s.had.getD v false)):=by
 have l:=h.ln;have m:=h.hl
 have e:s.vals[v]?=some (s.get (v:Int)):=by
  unfold Rn.St.get;rw [vG,vA,vu (by omega)];rfl
 obtain ⟨d,g,j⟩:=dZ _ _ _ e;rw [Nat.mul_comm] at d g j;refine ⟨(vX _ _ _ _ _ _ h.hv).trans (by simpa using d),(vX _ _ _ _ _ _ h.hv).trans (by simpa using g),(vX _ _ _ _ _ _ h.hv).trans (by simpa using j),(vX _ _ _ _ _ _ h.hh).trans ?_⟩;rw [vA];simp [show v<s.had.length by omega]
structure uo (u:World) (Bs Bv Bh n:Nat) (A:Option Addr) (c:Nat) (r:Rn.Out × Rn.St × List Int):Prop extends GotV u Bv Bh n r.2.1 where
 c5:u.cell? ⟨Bs,5,none⟩=some (.slice (some ⟨Bv,0,none⟩) n n)
 c6:u.cell? ⟨Bs,6,none⟩=some (.slice (some ⟨Bh,0,none⟩) n n)
 c11:u.cell? ⟨Bs,11,none⟩=some (.int .i64 r.2.1.steps)
 c12:u.cell? ⟨Bs,12,none⟩=some (.slice A r.2.2.length c)
 tr:IntsAt u.heap.size u (.slice A r.2.2.length c) r.2.2
theorem mm {w:World} {f:Fn} {vf:Value} (hfn:FnAt w.heap.size w vf f) (hf:VFn f) {i:Rn.Inp} (hin:Rn.validInput f i=0) {va vm:Value} (ha:U32At w.heap.size w va i.args) (hm:TabAt w.heap.size w vm i.mem) (hnn:∀ a ∈ i.args,0<=a)
  {vpk:Value} {picks:List Int} (hpk:U32At w.heap.size w vpk picks) (hr:∀ z ∈ picks,0<=z/\z<4294967296) :
  Calls prog 44 #[vf,.agg #[va,vm],vpk] w fun e w'=>∃ (Bs Bv Bh n c cx:Nat) (A Ax:Option Addr) (NW:Nat),e=.returned (.tuple #[.pointer (some ⟨Bs,0,none⟩),.agg #[.int .i64 (Rn.run f (Rn.given picks) i).1.kind,.bool (Rn.run f (Rn.given picks) i).1.ret.p,.int .i64 (Rn.run f (Rn.given picks) i).1.ret.s,.int .u32 (Rn.run f (Rn.given picks) i).1.ret.n,.slice Ax (Rn.run f (Rn.given picks) i).1.mem.length cx],.int .i64 NW]) /\
   (∀ u,Gr w' u->uo u Bs Bv Bh n A c (Rn.run f (Rn.given picks) i))/\Gr w w':=by
 refine (pW hfn hf hin ha hm hnn hpk hr).mono ?_;rintro e w' ⟨⟨c,C,B,b,t,rfl,y,m,d,q,c5⟩,g⟩;obtain ⟨Ax,cx,rfl⟩:=q.2.1;obtain ⟨A,r,l⟩:=d.form;rw [vS] at l;subst l;refine ⟨c.Bs,c.Bv,c.Bh,(Rn.run f (Rn.given picks) i).2.1.vals.length,r,cx,A,Ax,(Rn.wids f i picks).length,rfl,fun u j=>?_,g⟩;have p:=m.gr j;exact ⟨⟨rfl,p.hlen,p.vals,p.had⟩,p.cell 5,p.cell 6,p.cell 11,p.cell 12,(d.gr j).ints (by have:=Rn.run_len f (Rn.given picks) i;omega)⟩
theorem qZ {w:World} {f:Fn} {vf:Value} (hfn:FnAt w.heap.size w vf f) (hnice:jF f) (him:Rn.Im f) {i:Rn.Inp} {va vm:Value} (ha:U32At w.heap.size w va i.args) (hm:TabAt w.heap.size w vm i.mem) (hnn:∀ a ∈ i.args,0<=a/\a<4294967296)
  {vpk:Value} {picks:List Int} (hpk:U32At w.heap.size w vpk picks) (hr:∀ z ∈ picks,0<=z/\z<4294967296) (hpl:picks.length<=1000) (v:Int) :
  Calls prog 32 #[vf,.agg #[va,vm],vpk,.int .i64 v] w fun e w'=>e=.returned (uh (Rn.valueOf f i picks v))/\Gr w w':=by
 obtain ⟨vp,vs,vb,rfl,hp,hs,hb⟩:=hfn;have J:Hid (FnAt w.heap.size w (.agg #[vp,.int .i64 f.ret,vs,vb]) f):=⟨vp,vs,vb,rfl,hp,hs,hb⟩;obtain ⟨W0,av⟩:=xJ ((w.alloc (.cells #[vp,.int .i64 f.ret,vs,vb] 25)).alloc (.cells #[va,vm] 29));obtain ⟨g0,s0,hc⟩:=gJ av;obtain ⟨W,hW⟩:=xJ (W0.alloc (.cells #[.bool false,.int .i64 0,.int .u32 0] 37));have t:Gr W0 W:=by rw [<- hW];exact (wL _).alloc _
 have HC:=dJ fun (wr:World) (g:Gr W wr)=>hc wr (t.trans g);have aj:W.heap[w.heap.size+2]?=some (.cells #[.bool false,.int .i64 0,.int .u32 0] 37 (0,0)):=by rw [<- hW,<- s0];exact heap_alloc_new _ _
 have l:Hid (∀ wr,Gr W wr->wr.heap[w.heap.size+2]?=some (.cells #[.bool false,.int .i64 0,.int .u32 0] 37 (0,0))):=fun wr g=>(g.heap _ (cY aj)).trans aj;have gW:=g0.trans t;have CV:=dJ (eY (w:=W) (f:=f) (vf:=.agg #[vp,.int .i64 f.ret,vs,vb]) (i:=i) (va:=va) (vm:=vm) ((J.out.below gW).mono gW.size) hnice (SlAt.mono (U32At.below ha gW) gW.size) ((hm.below gW).mono gW.size));have HA:=dJ ha;have HM:=dJ hm;have al:=dJ hnn;have ar:=dJ hpk;have au:=dJ hr;have C:=dJ gW;obtain ⟨k0,k1,k2,k3,k4,k5⟩:=HC.out W (wL _);have C1:=dJ fun (h0:Rn.validInput f i=0) (B:World) (t:Gr W B)=>mm (w:=B) (f:=f) (i:=i) (vf:=.agg #[vp,.int .i64 f.ret,vs,vb]) (va:=va) (vm:=vm) (vpk:=vpk) (picks:=picks) ((J.out.below (C.out.trans t)).mono (C.out.trans t).size) ⟨(Rn.valid_input h0).1,him⟩ h0 (SlAt.mono (U32At.below HA.out (C.out.trans t)) (C.out.trans t).size) ((HM.out.below (C.out.trans t)).mono (C.out.trans t).size) (fun a ha=>(al.out a ha).1) (SlAt.mono (U32At.below ar.out (C.out.trans t)) (C.out.trans t).size) au.out;obtain ⟨X,hX⟩:=xJ (Rn.run f (Rn.given picks) i);have HX:=dJ hX;obtain ⟨V,hV⟩:=xJ (Rn.validInput f i);have HV:=dJ hV;rw [hX,hV] at C1;rw [hV] at CV;obtain ⟨Ap,cp,rfl,-⟩:=id hp;obtain ⟨As,cs,rfl,-⟩:=id hs;obtain ⟨Ab,cb,rfl,-⟩:=id hb;obtain ⟨Aa,ca,rfl,-⟩:=id ha;obtain ⟨Am,cm,rfl,-⟩:=id hm;obtain ⟨Ak,ck,rfl,-⟩:=id hpk;have S:w.heap.size<=w.heap.size+2:=by omega
 have aa:=dJ hnice;have aq:=dJ him;clear hnice him t aj;clear hp hs hb ha hm hnn hpk hr hX hV g0 gW hc;by_cases ap:V=0
 ·subst ap;have C2:=dJ (C1.out rfl);clear C1;have F:=Rn.valid_input HV.out;have U:Ref.validate f=0:=(Ref.val_iff f).2 F.1;obtain ⟨E,hE⟩:=xJ (Ref.valuedR f v);obtain ⟨K,hK⟩:=xJ (Ref.kindR f v);have ab:=dJ hE;have Z:=dJ hK;have L:=hE;unfold Ref.valuedR at L;rw [wa U] at L;by_cases M:v<0\/(Ref.count f:Int)<=v
  ·rw [wa M] at L;subst L;have G:Hid (Rn.valueOf f i picks v=(Rn.zero,false,4)):=by (show _=_);unfold Rn.valueOf;rw [wa HV.out,wa M]
   clear hE hK M F U
   go_enter func32, ntmps32
   go_wp2_with (first|(go_at_call 13;refine CV.out.mono ?_;rintro e B ⟨rfl,t⟩;obtain ⟨j0,j1,j2,j3,j4,j5⟩:=HC.out B t;have m:=dJ t;have Y:=dJ (C2.out B t);have N:=dJ (gX (.agg #[.slice Ap f.params.length cp,.int .i64 f.ret,.slice As f.slots.length cs,.slice Ab f.blocks.length cb]) f v B ((J.out.below (C.out.trans m.out)).mono (C.out.trans m.out).size) aa.out);rw [ab.out,Z.out] at N;clear t C2)|(go_at_call 57;refine N.out.mono ?_;rintro e I ⟨rfl,R⟩;have r:=dJ (m.out.trans R);have e0:=vX _ _ 0 _ _ _ (l.out I r.out);have ae:=vY _ _ 0 _ _ (l.out I r.out);have e1:=vX _ _ 1 _ _ _ (l.out I r.out);have af:=vY _ _ 1 _ _ (l.out I r.out);have e2:=vX _ _ 2 _ _ _ (l.out I r.out);have ag:=vY _ _ 2 _ _ (l.out I r.out);clear R))
   refine vZ (v:=.tuple #[.agg #[.bool false,.int .i64 0,.int .u32 0],.bool false,.int .i64 4]) (by simp [results,results32,go_sem, *]) rfl ?_;refine ⟨eJ G.out,?_⟩
   iterate 3 refine Gr.setCell ?_ S _
   exact C.out.trans r.out
  ·rw [wb M] at L;subst L;obtain ⟨H,rfl⟩:∃ n:Nat,v=n:=⟨v.toNat,by omega⟩;have ad:H<Ref.count f:=by omega
   have hI:=(Rn.run_ok mr F.1 aq.out HV.out (fun a ha=>(al.out a ha).1) picks).2.2.1;rw [HX.out] at hI;have ac:=hK;unfold Ref.kindR at ac;rw [wa hE] at ac;have aw:X.2.1.vals.length=Ref.count f:=hI.len;obtain ⟨x,hx⟩:=xJ (X.2.1.get (H:Int));obtain ⟨hd,T⟩:=xJ (X.2.1.had.getD H false);have G:Hid (Rn.valueOf f i picks (H:Int)=(x,hd,0)):=by (show _=_);unfold Rn.valueOf;rw [wa HV.out,wb M,HX.out,hx,vG,T]
   have Q:Hid (hd=false->x=Rn.zero):=fun q=>by have:=hI.zero H (fun e=>by unfold Rn.Had at e;rw [T,q] at e;cases e);rw [hx] at this;exact this
   have ah:Hid (K=0->hd=false):=fun q=>by
    cases hd with
    | false=>rfl
    | true=>exact absurd (ac.trans q) (hI.ok H T).2
   have d:Hid (∀ u Bs Bv Bh n A c,uo u Bs Bv Bh n A c X->H<n/\n<=1000/\u.cell? ⟨Bv,H * 3,none⟩=some (.bool x.p)/\u.cell? ⟨Bv,H * 3+1,none⟩=some (.int .i64 x.s)/\u.cell? ⟨Bv,H * 3+2,none⟩=some (.int .u32 x.n)/\u.cell? ⟨Bh,H,none⟩=some (.bool hd)):=fun u Bs Bv Bh n A c g=>by
    have h1:=g.ln;have ay:=F.1.size;have e9:Ref.count f=f.params.length+Ref.total f.blocks:=by unfold Ref.count Ref.number;rw [wg]
    have an:H<n:=by omega
    obtain ⟨a1,a2,a3,a4⟩:=g.cells an;rw [hx] at a1 a2 a3;rw [T] at a4;exact ⟨an,by omega,a1,a2,a3,a4⟩
   clear hE hK ac M F U hI aw hx T ad;by_cases ai:K=0
   ·have am:=ah.out ai;have ak:=Q.out am;subst ai;subst am;subst ak;clear ah Q
    go_enter func32, ntmps32
    go_wp2_with (first|(go_at_call 13;refine CV.out.mono ?_;rintro e B ⟨rfl,t⟩;obtain ⟨j0,j1,j2,j3,j4,j5⟩:=HC.out B t;have m:=dJ t;have Y:=dJ C2.out;have N:=dJ (gX (.agg #[.slice Ap f.params.length cp,.int .i64 f.ret,.slice As f.slots.length cs,.slice Ab f.blocks.length cb]) f (H:Int) B ((J.out.below (C.out.trans m.out)).mono (C.out.trans m.out).size) aa.out);rw [ab.out,Z.out] at N;clear t C2)|(go_at_call 57;refine N.out.mono ?_;rintro e I ⟨rfl,R⟩;have r:=dJ (m.out.trans R);obtain ⟨l0,l1,l2,l3,l4,l5⟩:=HC.out I r.out;have O:=dJ (Y.out I r.out);clear R Y)|(go_at_call 44;refine O.out.mono ?_;rintro e j ⟨Bs,Bv,Bh,n,c,cx,A,Ax,NW,rfl,hr,g6⟩;obtain ⟨ad,ao,-⟩:=d.out _ _ _ _ _ _ _ (hr j (wL j));have D:=dJ hr;have y:=dJ (r.out.trans g6);have e0:=fun o=>vX _ _ 0 _ _ _ (l.out (j.alloc o) (y.out.alloc o));have ae:=fun o=>vY _ _ 0 _ _ (l.out (j.alloc o) (y.out.alloc o));have e1:=fun o=>vX _ _ 1 _ _ _ (l.out (j.alloc o) (y.out.alloc o));have af:=fun o=>vY _ _ 1 _ _ (l.out (j.alloc o) (y.out.alloc o));have e2:=fun o=>vX _ _ 2 _ _ _ (l.out (j.alloc o) (y.out.alloc o));have ag:=fun o=>vY _ _ 2 _ _ (l.out (j.alloc o) (y.out.alloc o));have u5:=fun o=>(D.out (j.alloc o) ((wL j).alloc o)).c5;have u6:=fun o=>(D.out (j.alloc o) ((wL j).alloc o)).c6;have v0:=fun o=>(d.out _ _ _ _ _ _ _ (D.out (j.alloc o) ((wL j).alloc o))).2.2.1;have v1:=fun o=>(d.out _ _ _ _ _ _ _ (D.out (j.alloc o) ((wL j).alloc o))).2.2.2.1;have v2:=fun o=>(d.out _ _ _ _ _ _ _ (D.out (j.alloc o) ((wL j).alloc o))).2.2.2.2.1;have v3:=fun o=>(d.out _ _ _ _ _ _ _ (D.out (j.alloc o) ((wL j).alloc o))).2.2.2.2.2;clear hr g6))
    refine vZ (v:=.tuple #[.agg #[.bool false,.int .i64 0,.int .u32 0],.bool false,.int .i64 0]) (by simp [results,results32,go_sem, *]) rfl ?_;refine ⟨eJ G.out,?_⟩
    iterate 3 refine Gr.setCell ?_ S _
    exact (C.out.trans y.out).alloc _
   ·have ax:(K == 0)=false:=by simp [ai]
    clear ah
    cases hd with
    | false =>
     have ak:=Q.out rfl;subst ak;clear Q
     go_enter func32, ntmps32
     go_wp2_with (first|(go_at_call 13;refine CV.out.mono ?_;rintro e B ⟨rfl,t⟩;obtain ⟨j0,j1,j2,j3,j4,j5⟩:=HC.out B t;have m:=dJ t;have Y:=dJ C2.out;have N:=dJ (gX (.agg #[.slice Ap f.params.length cp,.int .i64 f.ret,.slice As f.slots.length cs,.slice Ab f.blocks.length cb]) f (H:Int) B ((J.out.below (C.out.trans m.out)).mono (C.out.trans m.out).size) aa.out);rw [ab.out,Z.out] at N;clear t C2)|(go_at_call 57;refine N.out.mono ?_;rintro e I ⟨rfl,R⟩;have r:=dJ (m.out.trans R);obtain ⟨l0,l1,l2,l3,l4,l5⟩:=HC.out I r.out;have O:=dJ (Y.out I r.out);clear R Y)|(go_at_call 44;refine O.out.mono ?_;rintro e j ⟨Bs,Bv,Bh,n,c,cx,A,Ax,NW,rfl,hr,g6⟩;obtain ⟨ad,ao,-⟩:=d.out _ _ _ _ _ _ _ (hr j (wL j));have D:=dJ hr;have y:=dJ (r.out.trans g6);have e0:=fun o=>vX _ _ 0 _ _ _ (l.out (j.alloc o) (y.out.alloc o));have ae:=fun o=>vY _ _ 0 _ _ (l.out (j.alloc o) (y.out.alloc o));have e1:=fun o=>vX _ _ 1 _ _ _ (l.out (j.alloc o) (y.out.alloc o));have af:=fun o=>vY _ _ 1 _ _ (l.out (j.alloc o) (y.out.alloc o));have e2:=fun o=>vX _ _ 2 _ _ _ (l.out (j.alloc o) (y.out.alloc o));have ag:=fun o=>vY _ _ 2 _ _ (l.out (j.alloc o) (y.out.alloc o));have u5:=fun o=>(D.out (j.alloc o) ((wL j).alloc o)).c5;have u6:=fun o=>(D.out (j.alloc o) ((wL j).alloc o)).c6;have v0:=fun o=>(d.out _ _ _ _ _ _ _ (D.out (j.alloc o) ((wL j).alloc o))).2.2.1;have v1:=fun o=>(d.out _ _ _ _ _ _ _ (D.out (j.alloc o) ((wL j).alloc o))).2.2.2.1;have v2:=fun o=>(d.out _ _ _ _ _ _ _ (D.out (j.alloc o) ((wL j).alloc o))).2.2.2.2.1;have v3:=fun o=>(d.out _ _ _ _ _ _ _ (D.out (j.alloc o) ((wL j).alloc o))).2.2.2.2.2;clear hr g6))
     refine vZ (v:=.tuple #[.agg #[.bool false,.int .i64 0,.int .u32 0],.bool false,.int .i64 0]) (by simp [results,results32,go_sem, *]) rfl ?_;refine ⟨eJ G.out,?_⟩
     iterate 3 refine Gr.setCell ?_ S _
     exact (C.out.trans y.out).alloc _
    | true =>
     clear Q
     go_enter func32, ntmps32
     go_wp2_with (first|(go_at_call 13;refine CV.out.mono ?_;rintro e B ⟨rfl,t⟩;obtain ⟨j0,j1,j2,j3,j4,j5⟩:=HC.out B t;have m:=dJ t;have Y:=dJ C2.out;have N:=dJ (gX (.agg #[.slice Ap f.params.length cp,.int .i64 f.ret,.slice As f.slots.length cs,.slice Ab f.blocks.length cb]) f (H:Int) B ((J.out.below (C.out.trans m.out)).mono (C.out.trans m.out).size) aa.out);rw [ab.out,Z.out] at N;clear t C2)|(go_at_call 57;refine N.out.mono ?_;rintro e I ⟨rfl,R⟩;have r:=dJ (m.out.trans R);obtain ⟨l0,l1,l2,l3,l4,l5⟩:=HC.out I r.out;have O:=dJ (Y.out I r.out);clear R Y)|(go_at_call 44;refine O.out.mono ?_;rintro e j ⟨Bs,Bv,Bh,n,c,cx,A,Ax,NW,rfl,hr,g6⟩;obtain ⟨ad,ao,-⟩:=d.out _ _ _ _ _ _ _ (hr j (wL j));have D:=dJ hr;have y:=dJ (r.out.trans g6);have e0:=fun o=>vX _ _ 0 _ _ _ (l.out (j.alloc o) (y.out.alloc o));have ae:=fun o=>vY _ _ 0 _ _ (l.out (j.alloc o) (y.out.alloc o));have e1:=fun o=>vX _ _ 1 _ _ _ (l.out (j.alloc o) (y.out.alloc o));have af:=fun o=>vY _ _ 1 _ _ (l.out (j.alloc o) (y.out.alloc o));have e2:=fun o=>vX _ _ 2 _ _ _ (l.out (j.alloc o) (y.out.alloc o));have ag:=fun o=>vY _ _ 2 _ _ (l.out (j.alloc o) (y.out.alloc o));have u5:=fun o=>(D.out (j.alloc o) ((wL j).alloc o)).c5;have u6:=fun o=>(D.out (j.alloc o) ((wL j).alloc o)).c6;have v0:=fun o=>(d.out _ _ _ _ _ _ _ (D.out (j.alloc o) ((wL j).alloc o))).2.2.1;have v1:=fun o=>(d.out _ _ _ _ _ _ _ (D.out (j.alloc o) ((wL j).alloc o))).2.2.2.1;have v2:=fun o=>(d.out _ _ _ _ _ _ _ (D.out (j.alloc o) ((wL j).alloc o))).2.2.2.2.1;have v3:=fun o=>(d.out _ _ _ _ _ _ _ (D.out (j.alloc o) ((wL j).alloc o))).2.2.2.2.2;clear hr g6))
     refine vZ (v:=.tuple #[.agg #[.bool x.p,.int .i64 x.s,.int .u32 x.n],.bool true,.int .i64 0]) (by simp [results,results32,go_sem, *]) rfl ?_;refine ⟨eJ G.out,?_⟩
     iterate 3 refine Gr.setCell ?_ S _
     exact (C.out.trans y.out).alloc _
 ·have G:Hid (Rn.valueOf f i picks v=(Rn.zero,false,V)):=by (show _=_);unfold Rn.valueOf;rw [HV.out,wb ap]
  clear C1
  go_enter func32, ntmps32
  go_wp2_with (go_at_call 13;refine CV.out.mono ?_;rintro e B ⟨rfl,t⟩;have m:=dJ t;have e0:=vX _ _ 0 _ _ _ (l.out B m.out);have ae:=vY _ _ 0 _ _ (l.out B m.out);have e1:=vX _ _ 1 _ _ _ (l.out B m.out);have af:=vY _ _ 1 _ _ (l.out B m.out);have e2:=vX _ _ 2 _ _ _ (l.out B m.out);have ag:=vY _ _ 2 _ _ (l.out B m.out);clear t);refine vZ (v:=.tuple #[.agg #[.bool false,.int .i64 0,.int .u32 0],.bool false,.int .i64 V]) (by simp [results,results32,go_sem, *]) rfl ?_;refine ⟨eJ G.out,?_⟩
  iterate 3 refine Gr.setCell ?_ S _
  exact C.out.trans m.out
theorem qX {B:Nat} {w w':World} {v:Value} {zs:List Int} (h:U32At B w v zs) (hb:Below B w w'):U32At B w' v zs :=
 SlAt.imp h fun b off d g j z l=>(hb.cell (p:=⟨b,off+j,none⟩) d).trans (g j z l)
def sL (v:Value) (n:Nat):Prop:=∃ A c,v=.slice A n c/\n<=c/\n<=9223372036854775807
structure ArgsAt (w:World) (v:Value) (zs:List Int):Prop where
 len:sL v zs.length
 at_:zs.length<=1000->U32At w.heap.size w v zs
 words:∀ z ∈ zs,0<=z/\z<4294967296
def fj (i:Rn.Inp):Bool:=decide (20<i.args.length) || decide (20<i.mem.length) || i.mem.any fun l=>decide (50<l.length)
theorem sy {w:World} {i:Rn.Inp} {va vm:Value} (ha:sL va i.args.length) (hm:TabAt w.heap.size w vm i.mem) :
  Calls prog 37 #[.agg #[va,vm]] w fun e w'=>e=.returned (.bool (fj i))/\Gr w w':=by
 obtain ⟨B,ca,rfl,X,Y⟩:=ha;obtain ⟨Am,cm,rfl,m1,m2,M⟩:=hm;obtain ⟨W,L⟩:=xJ (w.alloc (.cells #[.slice B i.args.length ca,.slice Am i.mem.length cm] 29));have F:Gr w W:=by rw [<- L];exact (wL w).alloc _
 have p:W.heap[w.heap.size]?=some (.cells #[.slice B i.args.length ca,.slice Am i.mem.length cm] 29 (0,0)):=by rw [<- L];exact heap_alloc_new _ _
 have k0:W.cell? ⟨w.heap.size,0,none⟩=some (.slice B i.args.length ca):=vX _ _ 0 _ _ _ p;have k1:W.cell? ⟨w.heap.size,1,none⟩=some (.slice Am i.mem.length cm):=vX _ _ 1 _ _ _ p
 have C:Hid (∀ j l,i.mem[j]?=some l->∃ b o y A,Am=some ⟨b,o,none⟩/\W.cell? ⟨b,o+j,none⟩=some (.slice y l.length A)):=fun j l hl=>by
  obtain ⟨b,o,e,T,S⟩:=M (by have:=(vy.1 hl).1;omega);obtain ⟨u,U,y,A,rfl,-⟩:=S j l hl;exact ⟨b,o,y,A,e,(F.cell _ _ T).trans U⟩
 have z:=dJ F;obtain ⟨R,H⟩:=xJ (fj i);have D:=dJ H;rw [H];clear F p M H;by_cases d:20<i.args.length
 ·have m:Hid (R=true):=by show _=_;rw [<- D.out];simp [fj,d]
  have N:(20:Int)<(i.args.length:Int):=by omega
  go_enter func37, ntmps37
  go_wp2;go_ret;exact ⟨cZ m.out.symm,z.out⟩
 ·have N:¬ (20:Int)<(i.args.length:Int):=by omega
  by_cases g:20<i.mem.length
  ·have m:Hid (R=true):=by show _=_;rw [<- D.out];simp [fj,g]
   have O:(20:Int)<(i.mem.length:Int):=by omega
   go_enter func37, ntmps37
   go_wp2;go_ret;exact ⟨cZ m.out.symm,z.out⟩
  ·have O:¬ (20:Int)<(i.mem.length:Int):=by omega
   have r:Hid ((i.mem.any fun l=>decide (50<l.length))=R):=by show _=_;rw [<- D.out];simp [fj,d,g]
   go_enter func37, ntmps37
   go_wp2
   go_loop [3] (fun K=>∃ k:Nat,k<=i.mem.length/\K=.int .i64 (k:Int)/\Hid (∀ j l,j<k->i.mem[j]?=some l->l.length<=50)) (fun K=>i.mem.length-(intOf K).toNat)
   case atStart=>exact ⟨0,vU _,rfl,(fun j l h=>absurd h (Nat.not_lt_zero _))⟩
   case round =>
    obtain ⟨k,hk,rfl,t⟩:=hrel;by_cases J:k<i.mem.length
    ·obtain ⟨l,hl⟩:∃ l,i.mem[k]?=some l:=⟨_,vu J⟩;obtain ⟨b,o,y,A,rfl,Z⟩:=C.out k l hl;by_cases G:50<l.length
     ·have m:Hid (R=true):=by show _=_;rw [<- r.out,wC];exact ⟨l,vz hl,by simpa using G⟩
      have Q:(50:Int)<(l.length:Int):=by omega
      clear hl;go_wp2;go_ret;exact ⟨cZ m.out.symm,z.out⟩
     ·have Q:¬ (50:Int)<(l.length:Int):=by omega
      have E:Hid (∀ j l,j<k+1->i.mem[j]?=some l->l.length<=50):=fun j l' I h=>by
       rcases wh j k with q | q
       ·exact t.out j l' q h
       ·obtain rfl:j=k:=by omega
        rw [hl] at h;injection h with h;subst h;omega
      clear hl;go_wp2;go_round;case rel=>exact ⟨k+1,by omega,by go_num,E⟩
      case measure=>simp [intOf];omega
    ·have m:Hid (R=false):=by
      show _=_;rw [<- r.out,List.any_eq_false];intro l hl;obtain ⟨j,I⟩:=List.getElem?_of_mem hl;have:=(vy.1 I).1;have:=t.out j l (by omega) I;simpa using this
     go_wp2;go_ret;exact ⟨cZ m.out.symm,z.out⟩
theorem kX {w:World} {f:Fn} {vf:Value} (hfn:FnAt w.heap.size w vf f) {i:Rn.Inp} {va vm:Value} (ha:sL va i.args.length) (hm:TabAt w.heap.size w vm i.mem) :
  Calls prog 11 #[vf,.agg #[va,vm]] w fun e w'=>e=.returned (.bool (dV f || fj i))/\Gr w w':=by
 obtain ⟨vp,vs,vb,rfl,E,F,D⟩:=hfn;have z:Hid (FnAt w.heap.size w (.agg #[vp,.int .i64 f.ret,vs,vb]) f):=⟨vp,vs,vb,rfl,E,F,D⟩;have I:=dJ ha;have J:=dJ hm;obtain ⟨W,C⟩:=xJ ((w.alloc (.cells #[vp,.int .i64 f.ret,vs,vb] 25)).alloc (.cells #[va,vm] 29));have u:Gr w W:=by rw [<- C];exact ((wL w).alloc _).alloc _
 have p:(w.alloc (.cells #[vp,.int .i64 f.ret,vs,vb] 25)).heap.size=w.heap.size+1:=by simp
 have j:W.heap[w.heap.size]?=some (.cells #[vp,.int .i64 f.ret,vs,vb] 25 (0,0)):=by
  rw [<- C];exact (((wL (w.alloc (.cells #[vp,.int .i64 f.ret,vs,vb] 25))).alloc _).heap _ (by simp)).trans (heap_alloc_new w _)
 have l:W.heap[w.heap.size+1]?=some (.cells #[va,vm] 29 (0,0)):=by rw [<- C,<- p];exact heap_alloc_new _ _
 have U:W.cell? ⟨w.heap.size,0,none⟩=some vp:=vX _ _ 0 _ _ _ j;have X:W.cell? ⟨w.heap.size,1,none⟩=some (.int .i64 f.ret):=vX _ _ 1 _ _ _ j;have Y:W.cell? ⟨w.heap.size,2,none⟩=some vs:=vX _ _ 2 _ _ _ j;have Z:W.cell? ⟨w.heap.size,3,none⟩=some vb:=vX _ _ 3 _ _ _ j
 have B:Hid (∀ wr,Gr W wr->wr.cell? ⟨w.heap.size+1,0,none⟩=some va/\wr.cell? ⟨w.heap.size+1,1,none⟩=some vm):=fun wr g=>by
  have r:=(g.heap _ (cY l)).trans l;exact ⟨vX _ _ 0 _ _ _ r,vX _ _ 1 _ _ _ r⟩
 have y:=dJ (ri _ f W ((z.out.below u).mono u.size));have t:=dJ u;obtain ⟨M,Q,rfl,-⟩:=id E;obtain ⟨N,R,rfl,-⟩:=id F;obtain ⟨L,O,rfl,-⟩:=id D;obtain ⟨K,ca,rfl,-⟩:=id ha;obtain ⟨Am,cm,rfl,-⟩:=id hm;clear E F D ha hm u j l p;cases hl:dV f;all_goals rw [hl] at y
 ·go_enter func11, ntmps11
  go_wp2_with (first|(go_at_call 36;refine y.out.mono ?_;rintro e q ⟨rfl,m⟩;obtain ⟨S,T⟩:=B.out q m;have d:Hid (Gr W q):=m;have H:=dJ (sy (w:=q) (i:=i) I.out ((J.out.below (t.out.trans d.out)).mono (t.out.trans d.out).size));clear m)|(go_at_call 37;refine H.out.mono ?_;rintro e w2 ⟨rfl,G⟩;have A:=dJ G;clear G))
  go_ret;exact ⟨cZ (by simp),t.out.trans (d.out.trans A.out)⟩
 ·go_enter func11, ntmps11
  go_wp2_with (go_at_call 36;refine y.out.mono ?_;rintro e q ⟨rfl,m⟩;have d:Hid (Gr W q):=m;clear m);go_ret;exact ⟨cZ (by simp),t.out.trans d.out⟩
theorem Rn.widB_of {n:Int} (h:Wd.Wid n):Wd.widB n=true:=by
 unfold Wd.widB;have d:=h.1;have g:=h.2;simp [d,g]
theorem fR {w:World} {f:Fn} {vf:Value} (hfn:FnAt w.heap.size w vf f) (hnice:jF f) {i:Rn.Inp} {va vm:Value} (ha:U32At w.heap.size w va i.args) (hm:TabAt w.heap.size w vm i.mem) (hnn:∀ a ∈ i.args,0<=a/\a<4294967296) :
  Calls prog 14 #[vf,.agg #[va,vm]] w fun e w'=>e=.returned (.int .i64 (Rn.validInput f i))/\Gr w w':=by
 have aD:=dJ hnn;clear hnn;obtain ⟨vp,vs,vb,rfl,hp,hs,hb⟩:=hfn;obtain ⟨W,hW⟩:=xJ ((w.alloc (.cells #[vp,.int .i64 f.ret,vs,vb] 25)).alloc (.cells #[va,vm] 29));have G:Gr w W:=by rw [<- hW];exact ((wL w).alloc _).alloc _
 have au:(w.alloc (.cells #[vp,.int .i64 f.ret,vs,vb] 25)).heap.size=w.heap.size+1:=by simp
 have ac:W.heap[w.heap.size]?=some (.cells #[vp,.int .i64 f.ret,vs,vb] 25 (0,0)):=by
  rw [<- hW];exact (((wL (w.alloc (.cells #[vp,.int .i64 f.ret,vs,vb] 25))).alloc _).heap _ (by simp)).trans (heap_alloc_new w _)
 have ad:W.heap[w.heap.size+1]?=some (.cells #[va,vm] 29 (0,0)):=by rw [<- hW,<- au];exact heap_alloc_new _ _
 have CV:=dJ (qx (.agg #[vp,.int .i64 f.ret,vs,vb]) f W ⟨vp,vs,vb,rfl,(hp.below G).mono G.size,(hs.below G).mono G.size,(hb.below G).mono G.size⟩ hnice);have HF:Hid (∀ wr,Gr W wr->wr.heap[w.heap.size]?=some (.cells #[vp,.int .i64 f.ret,vs,vb] 25 (0,0))/\wr.heap[w.heap.size+1]?=some (.cells #[va,vm] 29 (0,0))):=fun wr g=>⟨(g.heap _ (cY ac)).trans ac,(g.heap _ (cY ad)).trans ad⟩;obtain ⟨Ap,cp,rfl,p1,p2,p3⟩:=hp;obtain ⟨As,cs,rfl,s1,s2,s3⟩:=hs;obtain ⟨Ab,cb,rfl,-,-,-⟩:=id hb;obtain ⟨Aa,ca,rfl,a1,a2,a3⟩:=ha;obtain ⟨Am,cm,rfl,m1,m2,m3⟩:=hm
 have al:Hid (∀ wr,Gr W wr->∀ j z,f.params[j]?=some z->∃ b o,Ap=some ⟨b,o,none⟩/\wr.cell? ⟨b,o+j,none⟩=some (.int .i64 z)):=fun wr g j z r=>by
  obtain ⟨b,o,e,hb,h4⟩:=p3 (by have:=(vy.1 r).1;omega);exact ⟨b,o,e,((G.trans g).cell _ _ (by omega)).trans (h4 j z r)⟩
 have ao:Hid (∀ wr,Gr W wr->∀ j z,f.slots[j]?=some z->∃ b o,As=some ⟨b,o,none⟩/\wr.cell? ⟨b,o+j,none⟩=some (.int .i64 z)):=fun wr g j z r=>by
  obtain ⟨b,o,e,hb,h4⟩:=s3 (by have:=(vy.1 r).1;omega);exact ⟨b,o,e,((G.trans g).cell _ _ (by omega)).trans (h4 j z r)⟩
 have ah:Hid (∀ wr,Gr W wr->∀ j z,i.args[j]?=some z->∃ b o,Aa=some ⟨b,o,none⟩/\wr.cell? ⟨b,o+j,none⟩=some (.int .u32 z)):=fun wr g j z r=>by
  obtain ⟨b,o,e,hb,h4⟩:=a3 (by have:=(vy.1 r).1;omega);exact ⟨b,o,e,((G.trans g).cell _ _ (by omega)).trans (h4 j z r)⟩
 have az:Hid (∀ j l,i.mem[j]?=some l->∃ b o Al cl,Am=some ⟨b,o,none⟩/\l.length<=17592186044416/\∀ wq,Gr W wq->wq.cell? ⟨b,o+j,none⟩=some (.slice Al l.length cl)/\∀ t x,l[t]?=some x->∃ b' o',Al=some ⟨b',o',none⟩/\wq.cell? ⟨b',o'+t,none⟩=some (.int .i64 x)):=fun j l hl=>by
  obtain ⟨b,o,e,hb,h4⟩:=m3 (by have:=(vy.1 hl).1;omega);obtain ⟨u,hu,Al,cl,rfl,-,h6,h7⟩:=h4 j l hl;refine ⟨b,o,Al,cl,e,h6,fun wq g=>⟨((G.trans g).cell _ _ (by omega)).trans hu,fun t x E=>?_⟩⟩;obtain ⟨b',o',F,aH,h8⟩:=h7 (by have:=(vy.1 E).1;omega);exact ⟨b',o',F,((G.trans g).cell _ _ aH).trans (h8 t x E)⟩
 have C:=dJ G;obtain ⟨R,hR⟩:=xJ (Rn.validInput f i);rw [hR];unfold Rn.validInput at hR;have HR:=dJ hR;obtain ⟨V,hV⟩:=xJ (Ref.validate f);rw [hV] at CV HR;have HV:=dJ hV
 have aa:∀ wr,Gr W wr->wr.cell? ⟨w.heap.size,0,none⟩=some (.slice Ap f.params.length cp)/\wr.cell? ⟨w.heap.size,1,none⟩=some (.int .i64 f.ret)/\wr.cell? ⟨w.heap.size,2,none⟩=some (.slice As f.slots.length cs)/\wr.cell? ⟨w.heap.size,3,none⟩=some (.slice Ab f.blocks.length cb)/\wr.cell? ⟨w.heap.size+1,0,none⟩=some (.slice Aa i.args.length ca)/\wr.cell? ⟨w.heap.size+1,1,none⟩=some (.slice Am i.mem.length cm):=fun wr g=>by
  obtain ⟨q1,q2⟩:=HF.out wr g;exact ⟨vX _ _ 0 _ _ _ q1,vX _ _ 1 _ _ _ q1,vX _ _ 2 _ _ _ q1,vX _ _ 3 _ _ _ q1,vX _ _ 0 _ _ _ q2,vX _ _ 1 _ _ _ q2⟩
 have HC:=dJ aa;obtain ⟨k0,k1,k2,k3,k4,k5⟩:=aa W (wL _);clear G ac ad p3 s3 a3 m3 hR hV aa au hb;by_cases av:V=0
 ·subst av
  have HW:Hid (∀ j z,f.params[j]?=some z->Wd.Wid z):=fun j z r=>by
   have hv:Ref.Val f:=(Ref.val_iff f).1 HV.out;exact Rn.wid_of (vT.1 hv.head.1 z (vz r))
  by_cases y:i.args.length=f.params.length
  ·by_cases p:i.mem.length=f.slots.length
   ·have am:Hid ((if (f.params.zip i.args).any (fun q=>decide (Wd.sz q.1<=q.2))=true then 1 else if (f.slots.zip i.mem).any (fun q=>decide ((q.2.length:Int)≠q.1) || q.2.any (fun b=>decide (b < -1) || decide (255<b)))=true then 1 else 0)=R):=by
     have:=HR.out;rw [wb (by decide),wb (by omega)] at this;exact this
    obtain ⟨n,hn⟩:=xJ f.params.length;obtain ⟨m,hm⟩:=xJ f.slots.length;rw [hn] at y p1 p2 k0;rw [hm] at p s1 s2 k2;rw [y] at a1 a2 k4;rw [p] at m1 m2 k5
    have B:Hid (∀ wr,Gr W wr->wr.cell? ⟨w.heap.size,0,none⟩=some (.slice Ap n cp)/\wr.cell? ⟨w.heap.size,2,none⟩=some (.slice As m cs)/\wr.cell? ⟨w.heap.size+1,0,none⟩=some (.slice Aa n ca)/\wr.cell? ⟨w.heap.size+1,1,none⟩=some (.slice Am m cm)):=fun wr g=>by
     obtain ⟨q0,q1,q2,q3,q4,q5⟩:=HC.out wr g;rw [hn] at q0;rw [hm] at q2;rw [y] at q4;rw [p] at q5;exact ⟨q0,q2,q4,q5⟩
    have aj:=dJ hn;have ak:=dJ hm;have aA:=dJ y;have aB:=dJ p;rw [hn,hm,y,p] at hW;rw [hn,hm] at CV;rw [hn,hm,y,p];clear y p hn hm
    go_enter func14, ntmps14
    go_wp2_with (go_at_call 42;refine CV.out.mono ?_;rintro e w1 ⟨rfl,Q⟩;obtain ⟨j0,j2,j4,j5⟩:=B.out w1 Q;have N:=dJ Q)
    have aC:Hid (∀ k z x,f.params[k]?=some z->i.args[k]?=some x->Wd.sz z<=x->R=1):=fun k z x d D H=>by
     rw [<- am.out,wa (Rn.zip_any_at d D (by simpa using H))]
    as_aux_lemma =>
     go_loopw [6] (fun s6 wr=>∃ k:Nat,k<=n/\s6=.int .i64 (k:Int)/\Hid (Gr W wr)/\Hid (∀ j z x,j<k->f.params[j]?=some z->i.args[j]?=some x->x<Wd.sz z)) (fun s6 _=>n-(intOf s6).toNat)
     case atStart=>exact ⟨0,vU _,rfl,N,(fun j z x h=>absurd h (Nat.not_lt_zero _))⟩
     case round =>
      obtain ⟨k,hk,rfl,A,K⟩:=hrel;obtain ⟨q0,q2,q4,q5⟩:=B.out wr A.out;have U0:=fun u:GrW wr=>(B.out u.val (A.out.trans u.gr)).1;have U4:=fun u:GrW wr=>(B.out u.val (A.out.trans u.gr)).2.2.1;by_cases ae:k<n
      ·obtain ⟨z,r⟩:∃ z,f.params[k]?=some z:=⟨_,vu (by have:=aj.out;omega)⟩;obtain ⟨x,E⟩:∃ x,i.args[k]?=some x:=⟨_,vu (by have:=aA.out;omega)⟩;obtain ⟨bp,op,rfl,cz⟩:=al.out wr A.out k z r;obtain ⟨ba,oa,rfl,cx⟩:=ah.out wr A.out k x E
       have UZ:∀ u:GrW wr,u.val.cell? ⟨bp,op+k,none⟩=some (.int .i64 z):=fun u=>by
        obtain ⟨b',o',F,h'⟩:=al.out u.val (A.out.trans u.gr) k z r;injection F with F;injection F with e1 e2;subst e1;subst e2;exact h'
       have UX:∀ u:GrW wr,u.val.cell? ⟨ba,oa+k,none⟩=some (.int .u32 x):=fun u=>by
        obtain ⟨b',o',F,h'⟩:=ah.out u.val (A.out.trans u.gr) k x E;injection F with F;injection F with e1 e2;subst e1;subst e2;exact h'
       have ag:=aD.out x (vz E);have CM:Hid (∀ u:GrW wr,Calls prog 43 #[.int .i64 z,.int .u32 x] u.val fun e w'=>e=.returned (.bool (decide (x<Wd.sz z)))/\Gr u.val w'):=fun u=>(ep z x u.val ag.1 ag.2).mono fun e w' h=>⟨by rw [h.1,Wd.wordB,Rn.widB_of (HW.out k z r),Bool.true_and],by rw [<- h.2];exact wL _⟩;have U:=dJ (aC.out k z x r E)
       have S:Hid (x<Wd.sz z->∀ j z x,j<k+1->f.params[j]?=some z->i.args[j]?=some x->x<Wd.sz z):=fun h j z' x' hj d D=>by
        rcases wh j k with q | q
        ·exact K.out j z' x' q d D
        ·obtain rfl:j=k:=by omega
         rw [r] at d;rw [E] at D;injection d with d;injection D with D;subst d;subst D;exact h
       obtain ⟨s,hs⟩:=xJ (Wd.sz z);rw [hs] at CM U S;clear r E hs ag cz cx;obtain ⟨bd,I⟩:∃ bd,decide (x<s)=bd:=⟨_,rfl⟩;rw [I] at CM;have L:=dJ I;clear I;cases bd
       all_goals
        go_wp2;refine dc (by kernel_rfl) (by kernel_rfl) ?_;repeat (go_big_quiet_step ((rename_i u;go_at_call 43;exact di u (CM.out u))))
        refine wpQuiet_nil ?_;intro w9 af;obtain ⟨u9,rfl⟩:=af;have G9:=dJ (A.out.trans u9.gr);clear U0 U4 UZ UX;go_wp2
       ·go_ret;have H:=L.out;simp at H;exact ⟨de (U.out H).symm,C.out.trans G9.out⟩
       ·have H:=L.out;simp at H;have O:=dJ (S.out H);refine ⟨⟨k+1,by omega,by go_num,G9,O⟩,by simp [intOf];omega⟩
      ·obtain rfl:n=k:=by omega
       have an:Hid ((if (f.slots.zip i.mem).any (fun q=>decide ((q.2.length:Int)≠q.1) || q.2.any (fun b=>decide (b < -1) || decide (255<b)))=true then 1 else 0)=R):=by
        show _=_;have h:=am.out
        rw [Rn.zip_any_none (fun j a b d D=>by
          have hj:=(vy.1 d).1
          have:=K.out j a b (by have:=aj.out;omega) d D
          simpa using this)] at h
        simpa using h
       have aw:=A;clear K ae hk U0 U4;go_wp2
       as_aux_lemma =>
        go_loopw [7] (fun s7 wr=>∃ k:Nat,k<=m/\s7=.int .i64 (k:Int)/\Hid (Gr W wr)/\Hid (∀ j z l,j<k->f.slots[j]?=some z->i.mem[j]?=some l->(decide ((l.length:Int)≠z) || l.any (fun b=>decide (b < -1) || decide (255<b)))=false)) (fun s7 _=>m-(intOf s7).toNat)
        case atStart=>exact ⟨0,vU _,rfl,aw,(fun j z x h=>absurd h (Nat.not_lt_zero _))⟩
        case round =>
         obtain ⟨k,hk,rfl,A,K⟩:=hrel;obtain ⟨q0,q2,q4,q5⟩:=B.out wr A.out;have U2:=fun u:GrW wr=>(B.out u.val (A.out.trans u.gr)).2.1;have U5:=fun u:GrW wr=>(B.out u.val (A.out.trans u.gr)).2.2.2;by_cases ae:k<m
         ·obtain ⟨z,r⟩:∃ z,f.slots[k]?=some z:=⟨_,vu (by have:=ak.out;omega)⟩;obtain ⟨l,hl⟩:∃ l,i.mem[k]?=some l:=⟨_,vu (by have:=aB.out;omega)⟩;obtain ⟨bs,os,rfl,-⟩:=ao.out wr A.out k z r;obtain ⟨bm,om,Al,cl,rfl,aq,p⟩:=az.out k l hl
          have UZ:∀ u:GrW wr,u.val.cell? ⟨bs,os+k,none⟩=some (.int .i64 z):=fun u=>by
           obtain ⟨b',o',F,h'⟩:=ao.out u.val (A.out.trans u.gr) k z r;injection F with F;injection F with e1 e2;subst e1;subst e2;exact h'
          have ai:=dJ p;have UL:=fun u:GrW wr=>(ai.out u.val (A.out.trans u.gr)).1
          have T:Hid ((decide ((l.length:Int)≠z) || l.any (fun b=>decide (b < -1) || decide (255<b)))=true->R=1):=fun h=>by
           rw [<- an.out,wa (Rn.zip_any_at r hl h)]
          have S:Hid ((decide ((l.length:Int)≠z) || l.any (fun b=>decide (b < -1) || decide (255<b)))=false->∀ j z l,j<k+1->f.slots[j]?=some z->i.mem[j]?=some l->(decide ((l.length:Int)≠z) || l.any (fun b=>decide (b < -1) || decide (255<b)))=false):=fun h j z' l' hj d D=>by
           rcases wh j k with q | q
           ·exact K.out j z' l' q d D
           ·obtain rfl:j=k:=by omega
            rw [r] at d;rw [hl] at D;injection d with d;injection D with D;subst d;subst D;exact h
          have ay:=dJ aq;have ax:Hid (k<m):=ae;clear r hl aq p;obtain ⟨bd,I⟩:∃ bd,((l.length:Int) != z)=bd:=⟨_,rfl⟩;have L:=dJ I;cases bd
          all_goals
           go_wp2;refine dc (by kernel_rfl) (by kernel_rfl) ?_;repeat (go_big_quiet_step (fail))
           refine wpQuiet_nil ?_;intro w9 af;obtain ⟨u9,rfl⟩:=af;have G9:=dJ (A.out.trans u9.gr);clear U2 U5 UZ UL
          ·clear I;go_wp2
           as_aux_lemma =>
            go_loopw [8] (fun s8 wq=>∃ t:Nat,t<=l.length/\s8=.int .i64 (t:Int)/\Hid (Gr W wq)/\Hid (∀ j x,j<t->l[j]?=some x->(decide (x < -1) || decide (255<x))=false)) (fun s8 _=>l.length-(intOf s8).toNat)
            case atStart=>exact ⟨0,vU _,rfl,G9,(fun j x h=>absurd h (Nat.not_lt_zero _))⟩
            case round =>
             obtain ⟨t,ht,rfl,J,Z⟩:=hrel;have aL:=ay.out;obtain ⟨r0,r2,r4,r5⟩:=B.out wr J.out;obtain ⟨aN,ab⟩:=ai.out wr J.out;by_cases Y:t<l.length
             ·obtain ⟨x,E⟩:∃ x,l[t]?=some x:=⟨_,vu Y⟩;obtain ⟨be,oe,rfl,ce⟩:=ab t x E
              have ap:Hid ((decide (x < -1) || decide (255<x))=true->R=1):=fun h=>T.out (by
                rw [show l.any (fun b=>decide (b < -1) || decide (255<b))=true from wC.2 ⟨x,vz E,h⟩,Bool.or_true])
              have aG:Hid ((decide (x < -1) || decide (255<x))=false->∀ j x,j<t+1->l[j]?=some x->(decide (x < -1) || decide (255<x))=false):=fun h j x' hj d=>by
               rcases wh j t with q | q
               ·exact Z.out j x' q d
               ·obtain rfl:j=t:=by omega
                rw [E] at d;injection d with d;subst d;exact h
              have aF:Hid (t<l.length):=Y;clear E ab;by_cases aI:x < -1
              ·have M:Hid (R=1):=ap.out (by simp [aI]);go_wp2;go_ret;exact ⟨de M.out.symm,C.out.trans J.out⟩
              ·by_cases aJ:255<x
               ·have M:Hid (R=1):=ap.out (by simp [aJ]);go_wp2;go_ret;exact ⟨de M.out.symm,C.out.trans J.out⟩
               ·have aE:=dJ (aG.out (by simp;omega));go_wp2;have aP:=aF.out;refine ⟨⟨t+1,by omega,by go_num,J,aE⟩,by simp [intOf];omega⟩
             ·obtain rfl:t=l.length:=by omega
              have O:=dJ (S.out (by
                have H:=L.out
                simp only [bne_eq_false_iff_eq] at H
                rw [List.any_eq_false.2 (fun x E=>by
                  obtain ⟨j,hj⟩:=List.getElem?_of_mem E
                  have:=Z.out j x (vy.1 hj).1 hj
                  rw [this];exact Bool.false_ne_true)]
                simp [H]))
              clear ab;go_wp2;have aO:=ax.out;refine ⟨⟨k+1,by omega,by go_num,J,O⟩,by simp [intOf];omega⟩
          ·go_wp2;go_ret;exact ⟨de (T.out (by have H:=L.out;simp at H;simp [H])).symm,C.out.trans G9.out⟩
         ·obtain rfl:m=k:=by omega
          have M:Hid (R=0):=by
           show _=_
           rw [<- an.out,Rn.zip_any_none (fun j a b d D=>by
             have hj:=(vy.1 d).1
             exact K.out j a b (by have:=ak.out;omega) d D)]
           rfl
          clear U2 U5;go_wp2;go_ret;exact ⟨de M.out.symm,C.out.trans A.out⟩
   ·have M:Hid (R=1):=by show _=_;rw [<- HR.out,wb (by decide),wa (.inr p)]
    have ar:¬ ((i.mem.length:Int)=(f.slots.length:Int)):=by omega
    have X:(i.args.length:Int)=(f.params.length:Int):=by omega
    have aK:((i.args.length:Int) != (f.params.length:Int))=false:=by simp [y]
    have aM:((i.mem.length:Int) != (f.slots.length:Int))=true:=by simp;omega
    clear y X ar
    go_enter func14, ntmps14
    go_wp2_with (go_at_call 42;refine CV.out.mono ?_;rintro e w1 ⟨rfl,Q⟩;obtain ⟨j0,j1,j2,j3,j4,j5⟩:=HC.out w1 Q;have N:=dJ Q);go_ret;exact ⟨de M.out.symm,C.out.trans N.out⟩
  ·have M:Hid (R=1):=by show _=_;rw [<- HR.out,wb (by decide),wa (.inl y)]
   have X:¬ ((i.args.length:Int)=(f.params.length:Int)):=by omega
   go_enter func14, ntmps14
   go_wp2_with (go_at_call 42;refine CV.out.mono ?_;rintro e w1 ⟨rfl,Q⟩;obtain ⟨j0,j1,j2,j3,j4,j5⟩:=HC.out w1 Q;have N:=dJ Q);go_ret;exact ⟨de M.out.symm,C.out.trans N.out⟩
 ·have M:Hid (R=V):=by show _=_;rw [<- HR.out,wa av]
  go_enter func14, ntmps14
  go_wp2_with (go_at_call 42;refine CV.out.mono ?_;rintro e w1 ⟨rfl,Q⟩);go_ret;exact ⟨de M.out.symm,C.out.trans Q⟩
@[go_sem] theorem sE (v0 v1 v2 v3 v4 v5 v7 v8 v9:Value) (A:Option Addr) (n c:Nat) (w:World):(Instr.field 81 (.agg #[v0,v1,v2,v3,v4,v5,.slice A n c,v7,v8,v9]) 2).run prog w=.ok (.slice A n c) w:=by kernel_rfl
@[go_sem] theorem sU (v0 v1 v2 v3 v4 v5 v6 v8 v9:Value) (z:Int) (w:World):(Instr.field 81 (.agg #[v0,v1,v2,v3,v4,v5,v6,.int .i64 z,v8,v9]) 3).run prog w=.ok (.int .i64 z) w:=by kernel_rfl
structure uj (u:World) (Bv Bh n:Nat) (A:Option Addr) (c:Nat) (r:Rn.Out × Rn.St × List Int):Prop extends GotV u Bv Bh n r.2.1 where
 tr:IntsAt u.heap.size u (.slice A r.2.2.length c) r.2.2
theorem jM {w:World} {f:Fn} {vf:Value} (hfn:FnAt w.heap.size w vf f) (hf:VFn f) {i:Rn.Inp} (hin:Rn.validInput f i=0) {va vm:Value} (ha:U32At w.heap.size w va i.args) (hm:TabAt w.heap.size w vm i.mem) (hnn:∀ a ∈ i.args,0<=a)
  {vpk:Value} {picks:List Int} (hpk:U32At w.heap.size w vpk picks) (hr:∀ z ∈ picks,0<=z/\z<4294967296) (hpl:picks.length<=1000) :
  Calls prog 45 #[vf,.agg #[va,vm],vpk] w fun e w'=>∃ (Bv Bh n cw c:Nat) (Aw A Ax:Option Addr) (nx cx:Nat),e=.returned (.agg #[.int .i64 (Rn.run f (Rn.given picks) i).1.kind,.bool (Rn.run f (Rn.given picks) i).1.ret.p,.int .i64 (Rn.run f (Rn.given picks) i).1.ret.s,.int .u32 (Rn.run f (Rn.given picks) i).1.ret.n,.slice Ax nx cx,.slice Aw (Rn.run f (Rn.given picks) i).2.1.widths.length cw,.slice A (Rn.run f (Rn.given picks) i).2.2.length c,.int .i64 (Rn.run f (Rn.given picks) i).2.1.steps,.slice (some ⟨Bv,0,none⟩) n n,.slice (some ⟨Bh,0,none⟩) n n]) /\
   (∀ u,Gr w' u->uj u Bv Bh n A c (Rn.run f (Rn.given picks) i))/\Gr w w':=by
 refine (rp mr hfn hf ha hm hin hnn hpk hr hpl).mono ?_;rintro e w' ⟨⟨c,B,t,rfl,y,p,-,-⟩,g⟩;obtain ⟨Aw,cw,j⟩:=p.wid.form;obtain ⟨A,l,d⟩:=p.blk.form;rw [vS] at j d;subst j;subst d
 obtain ⟨Ax,nx,cx,r⟩:∃ Ax nx cx,pV c (Rn.run f (Rn.given picks) i).1=.slice Ax nx cx:=by
  unfold pV ef Cfg.mv;split <;> exact ⟨_,_,_,rfl⟩
 refine ⟨c.Bv,c.Bh,(Rn.run f (Rn.given picks) i).2.1.vals.length,cw,l,Aw,A,Ax,nx,cx,by unfold pR;rw [r],fun u m=>?_,g⟩;have q:=p.gr m;exact ⟨⟨rfl,q.hlen,q.vals,q.had⟩,q.blk.ints (by have:=Rn.run_len f (Rn.given picks) i;omega)⟩
theorem nH {w:World} {f:Fn} {vf:Value} (hfn:FnAt w.heap.size w vf f) (hnice:jF f) (him:Rn.Im f) {i:Rn.Inp} {va vm:Value} (ha:U32At w.heap.size w va i.args) (hm:TabAt w.heap.size w vm i.mem) (hnn:∀ a ∈ i.args,0<=a/\a<4294967296)
  {vpk:Value} {picks:List Int} (hpk:U32At w.heap.size w vpk picks) (hr:∀ z ∈ picks,0<=z/\z<4294967296) (hpl:picks.length<=1000) (v:Int) (hv1:-9223372036854775808<=v) (hv2:v<=9223372036854775807) :
  Calls prog 33 #[vf,.agg #[va,vm],vpk,.int .i64 v] w fun e w'=>e=.returned (uh (Rn.valueOf f i picks v))/\Gr w w':=by
 obtain ⟨vp,vs,vb,rfl,hp,hs,hb⟩:=hfn;have aa:Hid (FnAt w.heap.size w (.agg #[vp,.int .i64 f.ret,vs,vb]) f):=⟨vp,vs,vb,rfl,hp,hs,hb⟩;obtain ⟨W0,ah⟩:=xJ ((w.alloc (.cells #[vp,.int .i64 f.ret,vs,vb] 25)).alloc (.cells #[va,vm] 29));obtain ⟨g0,s0,hc⟩:=gJ ah;obtain ⟨W,hW⟩:=xJ (W0.alloc (.cells #[.bool false,.int .i64 0,.int .u32 0] 37));have l:Gr W0 W:=by rw [<- hW];exact (wL _).alloc _
 have HC:=dJ fun (wr:World) (g:Gr W wr)=>hc wr (l.trans g);have R:W.heap[w.heap.size+2]?=some (.cells #[.bool false,.int .i64 0,.int .u32 0] 37 (0,0)):=by rw [<- hW,<- s0];exact heap_alloc_new _ _
 have d:Hid (∀ wr,Gr W wr->wr.heap[w.heap.size+2]?=some (.cells #[.bool false,.int .i64 0,.int .u32 0] 37 (0,0))):=fun wr g=>(g.heap _ (cY R)).trans R;have L:=g0.trans l;have CV:=dJ (fR (w:=W) (f:=f) (vf:=.agg #[vp,.int .i64 f.ret,vs,vb]) (i:=i) (va:=va) (vm:=vm) ((aa.out.below L).mono L.size) hnice (SlAt.mono (U32At.below ha L) L.size) ((hm.below L).mono L.size) hnn);have HA:=dJ ha;have HM:=dJ hm;have ab:=dJ hnn;have af:=dJ hpk;have ag:=dJ hr;have E:=dJ L;obtain ⟨k0,k1,k2,k3,k4,k5⟩:=HC.out W (wL _);have C1:=dJ fun (h0:Rn.validInput f i=0) (y:World) (l:Gr W y)=>jM (w:=y) (f:=f) (i:=i) (vf:=.agg #[vp,.int .i64 f.ret,vs,vb]) (va:=va) (vm:=vm) (vpk:=vpk) (picks:=picks) ((aa.out.below (E.out.trans l)).mono (E.out.trans l).size) ⟨(Rn.valid_input h0).1,him⟩ h0 (SlAt.mono (U32At.below HA.out (E.out.trans l)) (E.out.trans l).size) ((HM.out.below (E.out.trans l)).mono (E.out.trans l).size) (fun a ha=>(ab.out a ha).1) (SlAt.mono (U32At.below af.out (E.out.trans l)) (E.out.trans l).size) ag.out hpl;obtain ⟨X,hX⟩:=xJ (Rn.run f (Rn.given picks) i);have HX:=dJ hX;obtain ⟨V,hV⟩:=xJ (Rn.validInput f i);have Z:=dJ hV;rw [hX,hV] at C1;rw [hV] at CV;obtain ⟨Ap,cp,rfl,-⟩:=id hp;obtain ⟨As,cs,rfl,-⟩:=id hs;obtain ⟨Ab,cb,rfl,-⟩:=id hb;obtain ⟨Aa,ca,rfl,-⟩:=id ha;obtain ⟨Am,cm,rfl,-⟩:=id hm;obtain ⟨Ak,ck,rfl,-⟩:=id hpk;have I:w.heap.size<=w.heap.size+2:=by omega
 have al:=dJ hnice;have ae:=dJ him;clear hnice him l R;clear hp hs hb ha hm hnn hpk hr hX hV g0 L hc;by_cases ad:V=0
 ·subst ad;have Y:=dJ (C1.out rfl);clear C1;have r:=Rn.valid_input Z.out;have H:Ref.validate f=0:=(Ref.val_iff f).2 r.1;have hI:=(Rn.run_ok mr r.1 ae.out Z.out (fun a ha=>(ab.out a ha).1) picks).2.2.1;rw [HX.out] at hI;have O:X.2.1.vals.length=Ref.count f:=hI.len
  have D:Ref.count f<=1000:=by
   have am:=r.1.size;have e9:Ref.count f=f.params.length+Ref.total f.blocks:=by unfold Ref.count Ref.number;rw [wg]
   omega
  have B:Hid (∀ u Bv Bh n A c,uj u Bv Bh n A c X->n=Ref.count f/\n<=1000):=fun u Bv Bh n A c g=>by
   have h1:=g.ln;exact ⟨by omega,by omega⟩
  by_cases M:v<0
  ·have C:Hid (Rn.valueOf f i picks v=(Rn.zero,false,4)):=by (show _=_);unfold Rn.valueOf;rw [wa Z.out,wa (.inl M)]
   clear r H hI O
   go_enter func33, ntmps33
   go_wp2_with (first|(go_at_call 14;refine CV.out.mono ?_;rintro e y ⟨rfl,l⟩;obtain ⟨j0,j1,j2,j3,j4,j5⟩:=HC.out y l;have m:=dJ l;have CO:=dJ (Y.out y l);clear l Y)|(go_at_call 45;refine CO.out.mono ?_;rintro e j ⟨Bv,Bh,n,cw,c,Aw,A,Ax,nx,cx,rfl,hr,K⟩;obtain ⟨rfl,ac⟩:=B.out _ _ _ _ _ _ (hr j (wL j));have N:=dJ hr;have q:=dJ (m.out.trans K);have e0:=fun o=>vX _ _ 0 _ _ _ (d.out (j.alloc o) (q.out.alloc o));have S:=fun o=>vY _ _ 0 _ _ (d.out (j.alloc o) (q.out.alloc o));have e1:=fun o=>vX _ _ 1 _ _ _ (d.out (j.alloc o) (q.out.alloc o));have T:=fun o=>vY _ _ 1 _ _ (d.out (j.alloc o) (q.out.alloc o));have e2:=fun o=>vX _ _ 2 _ _ _ (d.out (j.alloc o) (q.out.alloc o));have U:=fun o=>vY _ _ 2 _ _ (d.out (j.alloc o) (q.out.alloc o));clear hr K))
   refine vZ (v:=.tuple #[.agg #[.bool false,.int .i64 0,.int .u32 0],.bool false,.int .i64 4]) (by simp [results,results33,go_sem, *]) rfl ?_;refine ⟨eJ C.out,?_⟩
   iterate 3 refine Gr.setCell ?_ I _
   exact (E.out.trans q.out).alloc _
  ·by_cases G:(Ref.count f:Int)<=v
   ·have C:Hid (Rn.valueOf f i picks v=(Rn.zero,false,4)):=by (show _=_);unfold Rn.valueOf;rw [wa Z.out,wa (.inr G)]
    obtain ⟨CN,F⟩:=xJ (Ref.count f);rw [F] at B G;clear r H hI O D F
    go_enter func33, ntmps33
    go_wp2_with (first|(go_at_call 14;refine CV.out.mono ?_;rintro e y ⟨rfl,l⟩;obtain ⟨j0,j1,j2,j3,j4,j5⟩:=HC.out y l;have m:=dJ l;have CO:=dJ (Y.out y l);clear l Y)|(go_at_call 45;refine CO.out.mono ?_;rintro e j ⟨Bv,Bh,n,cw,c,Aw,A,Ax,nx,cx,rfl,hr,K⟩;obtain ⟨rfl,ac⟩:=B.out _ _ _ _ _ _ (hr j (wL j));have N:=dJ hr;have q:=dJ (m.out.trans K);have e0:=fun o=>vX _ _ 0 _ _ _ (d.out (j.alloc o) (q.out.alloc o));have S:=fun o=>vY _ _ 0 _ _ (d.out (j.alloc o) (q.out.alloc o));have e1:=fun o=>vX _ _ 1 _ _ _ (d.out (j.alloc o) (q.out.alloc o));have T:=fun o=>vY _ _ 1 _ _ (d.out (j.alloc o) (q.out.alloc o));have e2:=fun o=>vX _ _ 2 _ _ _ (d.out (j.alloc o) (q.out.alloc o));have U:=fun o=>vY _ _ 2 _ _ (d.out (j.alloc o) (q.out.alloc o));clear hr K))
    refine vZ (v:=.tuple #[.agg #[.bool false,.int .i64 0,.int .u32 0],.bool false,.int .i64 4]) (by simp [results,results33,go_sem, *]) rfl ?_;refine ⟨eJ C.out,?_⟩
    iterate 3 refine Gr.setCell ?_ I _
    exact (E.out.trans q.out).alloc _
   ·obtain ⟨J,rfl⟩:∃ n:Nat,v=n:=⟨v.toNat,by omega⟩;have aj:J<Ref.count f:=by omega
    obtain ⟨x,hx⟩:=xJ (X.2.1.get (J:Int));obtain ⟨hd,Q⟩:=xJ (X.2.1.had.getD J false);have C:Hid (Rn.valueOf f i picks (J:Int)=(x,hd,0)):=by (show _=_);unfold Rn.valueOf;rw [wa Z.out,wb (by omega),HX.out,hx,vG,Q]
    have t:Hid (∀ u Bv Bh n A c,uj u Bv Bh n A c X->u.cell? ⟨Bv,J * 3,none⟩=some (.bool x.p)/\u.cell? ⟨Bv,J * 3+1,none⟩=some (.int .i64 x.s)/\u.cell? ⟨Bv,J * 3+2,none⟩=some (.int .u32 x.n)/\u.cell? ⟨Bh,J,none⟩=some (.bool hd)):=fun u Bv Bh n A c g=>by
     have h1:=g.ln;obtain ⟨a1,a2,a3,a4⟩:=g.cells (v:=J) (by omega);rw [hx] at a1 a2 a3;rw [Q] at a4;exact ⟨a1,a2,a3,a4⟩
    obtain ⟨CN,F⟩:=xJ (Ref.count f);rw [F] at B aj;clear r H hI O D F hx Q G M
    go_enter func33, ntmps33
    go_wp2_with (first|(go_at_call 14;refine CV.out.mono ?_;rintro e y ⟨rfl,l⟩;obtain ⟨j0,j1,j2,j3,j4,j5⟩:=HC.out y l;have m:=dJ l;have CO:=dJ (Y.out y l);clear l Y)|(go_at_call 45;refine CO.out.mono ?_;rintro e j ⟨Bv,Bh,n,cw,c,Aw,A,Ax,nx,cx,rfl,hr,K⟩;obtain ⟨rfl,ac⟩:=B.out _ _ _ _ _ _ (hr j (wL j));have N:=dJ hr;have q:=dJ (m.out.trans K);have e0:=fun o=>vX _ _ 0 _ _ _ (d.out (j.alloc o) (q.out.alloc o));have S:=fun o=>vY _ _ 0 _ _ (d.out (j.alloc o) (q.out.alloc o));have e1:=fun o=>vX _ _ 1 _ _ _ (d.out (j.alloc o) (q.out.alloc o));have T:=fun o=>vY _ _ 1 _ _ (d.out (j.alloc o) (q.out.alloc o));have e2:=fun o=>vX _ _ 2 _ _ _ (d.out (j.alloc o) (q.out.alloc o));have U:=fun o=>vY _ _ 2 _ _ (d.out (j.alloc o) (q.out.alloc o));have ai:w.heap.size+2≠Bh:=db (d.out j q.out) (N.out j (wL _)).hh (by decide);have ak:Bh≠w.heap.size+2:=ai.symm;have v0:=fun o=>(t.out _ _ _ _ _ _ (N.out (j.alloc o) ((wL j).alloc o))).1;have v1:=fun o=>(t.out _ _ _ _ _ _ (N.out (j.alloc o) ((wL j).alloc o))).2.1;have v2:=fun o=>(t.out _ _ _ _ _ _ (N.out (j.alloc o) ((wL j).alloc o))).2.2.1;have v3:=fun o=>(t.out _ _ _ _ _ _ (N.out (j.alloc o) ((wL j).alloc o))).2.2.2;clear hr K))
    go_region_with (fail)
    all_goals go_wp2
    all_goals
     refine vZ (v:=.tuple #[.agg #[.bool x.p,.int .i64 x.s,.int .u32 x.n],.bool hd,.int .i64 0]) (by simp [results,results33,go_sem, *]) rfl ?_;refine ⟨eJ C.out,?_⟩;(try refine Gr.drew ?_)
     iterate 3 refine Gr.setCell ?_ I _
     exact (E.out.trans q.out).alloc _
 ·have C:Hid (Rn.valueOf f i picks v=(Rn.zero,false,V)):=by (show _=_);unfold Rn.valueOf;rw [Z.out,wb ad]
  clear C1
  go_enter func33, ntmps33
  go_wp2_with (go_at_call 14;refine CV.out.mono ?_;rintro e y ⟨rfl,l⟩;have m:=dJ l;have e0:=vX _ _ 0 _ _ _ (d.out y m.out);have S:=vY _ _ 0 _ _ (d.out y m.out);have e1:=vX _ _ 1 _ _ _ (d.out y m.out);have T:=vY _ _ 1 _ _ (d.out y m.out);have e2:=vX _ _ 2 _ _ _ (d.out y m.out);have U:=vY _ _ 2 _ _ (d.out y m.out);clear l);refine vZ (v:=.tuple #[.agg #[.bool false,.int .i64 0,.int .u32 0],.bool false,.int .i64 V]) (by simp [results,results33,go_sem, *]) rfl ?_;refine ⟨eJ C.out,?_⟩
  iterate 3 refine Gr.setCell ?_ I _
  exact E.out.trans m.out
end
section
open Go.RowKit Go.Shelf
theorem sF:jF Rn.kFn where
 blocks:=by decide
 block:=by intro l hl;simp [Rn.kFn] at hl;subst hl;decide
 wf:=by
  intro l hl x d;simp [Rn.kFn] at hl;subst hl;simp at d;rcases d with rfl | rfl | rfl <;> (unfold WfI;refine ⟨by decide,?_,by decide,by decide⟩;intro z g;simp [Rn.kAdd,Rn.kFreeze,Rn.kRet] at g;omega)
 flags:=by
  intro l hl x d;simp [Rn.kFn] at hl;subst hl;simp at d;rcases d with rfl | rfl | rfl <;> decide
theorem ut:Rn.Im Rn.kFn:=by
 intro l hl x d;simp [Rn.kFn] at hl;subst hl;simp at d;rcases d with rfl | rfl | rfl <;> decide
def ue (w:World):Value:=.agg #[.slice (some ⟨w.heap.size,0,none⟩) 2 2,.int .i64 8,.slice none 0 0,.slice (some ⟨w.heap.size+1+1+1+1+1,0,none⟩) 1 1]
theorem uQ (w:World) {W:World} (hW:(((((((w.alloc (.cells #[.int .i64 8,.int .i64 8] 3)).alloc (.cells #[.int .i64 0,.int .i64 1] 3)).alloc (.cells #[.int .i64 2] 3)).alloc (.cells #[.int .i64 3] 3)).alloc (.cells #[.int .i64 1,.int .i64 8,.int .i64 2,.slice (some ⟨w.heap.size+1,0,none⟩) 2 2,.int .u32 0,.slice none 0 0,.int .i64 21,.int .i64 8,.int .i64 0,.slice (some ⟨w.heap.size+1+1,0,none⟩) 1 1,.int .u32 0,.slice none 0 0,.int .i64 31,.int .i64 0,.int .i64 0,.slice (some ⟨w.heap.size+1+1+1,0,none⟩) 1 1,.int .u32 0,.slice none 0 0] 67)).alloc (.cells #[.slice (some ⟨w.heap.size+1+1+1+1,0,none⟩) 3 3] 68)).alloc (.cells #[.slice (some ⟨w.heap.size,0,none⟩) 2 2,.int .i64 8,.slice none 0 0,.slice (some ⟨w.heap.size+1+1+1+1+1,0,none⟩) 1 1] 25))=W):FnAt W.heap.size W (ue w) Rn.kFn/\Gr w W/\W.heap.size=w.heap.size+7/\∀ o,W.cell? ⟨w.heap.size+1+1+1+1+1+1,o,none⟩=(#[.slice (some ⟨w.heap.size,0,none⟩) 2 2,.int .i64 8,.slice none 0 0,.slice (some ⟨w.heap.size+1+1+1+1+1,0,none⟩) 1 1]:Array Value)[o]?:=by
 have g:Gr w W:=by rw [<- hW];exact ((((((((wL _).alloc _).alloc _).alloc _).alloc _).alloc _).alloc _).alloc _)
 have l:W.heap.size=w.heap.size+7:=by rw [<- hW];simp
 have E:Gr (w.alloc (.cells #[.int .i64 8,.int .i64 8] 3)) W:=by rw [<- hW];exact (((((((wL _).alloc _).alloc _).alloc _).alloc _).alloc _).alloc _)
 have F:Gr ((w.alloc (.cells #[.int .i64 8,.int .i64 8] 3)).alloc (.cells #[.int .i64 0,.int .i64 1] 3)) W:=by rw [<- hW];exact ((((((wL _).alloc _).alloc _).alloc _).alloc _).alloc _)
 have G:Gr (((w.alloc (.cells #[.int .i64 8,.int .i64 8] 3)).alloc (.cells #[.int .i64 0,.int .i64 1] 3)).alloc (.cells #[.int .i64 2] 3)) W:=by rw [<- hW];exact (((((wL _).alloc _).alloc _).alloc _).alloc _)
 have H:Gr ((((w.alloc (.cells #[.int .i64 8,.int .i64 8] 3)).alloc (.cells #[.int .i64 0,.int .i64 1] 3)).alloc (.cells #[.int .i64 2] 3)).alloc (.cells #[.int .i64 3] 3)) W:=by rw [<- hW];exact ((((wL _).alloc _).alloc _).alloc _)
 have I:Gr (((((w.alloc (.cells #[.int .i64 8,.int .i64 8] 3)).alloc (.cells #[.int .i64 0,.int .i64 1] 3)).alloc (.cells #[.int .i64 2] 3)).alloc (.cells #[.int .i64 3] 3)).alloc (.cells #[.int .i64 1,.int .i64 8,.int .i64 2,.slice (some ⟨w.heap.size+1,0,none⟩) 2 2,.int .u32 0,.slice none 0 0,.int .i64 21,.int .i64 8,.int .i64 0,.slice (some ⟨w.heap.size+1+1,0,none⟩) 1 1,.int .u32 0,.slice none 0 0,.int .i64 31,.int .i64 0,.int .i64 0,.slice (some ⟨w.heap.size+1+1+1,0,none⟩) 1 1,.int .u32 0,.slice none 0 0] 67)) W:=by rw [<- hW];exact (((wL _).alloc _).alloc _)
 have J:Gr ((((((w.alloc (.cells #[.int .i64 8,.int .i64 8] 3)).alloc (.cells #[.int .i64 0,.int .i64 1] 3)).alloc (.cells #[.int .i64 2] 3)).alloc (.cells #[.int .i64 3] 3)).alloc (.cells #[.int .i64 1,.int .i64 8,.int .i64 2,.slice (some ⟨w.heap.size+1,0,none⟩) 2 2,.int .u32 0,.slice none 0 0,.int .i64 21,.int .i64 8,.int .i64 0,.slice (some ⟨w.heap.size+1+1,0,none⟩) 1 1,.int .u32 0,.slice none 0 0,.int .i64 31,.int .i64 0,.int .i64 0,.slice (some ⟨w.heap.size+1+1+1,0,none⟩) 1 1,.int .u32 0,.slice none 0 0] 67)).alloc (.cells #[.slice (some ⟨w.heap.size+1+1+1+1,0,none⟩) 3 3] 68)) W:=by rw [<- hW];exact ((wL _).alloc _)
 have K:Gr (((((((w.alloc (.cells #[.int .i64 8,.int .i64 8] 3)).alloc (.cells #[.int .i64 0,.int .i64 1] 3)).alloc (.cells #[.int .i64 2] 3)).alloc (.cells #[.int .i64 3] 3)).alloc (.cells #[.int .i64 1,.int .i64 8,.int .i64 2,.slice (some ⟨w.heap.size+1,0,none⟩) 2 2,.int .u32 0,.slice none 0 0,.int .i64 21,.int .i64 8,.int .i64 0,.slice (some ⟨w.heap.size+1+1,0,none⟩) 1 1,.int .u32 0,.slice none 0 0,.int .i64 31,.int .i64 0,.int .i64 0,.slice (some ⟨w.heap.size+1+1+1,0,none⟩) 1 1,.int .u32 0,.slice none 0 0] 67)).alloc (.cells #[.slice (some ⟨w.heap.size+1+1+1+1,0,none⟩) 3 3] 68)).alloc (.cells #[.slice (some ⟨w.heap.size,0,none⟩) 2 2,.int .i64 8,.slice none 0 0,.slice (some ⟨w.heap.size+1+1+1+1+1,0,none⟩) 1 1] 25)) W:=by rw [hW];exact wL _
 have m:∀ o,W.cell? ⟨w.heap.size,o,none⟩=(#[.int .i64 8,.int .i64 8]:Array Value)[o]?:=fun o=>da _ _ o E (by simp);have p:∀ o,W.cell? ⟨w.heap.size+1,o,none⟩=(#[.int .i64 0,.int .i64 1]:Array Value)[o]?:=fun o=>da _ _ o F (by simp);have q:∀ o,W.cell? ⟨w.heap.size+1+1,o,none⟩=(#[.int .i64 2]:Array Value)[o]?:=fun o=>da _ _ o G (by simp);have r:∀ o,W.cell? ⟨w.heap.size+1+1+1,o,none⟩=(#[.int .i64 3]:Array Value)[o]?:=fun o=>da _ _ o H (by simp);have c5:∀ o,W.cell? ⟨w.heap.size+1+1+1+1,o,none⟩=(#[.int .i64 1,.int .i64 8,.int .i64 2,.slice (some ⟨w.heap.size+1,0,none⟩) 2 2,.int .u32 0,.slice none 0 0,.int .i64 21,.int .i64 8,.int .i64 0,.slice (some ⟨w.heap.size+1+1,0,none⟩) 1 1,.int .u32 0,.slice none 0 0,.int .i64 31,.int .i64 0,.int .i64 0,.slice (some ⟨w.heap.size+1+1+1,0,none⟩) 1 1,.int .u32 0,.slice none 0 0]:Array Value)[o]?:=fun o=>da _ _ o I (by simp);have c6:∀ o,W.cell? ⟨w.heap.size+1+1+1+1+1,o,none⟩=(#[.slice (some ⟨w.heap.size+1+1+1+1,0,none⟩) 3 3]:Array Value)[o]?:=fun o=>da _ _ o J (by simp);have t:∀ o,W.cell? ⟨w.heap.size+1+1+1+1+1+1,o,none⟩=(#[.slice (some ⟨w.heap.size,0,none⟩) 2 2,.int .i64 8,.slice none 0 0,.slice (some ⟨w.heap.size+1+1+1+1+1,0,none⟩) 1 1]:Array Value)[o]?:=fun o=>da _ _ o K (by simp);have d:IntsAt W.heap.size W (.slice none 0 0) []:=⟨none,0,rfl,vV _,by simp,fun h=>by simp at h⟩
 have u:IntsAt W.heap.size W (.slice (some ⟨w.heap.size,0,none⟩) 2 2) [8,8]:=by
  refine ⟨_,_,rfl,vV _,by simp,fun _=>⟨_,_,rfl,by omega,fun j y hy=>?_⟩⟩;rw [Nat.zero_add,m]
  match j,hy with
  | 0,hy=>simp at hy;subst hy;rfl
  | 1,hy=>simp at hy;subst hy;rfl
 have z:IntsAt W.heap.size W (.slice (some ⟨w.heap.size+1,0,none⟩) 2 2) [0,1]:=by
  refine ⟨_,_,rfl,vV _,by simp,fun _=>⟨_,_,rfl,by omega,fun j y hy=>?_⟩⟩;rw [Nat.zero_add,p]
  match j,hy with
  | 0,hy=>simp at hy;subst hy;rfl
  | 1,hy=>simp at hy;subst hy;rfl
 have A:IntsAt W.heap.size W (.slice (some ⟨w.heap.size+1+1,0,none⟩) 1 1) [2]:=by
  refine ⟨_,_,rfl,vV _,by simp,fun _=>⟨_,_,rfl,by omega,fun j y hy=>?_⟩⟩;rw [Nat.zero_add,q]
  match j,hy with
  | 0,hy=>simp at hy;subst hy;rfl
 have B:IntsAt W.heap.size W (.slice (some ⟨w.heap.size+1+1+1,0,none⟩) 1 1) [3]:=by
  refine ⟨_,_,rfl,vV _,by simp,fun _=>⟨_,_,rfl,by omega,fun j y hy=>?_⟩⟩;rw [Nat.zero_add,r]
  match j,hy with
  | 0,hy=>simp at hy;subst hy;rfl
 have C:BlkAt W.heap.size W (.slice (some ⟨w.heap.size+1+1+1+1,0,none⟩) 3 3) [Rn.kAdd,Rn.kFreeze,Rn.kRet]:=by
  refine ⟨_,_,rfl,vV _,by simp,fun _=>⟨_,_,rfl,by omega,fun j y hy=>?_⟩⟩
  match j,hy with
  | 0,hy=>simp at hy;subst hy;exact ⟨_,_,c5 0,c5 1,c5 2,c5 3,c5 4,c5 5,z,d⟩
  | 1,hy=>simp at hy;subst hy;exact ⟨_,_,c5 6,c5 7,c5 8,c5 9,c5 10,c5 11,A,d⟩
  | 2,hy=>simp at hy;subst hy;exact ⟨_,_,c5 12,c5 13,c5 14,c5 15,c5 16,c5 17,B,d⟩
 have D:BlksAt W.heap.size W (.slice (some ⟨w.heap.size+1+1+1+1+1,0,none⟩) 1 1) [[Rn.kAdd,Rn.kFreeze,Rn.kRet]]:=by
  refine ⟨_,_,rfl,vV _,by simp,fun _=>⟨_,_,rfl,by omega,fun j y hy=>?_⟩⟩
  match j,hy with
  | 0,hy=>simp at hy;subst hy;exact ⟨_,c6 0,C⟩
 exact ⟨⟨_,_,_,rfl,u,d,D⟩,g,l,t⟩
theorem tc {w W:World} {b:Nat} {t:TypeId} {zs:List Int} (h:W.heap[b]?=some (.cells (zs.map (Value.int .u32)).toArray t (0,0))) (hn:zs.length<=1000):U32At W.heap.size W (.slice (some ⟨b,0,none⟩) zs.length zs.length) zs :=
 ⟨_,_,rfl,vV _,by omega,fun _=>⟨_,_,rfl,cY h,fun j z hz=>by rw [vX _ _ _ _ _ _ h,Nat.zero_add];simp [hz]⟩⟩
theorem jt (w:World):Calls prog 12 #[] w fun e w'=>e=.returned (.bool true)/\Gr w w':=by
 obtain ⟨W,hW⟩:=xJ ((((((((w.alloc (.cells #[.int .i64 8,.int .i64 8] 3)).alloc (.cells #[.int .i64 0,.int .i64 1] 3)).alloc (.cells #[.int .i64 2] 3)).alloc (.cells #[.int .i64 3] 3)).alloc (.cells #[.int .i64 1,.int .i64 8,.int .i64 2,.slice (some ⟨w.heap.size+1,0,none⟩) 2 2,.int .u32 0,.slice none 0 0,.int .i64 21,.int .i64 8,.int .i64 0,.slice (some ⟨w.heap.size+1+1,0,none⟩) 1 1,.int .u32 0,.slice none 0 0,.int .i64 31,.int .i64 0,.int .i64 0,.slice (some ⟨w.heap.size+1+1+1,0,none⟩) 1 1,.int .u32 0,.slice none 0 0] 67)).alloc (.cells #[.slice (some ⟨w.heap.size+1+1+1+1,0,none⟩) 3 3] 68)).alloc (.cells #[.slice (some ⟨w.heap.size,0,none⟩) 2 2,.int .i64 8,.slice none 0 0,.slice (some ⟨w.heap.size+1+1+1+1+1,0,none⟩) 1 1] 25)));obtain ⟨X,Y,L,Z⟩:=uQ w hW;have R:=dJ X;have G:=dJ Y;have y:Hid (∀ wr,Gr W wr->∀ o,wr.cell? ⟨w.heap.size+1+1+1+1+1+1,o,none⟩=(#[.slice (some ⟨w.heap.size,0,none⟩) 2 2,.int .i64 8,.slice none 0 0,.slice (some ⟨w.heap.size+1+1+1+1+1,0,none⟩) 1 1]:Array Value)[o]?):=fun wr g o=>(g.cell _ _ (by omega)).trans (Z o)
 have Q:Hid (∀ m,Gr W m->m.heap[W.heap.size]?=some (.cells #[.int .u32 127,.int .u32 1] 35 (0,0))->Calls prog 20 #[ue w,.agg #[.slice (some ⟨W.heap.size,0,none⟩) 2 2,.slice none 0 0]] m fun e w'=>∃ A c,e=.returned (.tuple #[.slice A (256:Nat) c,.int .i64 0])/\Gr m w'):=fun m g h=>by
  refine (sN (f:=Rn.kFn) (i:=Rn.kInp) ((R.out.below g).mono g.size) sF ut (tc (zs:=[127,1]) (w:=w) h (by decide)) ⟨none,0,rfl,vV _,by decide,fun h=>absurd h (by decide)⟩ (by decide)).mono ?_;rintro e w' ⟨B,p⟩;rcases B with ⟨q,-⟩ | ⟨-,q,-⟩ | ⟨-,C,q,-,-,v,D,aa,rfl,ho⟩
  ·exact absurd Rn.k_valid q
  ·have:=Rn.k_all;rw [q] at this;cases this
  ·have hl:=Rn.k_all;rw [q] at hl;have M:C.length=256:=by simpa using hl
   obtain ⟨A,c,rfl,-⟩:=dU ho.own;rw [M];exact ⟨A,c,rfl,p⟩
 have S:Hid (∀ j H I,Gr W j->j.heap[H]?=some (.cells #[.int .u32 127,.int .u32 1] 35 (0,0))->j.heap[I]?=some (.cells #[.int .u32 258] 35 (0,0))->Calls prog 16 #[ue w,.agg #[.slice (some ⟨H,0,none⟩) 2 2,.slice none 0 0],.slice (some ⟨I,0,none⟩) 1 1] j fun e w'=>∃ A c,e=.returned (.tuple #[.agg #[.int .i64 0,.bool false,.int .i64 0,.int .u32 2,.slice A (0:Nat) c],.int .i64 1,.int .i64 0])/\Gr j w'):=fun j H I g h h'=>by
  refine (tH (f:=Rn.kFn) (i:=Rn.kInp) (picks:=[258]) ((R.out.below g).mono g.size) sF ut (tc (zs:=[127,1]) (w:=w) h (by decide)) ⟨none,0,rfl,vV _,by decide,fun h=>absurd h (by decide)⟩ (by decide) (tc (zs:=[258]) (w:=w) h' (by decide)) (by decide)).mono ?_;rintro e w' ⟨B,p⟩;rcases B with ⟨q,-⟩ | ⟨-,vx,D,rfl,hk,-⟩
  ·exact absurd Rn.k_valid q
  ·obtain ⟨r1,r2⟩:=Rn.k_run;have r3:Rn.wids Rn.kFn Rn.kInp [258]=[8]:=r2;obtain ⟨-,⟨A,c,rfl⟩,-⟩:=hk;rw [r1,r3];exact ⟨A,c,rfl,p⟩
 unfold ue at Q S;obtain ⟨k0,k1,k2,k3⟩:=And.intro (y.out W (wL _) 0) (And.intro (y.out W (wL _) 1) (And.intro (y.out W (wL _) 2) (y.out W (wL _) 3)));clear X Y L Z
 go_enter func12, ntmps12
 go_wp2_with (first
   | (go_at_call 20
      obtain ⟨m,r⟩:=xJ (W.alloc (.cells #[.int .u32 127,.int .u32 1] 35))
      have J:Gr W m:=by rw [<- r];exact (wL _).alloc _
      have p:m.heap[W.heap.size]?=some (.cells #[.int .u32 127,.int .u32 1] 35 (0,0)):=by rw [<- r];exact heap_alloc_new _ _
      rw [r]
      have N:=Q.out m J p
      (with_reducible refine N.mono ?_)
      rintro e u ⟨A,c,rfl,T⟩
      have d:=dJ (J.trans T)
      have j0:=y.out u d.out 0
      have j1:=y.out u d.out 1
      have j2:=y.out u d.out 2
      have j3:=y.out u d.out 3
      clear J p N T r)
   | (go_at_call 16
      obtain ⟨E,l⟩:=xJ (u.alloc (.cells #[.int .u32 127,.int .u32 1] 35))
      obtain ⟨j,t⟩:=xJ (E.alloc (.cells #[.int .u32 258] 35))
      have K:Gr u E:=by rw [<- l];exact (wL _).alloc _
      have F:Gr E j:=by rw [<- t];exact (wL _).alloc _
      have s4:E.heap.size=u.heap.size+1:=by rw [<- l];simp
      have B:j.heap[u.heap.size]?=some (.cells #[.int .u32 127,.int .u32 1] 35 (0,0)):=(F.heap _ (by omega)).trans (by rw [<- l];exact heap_alloc_new _ _)
      have p:j.heap[u.heap.size+1]?=some (.cells #[.int .u32 258] 35 (0,0)):=by rw [<- t,<- s4];exact heap_alloc_new _ _
      rw [l,t]
      have O:=S.out j _ _ ((d.out.trans K).trans F) B p
      (with_reducible refine O.mono ?_)
      rintro e w6 ⟨A6,c6,rfl,U⟩
      have z:=dJ (((d.out.trans K).trans F).trans U)
      clear K F B p O U l t s4))
 go_ret
 first
  | exact ⟨rfl,G.out.trans (z.out.alloc _)⟩
  | exact ⟨rfl,G.out.trans ((z.out.alloc _).drew)⟩
  | exact ⟨rfl,G.out.trans ((z.out.alloc _).drewN _)⟩
end
section
open Go.RowKit Go.Deep Go.ChangeShapes Go.WideShapes
section
variable {H:Type} {enc:TypeId × Value->H} {w:World}
theorem iU {fuel:Nat} {v:Value} {x:DataW H × List MemPlace} (h:DataW.trod enc prog w 0 (fun _=>true) true fuel 26 [v]=some x):∃ zs,ArgsAt w v zs:=by
 rcases open_ints underlying26 underlying35 (by kernel_rfl) h with ⟨g,-⟩ | ⟨a,l,c,zs,g,-,hl,u,C,rfl,d,y⟩
 ·obtain rfl:v=.slice none 0 0:=by simpa using g
  exact ⟨[],⟨none,0,rfl,by simp,by simp⟩,fun _=>⟨none,0,rfl,by simp,by simp,by simp⟩,by simp⟩
 ·obtain rfl:v=.slice (some a) l c:=by simpa using g
  simp only [if_true] at C;have hlen:(zs.take l).length=l:=by simp;omega
  have D:c<=9223372036854775807:=u;refine ⟨zs.take l,⟨some a,c,by rw [hlen],by rw [hlen];exact hl,by rw [hlen];omega⟩,fun B=>⟨some a,c,by rw [hlen],by rw [hlen];exact hl,by omega,fun A=>?_⟩,fun z hz'=>by have:=bounds_u32 (y z (List.mem_of_mem_take hz'));omega⟩;rw [hlen] at A;have p:=d 0 (by omega);obtain ⟨b,off,q⟩:=a;have m:q=none:=by simpa [Addr.add] using World.cell?_spot p
  subst m;refine ⟨b,off,rfl,by simpa [Addr.add] using ij p,fun j z r=>?_⟩
  have t:j<l:=by
   have:=(vy.1 r).1;rw [hlen] at this;exact this
  rw [vL,wa t] at r;have:=d j (by omega);rw [add_plain] at this;simpa [List.getD,r] using this
theorem sn {fuel:Nat} {v:Value} {x:DataW H × List MemPlace} (h:DataW.trod enc prog w 0 (fun _=>true) true fuel 27 [v]=some x)
  (hw:∀ m ∈ x.1.weights prog 27,m<=reachBytes):∃ t,TabAt w.heap.size w v t:=by
 have C:Program.cellsOf prog 22=1:=by kernel_rfl
 have L:Program.bytesOf prog 22=24:=by kernel_rfl
 have M:reachBytes=0x7ffffffff000:=rfl;rcases open_slice1 underlying27 C h with ⟨g,-⟩ | ⟨a,l,c,m,n,V,D,N,g,-,hl,-,I,rfl,E⟩
 ·obtain rfl:v=.slice none 0 0:=by simpa using g
  exact ⟨[],⟨none,0,rfl,by simp,by simp,by simp⟩⟩
 ·obtain rfl:v=.slice (some a) l c:=by simpa using g
  simp only [if_true] at I;subst I;have A:=hw _ (by simp only [DataW.weights,underlying27];exact List.mem_cons_self);simp only [vS,List.length_range] at A;rw [L,M] at A
  obtain ⟨X,K⟩:=choose_lt (α:=List Int) (n:=l) (p:=fun i X=>IntsAt w.heap.size w (V i) X) (fun i hi=>by
    obtain ⟨zs,F,-⟩:=fp (E i (by omega)).2 (fun k hk=>hw k (by
      simp only [DataW.weights,underlying27]
      refine List.mem_cons_of_mem _ (wl.2 (Or.inl (eC (d:=D i) (List.mem_map.2 ⟨i,List.mem_range.2 hi,rfl⟩) hk)))))
    exact ⟨zs,F⟩)
  have hlen:((List.range l).map X).length=l:=by simp
  refine ⟨(List.range l).map X,⟨some a,m,by rw [hlen],by rw [hlen];exact hl,by rw [hlen];omega,fun J=>?_⟩⟩;rw [hlen] at J;have u:=(E 0 (by omega)).1;obtain ⟨b,off,B⟩:=a;have r:B=none:=by simpa [Addr.add] using World.cell?_spot u
  subst r;refine ⟨b,off,rfl,by simpa [Addr.add] using ij u,fun j z G=>?_⟩
  have y:j<l:=by
   have:=(vy.1 G).1;rw [hlen] at this;exact this
  obtain rfl:X j=z:=by simpa [y] using G
  have q:=(E j (by omega)).1;rw [add_plain] at q;exact ⟨V j,q,K j y⟩
theorem mL {v:Value} {d:DataW H} {p:List MemPlace} (hv:Value.okWide prog w .any 0 29 v) (h:DataW.Trod enc prog w 0 (fun _=>true) true 29 v d p)
  (hw:∀ m ∈ d.weights prog 29,m<=reachBytes):∃ (i:Rn.Inp) (va vm:Value),v=.agg #[va,vm]/\ArgsAt w va i.args/\TabAt w.heap.size w vm i.mem:=by
 obtain ⟨v0,r,u,y,n,rfl,rfl,-,g,j⟩:=Go.Joins.open_agg2 underlying29 (by kernel_rfl) (by kernel_rfl) hv h;obtain ⟨zs,l⟩:=iU g;obtain ⟨t,q⟩:=sn j (fun m hm=>hw m (by simp [DataW.weights,underlying29,DataW.weightsEach,hm]));exact ⟨⟨zs,t⟩,v0,r,rfl,l,q⟩
theorem tU {f:Fn} (hs:∀ l ∈ f.blocks,∀ z ∈ l,sC z):Rn.Im f:=fun l hl x d=>(hs l hl x d).1
end
end
section
open Go.RowKit Go.Shelf
theorem dW {f:Fn} {i:Rn.Inp} (h:(dV f || fj i)=false):dV f=false/\i.args.length<=1000:=by
 rw [Bool.or_eq_false_iff] at h;obtain ⟨g,d⟩:=h;refine ⟨g,?_⟩;unfold fj at d;simp only [Bool.or_eq_false_iff,decide_eq_false_iff_not] at d;omega
theorem ArgsAt.u32 {w w':World} {v:Value} {zs:List Int} (h:ArgsAt w v zs) (hl:zs.length<=1000) (g:Gr w w'):U32At w'.heap.size w' v zs:=SlAt.mono (qX (h.at_ hl) g) g.size
end
end Go.Proofs.YthfhamagopbgcaaGreat

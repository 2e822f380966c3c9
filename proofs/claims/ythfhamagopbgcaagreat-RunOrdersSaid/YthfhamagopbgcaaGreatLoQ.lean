/- The law backstaylaw05.RunOrders returns true at every input, and the input reads as it did. -/
import Derived.Test.YthfhamagopbgcaaGreatG46
import Derived.Test.YthfhamagopbgcaaGreatG45
import Derived.Test.YthfhamagopbgcaaGreatOdQ
namespace Go.Proofs.YthfhamagopbgcaaGreat
set_option linter.unusedSimpArgs false
set_option linter.unusedVariables false
open Go.RowKit Go.Shelf Go.Deep Go.ChangeShapes Go.WideShapes

section
set_option maxRecDepth 100000
variable {H:Type} {enc:TypeId × Value→H} {w:World}
/-- A DATUM OF TYPE api.Outcome, OPENED. -/
theorem out_open {v:Value} {d:DataW H} {p:List MemPlace} (hv:Value.okWide Tryz.prog w .any 0 39 v) (h:DataW.Trod enc Tryz.prog w 0 (fun _=>true) true 39 v d p)
  (hw:∀ m ∈ d.weights Tryz.prog 39,m≤reachBytes):∃ (o:Rn.Out) (vm:Value),v=outV o vm∧TabAt w.heap.size w vm o.mem∧0≤o.ret.n∧o.ret.n<4294967296:=by
 have e3:Program.cellsOf Tryz.prog 3=1:=by kernel_rfl
 have e4:Program.cellsOf Tryz.prog 4=1:=by kernel_rfl
 have e35:Program.cellsOf Tryz.prog 35=1:=by kernel_rfl
 have e37:Program.cellsOf Tryz.prog 37=3:=by kernel_rfl
 have e27:Program.cellsOf Tryz.prog 27=1:=by kernel_rfl
 have e39:Program.cellsOf Tryz.prog 39=5:=by kernel_rfl
 obtain ⟨cs,rfl,hsz⟩:=okWide_struct Tryz.underlying39 hv
 obtain ⟨fuel,hf⟩:=h
 obtain ⟨xs,n,-,hd,hl,hlen,hx⟩:=DataW.trod_struct Tryz.underlying39 hf
 rw [e39] at hsz
 obtain ⟨cl⟩:=cs
 match cl,hsz with
 | [c0,c1,c2,c3,c4],_ =>
  match xs,hlen with
  | [y0,y1,y2],_ =>
   have h0:=hx 0 _ rfl
   have h1:=hx 1 _ rfl
   have h2:=hx 2 _ rfl
   simp only [Prod.mk.injEq] at hd
   obtain ⟨rfl,-⟩:=hd
   simp [e3,e37,e27,Value.cells] at h0 h1 h2
   obtain ⟨k,g0,-,-⟩:=DataW.trod_int Tryz.underlying3 h0
   obtain rfl:c0=.int .i64 k:=by simpa using g0
   obtain ⟨xs',n',-,hd',hl',hlen',hx'⟩:=DataW.trod_struct Tryz.underlying37 h1
   match xs',hlen' with
   | [z0,z1,z2],_ =>
    have q0:=hx' 0 _ rfl
    have q1:=hx' 1 _ rfl
    have q2:=hx' 2 _ rfl
    simp [e3,e4,e35] at q0 q1 q2
    obtain ⟨b,r0,-⟩:=DataW.trod_bool Tryz.underlying4 q0
    obtain ⟨s,r1,-,-⟩:=DataW.trod_int Tryz.underlying3 q1
    obtain ⟨m,r2,-,w2⟩:=DataW.trod_int Tryz.underlying35 q2
    obtain rfl:c1=.bool b:=by simpa using r0
    obtain rfl:c2=.int .i64 s:=by simpa using r1
    obtain rfl:c3=.int .u32 m:=by simpa using r2
    obtain ⟨t,ht⟩:=tab_open h2 (fun k hk=>hw k (by simp [DataW.weights,Tryz.underlying39,DataW.weightsEach,hk]))
    have:=bounds_u32 w2
    exact ⟨⟨k,⟨b,s,m⟩,t⟩,c4,rfl,ht,by dsimp only;omega,by dsimp only;omega⟩
end
set_option maxRecDepth 100000 in
set_option maxHeartbeats 16000000 in
theorem lawOrders_any {w:World} {a b:Rn.Out} {va vb:Value} (ha:TabAt w.heap.size w va a.mem) (hb:TabAt w.heap.size w vb b.mem) (hna:0≤a.ret.n∧a.ret.n<4294967296) (hnb:0≤b.ret.n∧b.ret.n<4294967296) :
  Calls Tryz.prog 6 #[outV a va,outV b vb] w fun e w'=>e=.returned (.bool true)∧Gr w w':=by
 have HKN:Hid (∀ w1,Calls Tryz.prog 12 #[] w1 fun e w'=>e=.returned (.bool true)∧Gr w1 w'):=known5_any
 obtain ⟨Wa,hWa⟩:∃ Wa,obox w a va=Wa:=⟨_,rfl⟩
 obtain ⟨W,hW⟩:∃ W,obox Wa b vb=W:=⟨_,rfl⟩
 have g1:Gr w Wa:=by rw [← hWa];exact (Gr.refl w).alloc _
 have g2:Gr Wa W:=by rw [← hW];exact (Gr.refl Wa).alloc _
 have gW:=g1.trans g2
 have XA:=fun (u:GrW W)=>obox_cells (w:=w) (o:=a) (vm:=va) (w':=u.val) (by rw [hWa];exact g2.trans u.gr)
 have XB:=fun (u:GrW W)=>obox_cells (w:=Wa) (o:=b) (vm:=vb) (w':=u.val) (by rw [hW];exact u.gr)
 have A0:=fun u=>(XA u).1
 have A1:=fun u=>(XA u).2.1
 have A2:=fun u=>(XA u).2.2.1
 have A3:=fun u=>(XA u).2.2.2.1
 have A4:=fun u=>(XA u).2.2.2.2
 have B0:=fun u=>(XB u).1
 have B1:=fun u=>(XB u).2.1
 have B2:=fun u=>(XB u).2.2.1
 have B3:=fun u=>(XB u).2.2.2.1
 have B4:=fun u=>(XB u).2.2.2.2
 have a4:=A4 ⟨W,Gr.refl W⟩
 have b4:=B4 ⟨W,Gr.refl W⟩
 dsimp only at a4 b4
 have CB1:=Lib.hid fun (u:GrW W)=>obefore_any (w:=u.val) (a:=a) (b:=b) (ha.gr (gW.trans u.gr)) (hb.gr (gW.trans u.gr)) (Nat.le_refl _)
 have CB2:=Lib.hid fun (u:GrW W)=>r5before_any (w:=u.val) (a:=a) (b:=b) (ha.gr (gW.trans u.gr)) (hb.gr (gW.trans u.gr)) (Nat.le_refl _) hna hnb
 have CS1:=Lib.hid fun (u:GrW W)=>osame_any (w:=u.val) (a:=a) (b:=b) (ha.gr (gW.trans u.gr)) (hb.gr (gW.trans u.gr)) (Nat.le_refl _)
 have CS2:=Lib.hid fun (u:GrW W)=>r5same_any (w:=u.val) (a:=a) (b:=b) (ha.gr (gW.trans u.gr)) (hb.gr (gW.trans u.gr)) (Nat.le_refl _) hna hnb
 have HG:=Lib.hid gW
 obtain ⟨Aa,ca,rfl,l1,l2,-⟩:=id ha
 obtain ⟨Ab,cb,rfl,l3,l4,-⟩:=id hb
 obtain ⟨d1,hd1⟩:∃ d,decide (Rn.cmpOut a b<0)=d:=⟨_,rfl⟩
 obtain ⟨d2,hd2⟩:∃ d,decide (Rn.cmpOut a b=0)=d:=⟨_,rfl⟩
 rw [hd1] at CB1 CB2
 rw [hd2] at CS1 CS2
 have s1:(d1 == d1)=true:=by simp
 have s2:(d2 == d2)=true:=by simp
 clear XA XB g1 g2 gW ha hb hd1 hd2 hna hnb
 unfold obox at hWa hW
 unfold outV at *
 by_cases hl:a.mem.length≤50∧b.mem.length≤50
 ·have hl1:¬ (50:Int)<(a.mem.length:Int):=by omega
  have hl2:¬ (50:Int)<(b.mem.length:Int):=by omega
  clear hl
  go_enter Tryz.func6, Tryz.ntmps6
  go_wp2
  refine wp_region_quietGr (by kernel_rfl) (by kernel_rfl) ?_
  repeat (go_big_quiet_step (first
    | (rename_i u;go_at_call 22;exact grW_call u (CB1.out u))
    | (rename_i u;go_at_call 23;exact grW_call u (CB2.out u))
    | (rename_i u;go_at_call 21;exact grW_call u (CS1.out u))
    | (rename_i u;go_at_call 18;exact grW_call u (CS2.out u))
    | (rename_i u;go_at_call 12;exact grW_call u (HKN.out u.val))))
  refine wpQuiet_nil ?_
  intro w9 hw9
  obtain ⟨u9,rfl⟩:=hw9
  have G9:=Lib.hid (HG.out.trans u9.gr)
  clear A0 A1 A2 A3 A4 B0 B1 B2 B3 B4
  go_wp2
  go_ret
  exact ⟨rfl,G9.out⟩
 ·by_cases hl1:(50:Int)<(a.mem.length:Int)
  ·clear hl
   go_enter Tryz.func6, Tryz.ntmps6
   go_wp2_with (go_at_call 12;(with_reducible refine (HKN.out _).mono ?_);rintro e w2 ⟨rfl,g2⟩)
   go_ret
   exact ⟨rfl,HG.out.trans g2⟩
  ·have hl2:(50:Int)<(b.mem.length:Int):=by omega
   clear hl
   go_enter Tryz.func6, Tryz.ntmps6
   go_wp2_with (go_at_call 12;(with_reducible refine (HKN.out _).mono ?_);rintro e w2 ⟨rfl,g2⟩)
   go_ret
   exact ⟨rfl,HG.out.trans g2⟩
end Go.Proofs.YthfhamagopbgcaaGreat

/- import Derived.Test.YthfhamagopbgcaaGreatRefB -/
import Derived.Test.YthfhamagopbgcaaGreatG02
import Derived.Deep.DeepCutAuto
namespace Go.Proofs.YthfhamagopbgcaaGreat
open Go.RowKit

theorem two_list {l:List Int} (h:l.length=2):∃ a b,l=[a,b]:=by
 match l,h with | [a,b],_=>exact ⟨a,b,rfl⟩
theorem shape_30 (f:Fn) (x:Ins) (h:x.op=30):(Ref.shape f x).2.1=2:=by simp [Ref.shape,h]

set_option maxRecDepth 100000 in
set_option maxHeartbeats 4000000 in
theorem argument_any (f:Fn) (x:Ins) (v vx:Value) (w:World) (hf:FnAt w.heap.size w v f) (hx:InsV w.heap.size w vx x) (h1:0≤x.imm) (h2:x.imm<4294967296) :
  Calls Tryz.prog 74 #[v,vx] w fun e w'=>e=.returned (.bool (Ref.argument f x))∧Gr w w':=by
 obtain ⟨vp,vs,vb,rfl,-,⟨As,cs,rfl,-,-,-⟩,⟨Ab,cb,rfl,-,-,-⟩⟩:=hf
 obtain ⟨va,vt,rfl,⟨Aa,ca,rfl,-,ha2,-⟩,⟨At,ct,rfl,-,ht2,ht3⟩⟩:=hx
 unfold insVal
 obtain ⟨W,hW⟩:∃ W,(w.alloc (.cells #[vp,.int .i64 f.ret,.slice As f.slots.length cs,.slice Ab f.blocks.length cb] 25)).alloc (.cells #[.int .i64 x.op,.int .i64 x.width,.int .i64 x.flags,.slice Aa x.args.length ca,.int .u32 x.imm,.slice At x.to.length ct] 67)=W:=⟨_,rfl⟩
 have hB0:Gr w W:=by rw [← hW];exact ((Gr.refl w).alloc _).alloc _
 have hWs:W.heap.size=w.heap.size+2:=by rw [← hW];simp
 have b0:∀ o,W.cell? ⟨w.heap.size,o,none⟩=(#[vp,.int .i64 f.ret,.slice As f.slots.length cs,.slice Ab f.blocks.length cb]:Array Value)[o]?:=by
  intro o;rw [← hW];exact cell_of_row _ _ _ _ _ _ (heap_alloc2_old w _ _)
 have b1:∀ o,W.cell? ⟨w.heap.size+1,o,none⟩=(#[.int .i64 x.op,.int .i64 x.width,.int .i64 x.flags,.slice Aa x.args.length ca,.int .u32 x.imm,.slice At x.to.length ct]:Array Value)[o]?:=by
  intro o;rw [← hW];exact cell_of_row _ _ _ _ _ _ (heap_alloc2_new w _ _)
 have C:=shape_any f vp (.slice Ab f.blocks.length cb) (.slice At x.to.length ct) As Aa cs ca x W h1 h2
 have h30:=Lib.hid (shape_30 f x)
 have HA:Hid (Ref.argument f x=((Ref.shape f x).2.2 && Ref.counts (Ref.shape f x) x && x.to.all (fun z=>decide (0≤z) && decide (z<f.blocks.length)) && (decide (x.op≠30) || decide (x.to.getD 0 0≠x.to.getD 1 0)))):=rfl
 revert C h30 HA
 generalize Ref.argument f x=R
 obtain ⟨op,width,flags,args,imm,tos⟩:=x
 generalize Ref.shape f _=s
 obtain ⟨sa,st,ok⟩:=s
 dsimp only at *
 intro C h30 HA
 have HC:=Lib.hid C
 clear C
 have fin:Hid (ok=true→Ref.counts (sa,st,true) ⟨op,width,flags,args,imm,tos⟩=true→R=(tos.all (fun z=>decide (0≤z) && decide (z<f.blocks.length)) && (decide (op≠30) || decide (tos.getD 0 0≠tos.getD 1 0)))):=by
  intro e1 e2;subst e1;rw [HA.out,e2];simp
 have bad1:Hid (ok=false→R=false):=by intro e;subst e;rw [HA.out];simp
 have bad2:Hid (ok=true→Ref.counts (sa,st,true) ⟨op,width,flags,args,imm,tos⟩=false→R=false):=by intro e e2;subst e;rw [HA.out,e2];simp
 clear HA
 have k0:=b0 0
 have k1:=b0 1
 have k2:=b0 2
 have k3:=b0 3
 have l0:=b1 0
 have l1:=b1 1
 have l2:=b1 2
 have l3:=b1 3
 have l4:=b1 4
 have l5:=b1 5
 simp at k0 k1 k2 k3 l0 l1 l2 l3 l4 l5
 have B0:=Lib.hid b0
 have B1:=Lib.hid b1
 have HT3:=Lib.hid ht3
 clear b0 b1 ht3
 cases ok with
 | false =>
  have E1:Hid (R=false):=bad1.out rfl
  clear fin bad1 bad2
  go_enter Tryz.func74, Tryz.ntmps74
  go_wp2_with (go_at_call 117;refine HC.out.mono ?_;rintro e w1 ⟨rfl,g1⟩)
  go_ret
  exact ⟨ret_bool (by rw [E1.out]),hB0.trans (g1.alloc _)⟩
 | true =>
  have F1:Hid (Ref.counts (sa,st,true) ⟨op,width,flags,args,imm,tos⟩=true→R=(tos.all (fun z=>decide (0≤z) && decide (z<f.blocks.length)) && (decide (op≠30) || decide (tos.getD 0 0≠tos.getD 1 0)))):=fin.out rfl
  have F2:Hid (Ref.counts (sa,st,true) ⟨op,width,flags,args,imm,tos⟩=false→R=false):=bad2.out rfl
  clear fin bad1 bad2
  go_enter Tryz.func74, Tryz.ntmps74
  go_upto_region 4 with (go_at_call 117;refine HC.out.mono ?_;rintro e w1 ⟨rfl,g1⟩;have x3:=(g1.cell (w.heap.size+1) 3 (by omega)).trans (B1.out 3);have x5:=(g1.cell (w.heap.size+1) 5 (by omega)).trans (B1.out 5);simp at x3 x5;have hz1:w.heap.size<w1.heap.size:=by { have:=g1.size;omega };have hz2:w.heap.size+1<w1.heap.size:=by { have:=g1.size;omega })
  go_cut [50] (fun s50 wx=>s50=.bool (!Ref.counts (sa,st,true) ⟨op,width,flags,args,imm,tos⟩)∧wx=w1.alloc (.cells #[.int .i64 sa,.int .i64 st,.bool true] 159))
  case first =>
   go_wp2
   all_goals (go_meet;exact ⟨by unfold Ref.counts;congr 1;grind,rfl⟩)
  case rest =>
  obtain ⟨rfl,rfl⟩:=hcut
  cases hcn:Ref.counts (sa,st,true) ⟨op,width,flags,args,imm,tos⟩ with
  | false =>
   have E1:Hid (R=false):=F2.out hcn
   clear F1 F2 hcn
   go_wp2
   go_ret
   exact ⟨ret_bool (by rw [E1.out]),hB0.trans (g1.alloc _)⟩
  | true =>
   have hto:Hid (op=30→tos.length=2):=by
    intro e
    have h30':=h30.out e
    unfold Ref.counts at hcn
    grind
   have FF:Hid (R=(tos.all (fun z=>decide (0≤z) && decide (z<f.blocks.length)) && (decide (op≠30) || decide (tos.getD 0 0≠tos.getD 1 0)))):=F1.out hcn
   have gW:Gr W (w1.alloc (.cells #[.int .i64 sa,.int .i64 st,.bool true] 159)):=g1.alloc _
   clear F1 F2 h30 hcn
   go_wp2
   clear k0 k1 k2 k3 l0 l1 l2 l3 l4 l5
   go_loopw [6] (fun i wr=>∃ k:Nat,k≤tos.length∧i=.int .i64 k∧Gr W wr∧Hid (tos.all (fun z=>decide (0≤z) && decide (z<f.blocks.length))=(tos.drop k).all (fun z=>decide (0≤z) && decide (z<f.blocks.length)))) (fun i _=>tos.length-(intOf i).toNat)
   case atStart=>exact ⟨0,Nat.zero_le _,rfl,gW,rfl⟩
   case round =>
    obtain ⟨k,hk,rfl,hgr,hrest⟩:=hrel
    have hgs:=hgr.size
    have y3:=(hgr.cell w.heap.size 3 (by omega)).trans (B0.out 3)
    have y0:=(hgr.cell (w.heap.size+1) 0 (by omega)).trans (B1.out 0)
    have y5:=(hgr.cell (w.heap.size+1) 5 (by omega)).trans (B1.out 5)
    simp at y3 y0 y5
    rcases hr:tos.drop k with _ | ⟨z,r⟩
    ·have hkn:=drop_nil hr hk
     have HAll:Hid (tos.all (fun z=>decide (0≤z) && decide (z<f.blocks.length))=true):=by show _=_;rw [hrest.out,hr];rfl
     subst hkn
     clear hr hrest
     by_cases h30:op=30
     ·obtain ⟨t0,t1,rfl⟩:=two_list (hto.out h30)
      obtain ⟨bt,ot,rfl,hbt,hct⟩:=HT3.out (by simp)
      have q0:=((hB0.trans hgr).cell bt (ot+0) hbt).trans (hct 0 t0 rfl)
      have q1:=((hB0.trans hgr).cell bt (ot+1) hbt).trans (hct 1 t1 rfl)
      simp at q0 q1
      have n30:(op != 30)=false:=by simp [h30]
      have H30:=Lib.hid h30
      clear hct h30
      go_wp2
      go_quiet (fail)
      go_wp2
      go_ret
      exact ⟨ret_bool (by rw [FF.out,HAll.out];simp [H30.out];grind),(hB0.trans hgr).drewN _⟩
     ·have n30:(op != 30)=true:=by simp [h30]
      have H30:=Lib.hid h30
      clear h30
      go_wp2
      go_quiet (fail)
      go_wp2
      go_ret
      exact ⟨ret_bool (by rw [FF.out,HAll.out];simp [H30.out]),(hB0.trans hgr).drewN _⟩
    ·obtain ⟨hlt,hl,hr'⟩:=drop_cons hr
     obtain ⟨bt,ot,rfl,hbt,hct⟩:=HT3.out (by omega)
     have q:=((hB0.trans hgr).cell bt (ot+k) hbt).trans (hct k z hl)
     have HR:Hid (tos.all (fun z=>decide (0≤z) && decide (z<f.blocks.length))=(decide (0≤z) && decide (z<f.blocks.length) && r.all (fun z=>decide (0≤z) && decide (z<f.blocks.length)))):=by
      show _=_
      rw [hrest.out,hr];rfl
     have HR':Hid (tos.drop (k+1)=r):=hr'
     have z0:(0:Int)≤k:=by omega
     have z1:(k:Int)<(tos.length:Int):=by omega
     clear hr hl hr' hrest hct
     by_cases hz:z<0
     ·go_wp2
      go_quiet (fail)
      go_wp2
      go_ret
      exact ⟨ret_bool (by rw [FF.out,HR.out];have:¬ 0≤z:=by omega
                          simp [this]),(hB0.trans hgr).drewN _⟩
     ·go_wp2
      go_quiet (fail)
      go_wp2
      ·go_ret
       exact ⟨ret_bool (by rw [FF.out,HR.out];have:¬ z<f.blocks.length:=by omega
                           simp [this]),(hB0.trans hgr).drewN _⟩
      ·go_roundw
       case rel =>
        (repeat apply Exists.intro)
        exact ⟨⟨k+1,by omega,by go_num,hgr.drewN _,by (show _=_;rw [HR.out,HR'.out];have h1:0≤z:=(by omega);have h2:z<f.blocks.length:=(by omega);simp [h1,h2])⟩,rfl⟩
       case measure=>simp [intOf];omega
end Go.Proofs.YthfhamagopbgcaaGreat

/- import Derived.Test.YthfhamagopbgcaaGreatRefD -/
import Derived.Test.YthfhamagopbgcaaGreatG03
import Derived.Test.YthfhamagopbgcaaGreatG04
import Derived.Test.YthfhamagopbgcaaGreatG05
namespace Go.Proofs.YthfhamagopbgcaaGreat
open Go.RowKit

theorem laid_ne {l:List Ins} (h:Ref.laid l=true):l≠[]:=by intro e;subst e;simp [Ref.laid] at h
theorem rules_ne {f:Fn} (h:Ref.rules f=true):∀ l ∈ f.blocks,l≠[]:=by
 intro l hl
 unfold Ref.rules at h
 simp only [Bool.and_eq_true] at h
 exact laid_ne (List.all_eq_true.1 h.1.1 l hl)
theorem args_all {f:Fn} (h:f.blocks.all (fun l=>l.all (Ref.argument f))=true):∀ l ∈ f.blocks,∀ x ∈ l,Ref.argument f x=true :=
 fun l hl x hx=>List.all_eq_true.1 (List.all_eq_true.1 h l hl) x hx

set_option maxRecDepth 100000 in
set_option maxHeartbeats 8000000 in
theorem rval_any (v:Value) (f:Fn) (w:World) (hf:FnAt w.heap.size w v f) (hs:f.blocks.length≤100000) (hln:Hid (∀ l ∈ f.blocks,l.length≤100000)) (hwf:Hid (∀ l ∈ f.blocks,∀ x ∈ l,WfI x)) :
  Calls Tryz.prog 42 #[v] w fun e w'=>e=.returned (.int .i64 (Ref.validate f))∧Gr w w':=by
 have hf0:=hf
 obtain ⟨vp,vs,vb,rfl,hp,hsl,hb⟩:=hf
 obtain ⟨Ap,cp,rfl,hp1,hp2,hp3⟩:=hp
 obtain ⟨As,cs,rfl,hs1,hs2,hs3⟩:=hsl
 obtain ⟨Ab,cb,rfl,hb1,hb2,hb3⟩:=hb
 by_cases hbig:3<f.params.length∨2<f.slots.length∨f.blocks.length<1∨10<f.blocks.length
 ·have hV:Hid (Ref.validate f=3):=by show _=_;unfold Ref.validate;rw [if_pos hbig]
  have hB0:Gr w (w.alloc (.cells #[.slice Ap f.params.length cp,.int .i64 f.ret,.slice As f.slots.length cs,.slice Ab f.blocks.length cb] 25)):=(Gr.refl _).alloc _
  clear hp3 hs3 hb3 hf0
  go_enter Tryz.func42, Tryz.ntmps42
  go_wp2
  all_goals first | omega | (go_ret;exact ⟨ret_int (by rw [hV.out]),hB0⟩)
 obtain ⟨bb,ob,rfl,hbb,hcells⟩:=hb3 (by omega)
 obtain ⟨W,hW⟩:∃ W,w.alloc (.cells #[.slice Ap f.params.length cp,.int .i64 f.ret,.slice As f.slots.length cs,.slice (some ⟨bb,ob,none⟩) f.blocks.length cb] 25)=W:=⟨_,rfl⟩
 have hB0:Gr w W:=by rw [← hW];exact (Gr.refl w).alloc _
 have hWs:W.heap.size=w.heap.size+1:=by rw [← hW];simp
 have b0:∀ o,W.cell? ⟨w.heap.size,o,none⟩=(#[.slice Ap f.params.length cp,.int .i64 f.ret,.slice As f.slots.length cs,.slice (some ⟨bb,ob,none⟩) f.blocks.length cb]:Array Value)[o]?:=by
  intro o;rw [← hW];exact cell_of_row _ _ _ _ _ _ (heap_alloc_new w _)
 have B0:Hid (∀ w',Gr W w'→w'.cell? ⟨w.heap.size,0,none⟩=some (.slice Ap f.params.length cp)∧w'.cell? ⟨w.heap.size,1,none⟩=some (.int .i64 f.ret)∧w'.cell? ⟨w.heap.size,2,none⟩=some (.slice As f.slots.length cs)∧w'.cell? ⟨w.heap.size,3,none⟩=some (.slice (some ⟨bb,ob,none⟩) f.blocks.length cb)) :=
  fun w' g=>⟨(g.cell w.heap.size 0 (by omega)).trans (b0 0),(g.cell w.heap.size 1 (by omega)).trans (b0 1),(g.cell w.heap.size 2 (by omega)).trans (b0 2),(g.cell w.heap.size 3 (by omega)).trans (b0 3)⟩
 have hV0:Hid (Ref.validate f=if 40<Ref.total f.blocks then 3 else if f.ret<0∨32<f.ret then 1 else if f.params.all Ref.isWidth=false then 1 else if f.slots.all Ref.isSlot=false then 1 else if f.blocks.all (fun l=>l.all (Ref.argument f))=false then 1 else if Ref.rules f=false then 7 else if f.blocks.all (fun l=>l.all (Ref.typed f))=false then 6 else if Ref.stated f=false then 9 else 0):=by
  show _=_;unfold Ref.validate;rw [if_neg hbig]
 have HCA:Hid (∀ l ∈ f.blocks,∀ x ∈ l,∀ w1 vx,Gr w w1→InsV w1.heap.size w1 vx x→Calls Tryz.prog 74 #[.agg #[.slice Ap f.params.length cp,.int .i64 f.ret,.slice As f.slots.length cs,.slice (some ⟨bb,ob,none⟩) f.blocks.length cb],vx] w1 fun e w'=>e=.returned (.bool (Ref.argument f x))∧Gr w1 w') :=
  fun l hl x hx w1 vx g1 h=>argument_any f x _ vx w1 (hf0.gr g1) h (hwf.out l hl x hx).1.1 (hwf.out l hl x hx).1.2
 have HCT:Hid ((∀ l ∈ f.blocks,∀ x ∈ l,Ref.argument f x=true)→∀ l ∈ f.blocks,∀ x ∈ l,∀ w1 vx,Gr w w1→InsV w1.heap.size w1 vx x→Calls Tryz.prog 76 #[.agg #[.slice Ap f.params.length cp,.int .i64 f.ret,.slice As f.slots.length cs,.slice (some ⟨bb,ob,none⟩) f.blocks.length cb],vx] w1 fun e w'=>e=.returned (.bool (Ref.typed f x))∧Gr w1 w') :=
  fun hA l hl x hx w1 vx g1 h=>typed_any f x _ vx w1 (hf0.gr g1) h hs (hwf.out l hl x hx).2.2.1 (hwf.out l hl x hx).2.1 (hA l hl x hx)
 have HCR:Hid (∀ w1,Gr w w1→Calls Tryz.prog 75 #[.agg #[.slice Ap f.params.length cp,.int .i64 f.ret,.slice As f.slots.length cs,.slice (some ⟨bb,ob,none⟩) f.blocks.length cb]] w1 fun e w'=>e=.returned (.bool (Ref.rules f))∧Gr w1 w') :=
  fun w1 g1=>rules_any _ f w1 (hf0.gr g1) (by omega) hs hln
 have HCS:Hid ((∀ l ∈ f.blocks,∀ x ∈ l,Ref.argument f x=true)→(∀ l ∈ f.blocks,l≠[])→∀ w1,Gr w w1→Calls Tryz.prog 77 #[.agg #[.slice Ap f.params.length cp,.int .i64 f.ret,.slice As f.slots.length cs,.slice (some ⟨bb,ob,none⟩) f.blocks.length cb]] w1 fun e w'=>e=.returned (.bool (Ref.stated f))∧Gr w1 w') :=
  fun hA hne w1 g1=>stated_any _ f w1 (hf0.gr g1) (by omega) hs hA hne hwf
 obtain ⟨k0,k1,k2,k3⟩:=B0.out W (Gr.refl _)
 have HC:=Lib.hid hcells
 have HPC:=Lib.hid hp3
 have HSC:=Lib.hid hs3
 have z1:(f.params.length:Int)≤3:=by omega
 have z2:(f.slots.length:Int)≤2:=by omega
 have z3:(1:Int)≤f.blocks.length:=by omega
 have z4:(f.blocks.length:Int)≤10:=by omega
 clear b0 hcells hb3 hf0 hp3 hs3
 go_enter Tryz.func42, Tryz.ntmps42
 go_wp2
 go_loop [3,4] (fun s b=>∃ k N:Nat,k≤f.blocks.length∧b=.int .i64 k∧s=.int .i64 N∧N≤100000 * k∧Hid (N=Ref.total (f.blocks.take k))) (fun _ b=>f.blocks.length-(intOf b).toNat)
 case atStart=>exact ⟨0,0,Nat.zero_le _,rfl,rfl,by omega,by show _=_;simp [Ref.total]⟩
 case round =>
  obtain ⟨k,N,hk,rfl,rfl,hN,hrest⟩:=hrel
  by_cases hlt:k<f.blocks.length
  ·obtain ⟨l,hl⟩:∃ l,f.blocks[k]?=some l:=⟨f.blocks[k],by simp [hlt]⟩
   obtain ⟨u,hu,hul⟩:=HC.out k l hl
   have hu':=(hB0.cell _ _ hbb).trans hu
   obtain ⟨Al,cl,rfl,p1,p2,p3⟩:=hul
   have hll:l.length≤100000:=hln.out l (List.mem_of_getElem? hl)
   have HL:Hid (Ref.total (f.blocks.take (k+1))=Ref.total (f.blocks.take k)+l.length):=by
    show _=_
    rw [Ref.total_take_succ _ _ _ hl]
   clear hl hu p3
   go_wp2
   go_round
   case rel=>exact ⟨k+1,N+l.length,by omega,by go_num,by go_num,by omega,by show _=_;rw [HL.out,hrest.out]⟩
   case measure=>simp [intOf];omega
  ·obtain rfl:k=f.blocks.length:=by omega
   have HN:Hid (N=Ref.total f.blocks):=by have:=hrest.out;rw [List.take_length] at this;exact this
   clear hrest
   by_cases h40:40<N
   ·have hV:Hid (Ref.validate f=3):=by show _=_;rw [hV0.out,if_pos (by rw [← HN.out];exact h40)]
    go_wp2
    go_ret
    exact ⟨ret_int (by rw [hV.out]),hB0⟩
   have hV1:Hid (Ref.validate f=if f.ret<0∨32<f.ret then 1 else if f.params.all Ref.isWidth=false then 1 else if f.slots.all Ref.isSlot=false then 1 else if f.blocks.all (fun l=>l.all (Ref.argument f))=false then 1 else if Ref.rules f=false then 7 else if f.blocks.all (fun l=>l.all (Ref.typed f))=false then 6 else if Ref.stated f=false then 9 else 0):=by
    show _=_;rw [hV0.out,if_neg (by rw [← HN.out];exact h40)]
   clear hV0
   by_cases hret:f.ret<0∨32<f.ret
   ·have hV:Hid (Ref.validate f=1):=by show _=_;rw [hV1.out,if_pos hret]
    go_wp2
    all_goals first | omega | (go_ret;exact ⟨ret_int (by rw [hV.out]),hB0⟩)
   have hV2:Hid (Ref.validate f=if f.params.all Ref.isWidth=false then 1 else if f.slots.all Ref.isSlot=false then 1 else if f.blocks.all (fun l=>l.all (Ref.argument f))=false then 1 else if Ref.rules f=false then 7 else if f.blocks.all (fun l=>l.all (Ref.typed f))=false then 6 else if Ref.stated f=false then 9 else 0):=by
    show _=_;rw [hV1.out,if_neg hret]
   have r1:0≤f.ret:=by omega
   have r2:f.ret≤32:=by omega
   clear hV1
   go_wp2
   go_loop [5] (fun b=>∃ k:Nat,k≤f.params.length∧b=.int .i64 k∧Hid (f.params.all Ref.isWidth=(f.params.drop k).all Ref.isWidth)) (fun b=>f.params.length-(intOf b).toNat)
   case atStart=>exact ⟨0,Nat.zero_le _,rfl,rfl⟩
   case round =>
    obtain ⟨k,hk,rfl,hrest⟩:=hrel
    rcases hr:f.params.drop k with _ | ⟨z,r⟩
    ·have hkn:=drop_nil hr hk
     have hV3:Hid (Ref.validate f=if f.slots.all Ref.isSlot=false then 1 else if f.blocks.all (fun l=>l.all (Ref.argument f))=false then 1 else if Ref.rules f=false then 7 else if f.blocks.all (fun l=>l.all (Ref.typed f))=false then 6 else if Ref.stated f=false then 9 else 0):=by
      show _=_;rw [hV2.out,if_neg (by rw [hrest.out,hr];simp)]
     subst hkn
     clear hr hrest hV2
     go_wp2
     go_loop [6] (fun b=>∃ k:Nat,k≤f.slots.length∧b=.int .i64 k∧Hid (f.slots.all Ref.isSlot=(f.slots.drop k).all Ref.isSlot)) (fun b=>f.slots.length-(intOf b).toNat)
     case atStart=>exact ⟨0,Nat.zero_le _,rfl,rfl⟩
     case round =>
      obtain ⟨k,hk,rfl,hrest⟩:=hrel
      rcases hr:f.slots.drop k with _ | ⟨z,r⟩
      ·have hkn:=drop_nil hr hk
       have hV4:Hid (Ref.validate f=if f.blocks.all (fun l=>l.all (Ref.argument f))=false then 1 else if Ref.rules f=false then 7 else if f.blocks.all (fun l=>l.all (Ref.typed f))=false then 6 else if Ref.stated f=false then 9 else 0):=by
        show _=_;rw [hV3.out,if_neg (by rw [hrest.out,hr];simp)]
       subst hkn
       clear hr hrest hV3
       go_wp2
       go_loopw [7,8] (fun b _ wr=>∃ k:Nat,k≤f.blocks.length∧b=.int .i64 k∧Gr W wr∧Hid (f.blocks.all (fun l=>l.all (Ref.argument f))=(f.blocks.drop k).all (fun l=>l.all (Ref.argument f)))) (fun b _ _=>f.blocks.length-(intOf b).toNat)
       case atStart=>exact ⟨0,Nat.zero_le _,rfl,Gr.refl _,rfl⟩
       case round =>
        obtain ⟨k,hk,rfl,hgr,hrest⟩:=hrel
        obtain ⟨wo,rfl⟩:∃ wo:World,wo=wr:=⟨_,rfl⟩
        have hgW:=(Gr.refl W).trans hgr
        obtain ⟨c0,c1,c2,c3⟩:=B0.out _ hgW
        clear k0 k1 k2 k3
        rcases hr:f.blocks.drop k with _ | ⟨l,r⟩
        ·have hkn:=drop_nil hr hk
         have HALL:Hid (f.blocks.all (fun l=>l.all (Ref.argument f))=true):=by show _=_;rw [hrest.out,hr];rfl
         subst hkn
         clear hr hrest
         have hV5:Hid (Ref.validate f=if Ref.rules f=false then 7 else if f.blocks.all (fun l=>l.all (Ref.typed f))=false then 6 else if Ref.stated f=false then 9 else 0):=by show _=_;rw [hV4.out,if_neg (by rw [HALL.out];simp)]
         have HARG:=Lib.hid (args_all HALL.out)
         obtain ⟨ru,hru⟩:∃ ru,Ref.rules f=ru:=⟨_,rfl⟩
         have HCR':=Lib.hid (HCR.out _ (hB0.trans hgW))
         have HRU:=Lib.hid hru
         rw [hru] at hV5 HCR'
         clear hru hV4 HALL
         cases ru with
         | false =>
          go_wp2_with (go_at_call 75;refine HCR'.out.mono ?_;rintro e w2 ⟨rfl,g20⟩)
          go_ret
          exact ⟨ret_int (by rw [hV5.out];simp),hB0.trans (hgW.trans g20)⟩
         | true =>
          have HNE:=Lib.hid (rules_ne HRU.out)
          have hV6:Hid (Ref.validate f=if f.blocks.all (fun l=>l.all (Ref.typed f))=false then 6 else if Ref.stated f=false then 9 else 0):=by show _=_;rw [hV5.out,if_neg (by simp)]
          have HCT':=Lib.hid (HCT.out HARG.out)
          clear hV5
          go_wp2_with (go_at_call 75;refine HCR'.out.mono ?_;rintro e w2 ⟨rfl,g20⟩)
          have hW2:Gr W w2:=hgW.trans g20
          obtain ⟨k0,k1,k2,k3⟩:=B0.out _ hW2
          clear c0 c1 c2 c3
          go_loopw [9,10] (fun b _ wr=>∃ k:Nat,k≤f.blocks.length∧b=.int .i64 k∧Gr w2 wr∧Hid (f.blocks.all (fun l=>l.all (Ref.typed f))=(f.blocks.drop k).all (fun l=>l.all (Ref.typed f)))) (fun b _ _=>f.blocks.length-(intOf b).toNat)
          case atStart=>exact ⟨0,Nat.zero_le _,rfl,Gr.refl _,rfl⟩
          case round =>
           obtain ⟨k,hk,rfl,hgr,hrest⟩:=hrel
           obtain ⟨wo,rfl⟩:∃ wo:World,wo=wr:=⟨_,rfl⟩
           have hgW:=hW2.trans hgr
           obtain ⟨c0,c1,c2,c3⟩:=B0.out _ hgW
           clear k0 k1 k2 k3
           rcases hr:f.blocks.drop k with _ | ⟨l,r⟩
           ·have hkn:=drop_nil hr hk
            have HALL:Hid (f.blocks.all (fun l=>l.all (Ref.typed f))=true):=by show _=_;rw [hrest.out,hr];rfl
            subst hkn
            clear hr hrest
            have hV7:Hid (Ref.validate f=if Ref.stated f=false then 9 else 0):=by show _=_;rw [hV6.out,if_neg (by rw [HALL.out];simp)]
            obtain ⟨st,hst⟩:∃ st,Ref.stated f=st:=⟨_,rfl⟩
            rw [hst] at hV7
            have HCS':=Lib.hid (HCS.out HARG.out HNE.out _ (hB0.trans hgW))
            rw [hst] at HCS'
            clear hst hV6
            cases st with
            | true =>
             go_wp2_with (go_at_call 77;refine HCS'.out.mono ?_;rintro e w3 ⟨rfl,g30⟩)
             go_ret
             exact ⟨ret_int (by rw [hV7.out];simp),hB0.trans (hgW.trans g30)⟩
            | false =>
             go_wp2_with (go_at_call 77;refine HCS'.out.mono ?_;rintro e w3 ⟨rfl,g30⟩)
             go_ret
             exact ⟨ret_int (by rw [hV7.out];simp),hB0.trans (hgW.trans g30)⟩
           ·obtain ⟨hlt,hl,hr'⟩:=drop_cons hr
            obtain ⟨u,hu,hul⟩:=HC.out k l hl
            have hu':=((hB0.trans hgW).cell _ _ hbb).trans hu
            obtain ⟨Al,cl,rfl,p1,p2,p3⟩:=hul
            have P3:=Lib.hid p3
            have HU:=Lib.hid hu
            have HL:Hid (l ∈ f.blocks):=List.mem_of_getElem? hl
            have HR:Hid (f.blocks.all (fun l=>l.all (Ref.typed f))=(l.all (Ref.typed f) && r.all (fun l=>l.all (Ref.typed f)))):=by show _=_;rw [hrest.out,hr];rfl
            have HR':Hid (f.blocks.drop (k+1)=r):=hr'
            clear hr hl hr' hrest hu p3
            go_wp2
            go_loopw [10] (fun i wr=>∃ j:Nat,j≤l.length∧i=.int .i64 j∧Gr w2 wr∧Hid (l.all (Ref.typed f)=(l.drop j).all (Ref.typed f))) (fun i _=>l.length-(intOf i).toNat)
            case atStart=>exact ⟨0,Nat.zero_le _,rfl,hgr,rfl⟩
            case round =>
             obtain ⟨j,hj,rfl,hgr2,hrest2⟩:=hrel
             obtain ⟨wp,rfl⟩:∃ wp:World,wp=wr:=⟨_,rfl⟩
             have hgX:=hW2.trans hgr2
             obtain ⟨d0,d1,d2,d3⟩:=B0.out _ hgX
             have hu2:=((hB0.trans hgX).cell _ _ hbb).trans HU.out
             clear c0 c1 c2 c3 hu'
             rcases hr2:l.drop j with _ | ⟨x,r2⟩
             ·have hjn:=drop_nil hr2 hj
              have HE:Hid (l.all (Ref.typed f)=true):=by show _=_;rw [hrest2.out,hr2];rfl
              subst hjn
              clear hr2 hrest2
              go_wp2
              go_roundw
              case rel=>exact ⟨k+1,by omega,by go_num,hgr2,by (show _=_;rw [HR.out,HR'.out,HE.out];simp)⟩
              case measure=>simp [intOf];omega
             ·obtain ⟨hlt2,hx,hr2'⟩:=drop_cons hr2
              obtain ⟨bl,ol,rfl,hbl,hcl⟩:=P3.out (by omega)
              obtain ⟨va,vt,i0,i1,i2,i3,i4,i5,hva,hvt⟩:=hcl j x hx
              have HR2:Hid (l.all (Ref.typed f)=(Ref.typed f x && r2.all (Ref.typed f))):=by show _=_;rw [hrest2.out,hr2];rfl
              have HR2':Hid (l.drop (j+1)=r2):=hr2'
              have gw:=hB0.trans hgX
              have HX:Hid (x ∈ l):=List.mem_of_getElem? hx
              have kp:Hid (∀ w',Gr wp w'→(w'.cell? ⟨w.heap.size,0,none⟩=some (.slice Ap f.params.length cp)∧w'.cell? ⟨w.heap.size,1,none⟩=some (.int .i64 f.ret)∧w'.cell? ⟨w.heap.size,2,none⟩=some (.slice As f.slots.length cs)∧w'.cell? ⟨w.heap.size,3,none⟩=some (.slice (some ⟨bb,ob,none⟩) f.blocks.length cb)∧w'.cell? ⟨bb,ob+k,none⟩=some (.slice (some ⟨bl,ol,none⟩) l.length cl)∧w'.cell? ⟨bl,ol+j * 6,none⟩=some (.int .i64 x.op)∧w'.cell? ⟨bl,ol+j * 6+1,none⟩=some (.int .i64 x.width)∧w'.cell? ⟨bl,ol+j * 6+2,none⟩=some (.int .i64 x.flags)∧w'.cell? ⟨bl,ol+j * 6+3,none⟩=some va∧w'.cell? ⟨bl,ol+j * 6+4,none⟩=some (.int .u32 x.imm)∧w'.cell? ⟨bl,ol+j * 6+5,none⟩=some vt)):=fun w' q=>⟨(B0.out w' (hgX.trans q)).1,(B0.out w' (hgX.trans q)).2.1,(B0.out w' (hgX.trans q)).2.2.1,(B0.out w' (hgX.trans q)).2.2.2,((gw.trans q).cell _ _ hbb).trans HU.out,((gw.trans q).cell bl (ol+j * 6) hbl).trans i0,((gw.trans q).cell bl (ol+j * 6+1) hbl).trans i1,((gw.trans q).cell bl (ol+j * 6+2) hbl).trans i2,((gw.trans q).cell bl (ol+j * 6+3) hbl).trans i3,((gw.trans q).cell bl (ol+j * 6+4) hbl).trans i4,((gw.trans q).cell bl (ol+j * 6+5) hbl).trans i5⟩
              have HCX:Hid (∀ w1,Gr wp w1→Calls Tryz.prog 76 #[.agg #[.slice Ap f.params.length cp,.int .i64 f.ret,.slice As f.slots.length cs,.slice (some ⟨bb,ob,none⟩) f.blocks.length cb],.agg #[.int .i64 x.op,.int .i64 x.width,.int .i64 x.flags,va,.int .u32 x.imm,vt]] w1 fun e w'=>e=.returned (.bool (Ref.typed f x))∧Gr w1 w') :=
               fun w1 q=>HCT'.out l HL.out x HX.out w1 _ (gw.trans q) ⟨va,vt,rfl,hva.gr (gw.trans q),hvt.gr (gw.trans q)⟩
              obtain ⟨th,hth⟩:∃ th,Ref.typed f x=th:=⟨_,rfl⟩
              rw [hth] at HCX HR2
              obtain ⟨-,-,-,-,-,e0,e1,e2,e3,e4,e5⟩:=kp.out _ (Gr.refl wp)
              clear hr2 hx hr2' hrest2 hcl hth i0 i1 i2 i3 i4 i5 hva hvt
              go_wp2
              go_region_held3 (fun w'=>w'.cell? ⟨w.heap.size,0,none⟩=some (.slice Ap f.params.length cp)∧w'.cell? ⟨w.heap.size,1,none⟩=some (.int .i64 f.ret)∧w'.cell? ⟨w.heap.size,2,none⟩=some (.slice As f.slots.length cs)∧w'.cell? ⟨w.heap.size,3,none⟩=some (.slice (some ⟨bb,ob,none⟩) f.blocks.length cb)∧w'.cell? ⟨bb,ob+k,none⟩=some (.slice (some ⟨bl,ol,none⟩) l.length cl)∧w'.cell? ⟨bl,ol+j * 6,none⟩=some (.int .i64 x.op)∧w'.cell? ⟨bl,ol+j * 6+1,none⟩=some (.int .i64 x.width)∧w'.cell? ⟨bl,ol+j * 6+2,none⟩=some (.int .i64 x.flags)∧w'.cell? ⟨bl,ol+j * 6+3,none⟩=some va∧w'.cell? ⟨bl,ol+j * 6+4,none⟩=some (.int .u32 x.imm)∧w'.cell? ⟨bl,ol+j * 6+5,none⟩=some vt) (first | exact kp.out _ (Gr.refl wp).drew | exact kp.out _ g3) (first | (go_at_call 76;refine (HCX.out _ (Gr.refl wp).drew).mono ?_;rintro e w3 ⟨rfl,g30⟩;have g3:Gr wp w3:=(Gr.refl wp).drew.trans g30))
              cases th with
              | true =>
               go_wp2
               go_roundw
               case rel=>exact ⟨j+1,by omega,by go_num,hgr2.trans g3,by (show _=_;rw [HR2.out,HR2'.out];simp)⟩
               case measure=>simp [intOf];omega
              | false =>
               have hV:Hid (Ref.validate f=6):=by show _=_;rw [hV6.out,if_pos (by rw [HR.out,HR2.out];simp)]
               go_wp2
               go_ret
               exact ⟨ret_int (by rw [hV.out]),hB0.trans (hgX.trans g3)⟩
        ·obtain ⟨hlt,hl,hr'⟩:=drop_cons hr
         obtain ⟨u,hu,hul⟩:=HC.out k l hl
         have hu':=((hB0.trans hgW).cell _ _ hbb).trans hu
         obtain ⟨Al,cl,rfl,p1,p2,p3⟩:=hul
         have P3:=Lib.hid p3
         have HU:=Lib.hid hu
         have HL:Hid (l ∈ f.blocks):=List.mem_of_getElem? hl
         have HR:Hid (f.blocks.all (fun l=>l.all (Ref.argument f))=(l.all (Ref.argument f) && r.all (fun l=>l.all (Ref.argument f)))):=by show _=_;rw [hrest.out,hr];rfl
         have HR':Hid (f.blocks.drop (k+1)=r):=hr'
         clear hr hl hr' hrest hu p3
         go_wp2
         go_loopw [8] (fun i wr=>∃ j:Nat,j≤l.length∧i=.int .i64 j∧Gr W wr∧Hid (l.all (Ref.argument f)=(l.drop j).all (Ref.argument f))) (fun i _=>l.length-(intOf i).toNat)
         case atStart=>exact ⟨0,Nat.zero_le _,rfl,hgr,rfl⟩
         case round =>
          obtain ⟨j,hj,rfl,hgr2,hrest2⟩:=hrel
          obtain ⟨wp,rfl⟩:∃ wp:World,wp=wr:=⟨_,rfl⟩
          have hgX:=(Gr.refl W).trans hgr2
          obtain ⟨d0,d1,d2,d3⟩:=B0.out _ hgX
          have hu2:=((hB0.trans hgX).cell _ _ hbb).trans HU.out
          clear c0 c1 c2 c3 hu'
          rcases hr2:l.drop j with _ | ⟨x,r2⟩
          ·have hjn:=drop_nil hr2 hj
           have HE:Hid (l.all (Ref.argument f)=true):=by show _=_;rw [hrest2.out,hr2];rfl
           subst hjn
           clear hr2 hrest2
           go_wp2
           go_roundw
           case rel=>exact ⟨k+1,by omega,by go_num,hgr2,by (show _=_;rw [HR.out,HR'.out,HE.out];simp)⟩
           case measure=>simp [intOf];omega
          ·obtain ⟨hlt2,hx,hr2'⟩:=drop_cons hr2
           obtain ⟨bl,ol,rfl,hbl,hcl⟩:=P3.out (by omega)
           obtain ⟨va,vt,i0,i1,i2,i3,i4,i5,hva,hvt⟩:=hcl j x hx
           have HR2:Hid (l.all (Ref.argument f)=(Ref.argument f x && r2.all (Ref.argument f))):=by show _=_;rw [hrest2.out,hr2];rfl
           have HR2':Hid (l.drop (j+1)=r2):=hr2'
           have gw:=hB0.trans hgX
           have HX:Hid (x ∈ l):=List.mem_of_getElem? hx
           have kp:Hid (∀ w',Gr wp w'→(w'.cell? ⟨w.heap.size,0,none⟩=some (.slice Ap f.params.length cp)∧w'.cell? ⟨w.heap.size,1,none⟩=some (.int .i64 f.ret)∧w'.cell? ⟨w.heap.size,2,none⟩=some (.slice As f.slots.length cs)∧w'.cell? ⟨w.heap.size,3,none⟩=some (.slice (some ⟨bb,ob,none⟩) f.blocks.length cb)∧w'.cell? ⟨bb,ob+k,none⟩=some (.slice (some ⟨bl,ol,none⟩) l.length cl)∧w'.cell? ⟨bl,ol+j * 6,none⟩=some (.int .i64 x.op)∧w'.cell? ⟨bl,ol+j * 6+1,none⟩=some (.int .i64 x.width)∧w'.cell? ⟨bl,ol+j * 6+2,none⟩=some (.int .i64 x.flags)∧w'.cell? ⟨bl,ol+j * 6+3,none⟩=some va∧w'.cell? ⟨bl,ol+j * 6+4,none⟩=some (.int .u32 x.imm)∧w'.cell? ⟨bl,ol+j * 6+5,none⟩=some vt)):=fun w' q=>⟨(B0.out w' (hgX.trans q)).1,(B0.out w' (hgX.trans q)).2.1,(B0.out w' (hgX.trans q)).2.2.1,(B0.out w' (hgX.trans q)).2.2.2,((gw.trans q).cell _ _ hbb).trans HU.out,((gw.trans q).cell bl (ol+j * 6) hbl).trans i0,((gw.trans q).cell bl (ol+j * 6+1) hbl).trans i1,((gw.trans q).cell bl (ol+j * 6+2) hbl).trans i2,((gw.trans q).cell bl (ol+j * 6+3) hbl).trans i3,((gw.trans q).cell bl (ol+j * 6+4) hbl).trans i4,((gw.trans q).cell bl (ol+j * 6+5) hbl).trans i5⟩
           have HCX:Hid (∀ w1,Gr wp w1→Calls Tryz.prog 74 #[.agg #[.slice Ap f.params.length cp,.int .i64 f.ret,.slice As f.slots.length cs,.slice (some ⟨bb,ob,none⟩) f.blocks.length cb],.agg #[.int .i64 x.op,.int .i64 x.width,.int .i64 x.flags,va,.int .u32 x.imm,vt]] w1 fun e w'=>e=.returned (.bool (Ref.argument f x))∧Gr w1 w') :=
            fun w1 q=>HCA.out l HL.out x HX.out w1 _ (gw.trans q) ⟨va,vt,rfl,hva.gr (gw.trans q),hvt.gr (gw.trans q)⟩
           obtain ⟨th,hth⟩:∃ th,Ref.argument f x=th:=⟨_,rfl⟩
           rw [hth] at HCX HR2
           obtain ⟨-,-,-,-,-,e0,e1,e2,e3,e4,e5⟩:=kp.out _ (Gr.refl wp)
           clear hr2 hx hr2' hrest2 hcl hth i0 i1 i2 i3 i4 i5 hva hvt
           go_wp2
           go_region_held3 (fun w'=>w'.cell? ⟨w.heap.size,0,none⟩=some (.slice Ap f.params.length cp)∧w'.cell? ⟨w.heap.size,1,none⟩=some (.int .i64 f.ret)∧w'.cell? ⟨w.heap.size,2,none⟩=some (.slice As f.slots.length cs)∧w'.cell? ⟨w.heap.size,3,none⟩=some (.slice (some ⟨bb,ob,none⟩) f.blocks.length cb)∧w'.cell? ⟨bb,ob+k,none⟩=some (.slice (some ⟨bl,ol,none⟩) l.length cl)∧w'.cell? ⟨bl,ol+j * 6,none⟩=some (.int .i64 x.op)∧w'.cell? ⟨bl,ol+j * 6+1,none⟩=some (.int .i64 x.width)∧w'.cell? ⟨bl,ol+j * 6+2,none⟩=some (.int .i64 x.flags)∧w'.cell? ⟨bl,ol+j * 6+3,none⟩=some va∧w'.cell? ⟨bl,ol+j * 6+4,none⟩=some (.int .u32 x.imm)∧w'.cell? ⟨bl,ol+j * 6+5,none⟩=some vt) (first | exact kp.out _ (Gr.refl wp).drew | exact kp.out _ g3) (first | (go_at_call 74;refine (HCX.out _ (Gr.refl wp).drew).mono ?_;rintro e w3 ⟨rfl,g30⟩;have g3:Gr wp w3:=(Gr.refl wp).drew.trans g30))
           cases th with
           | true =>
            go_wp2
            go_roundw
            case rel=>exact ⟨j+1,by omega,by go_num,hgr2.trans g3,by (show _=_;rw [HR2.out,HR2'.out];simp)⟩
            case measure=>simp [intOf];omega
           | false =>
            have hV:Hid (Ref.validate f=1):=by show _=_;rw [hV4.out,if_pos (by rw [HR.out,HR2.out];simp)]
            go_wp2
            go_ret
            exact ⟨ret_int (by rw [hV.out]),hB0.trans (hgX.trans g3)⟩
      ·obtain ⟨hlt2,hz,hr'⟩:=drop_cons hr
       obtain ⟨bs,os,rfl,hbs,hcs⟩:=HSC.out (by omega)
       have hz':=(hB0.cell _ _ hbs).trans (hcs k z hz)
       have HR:Hid (f.slots.all Ref.isSlot=(Ref.isSlot z && r.all Ref.isSlot)):=by show _=_;rw [hrest.out,hr];rfl
       have HR':Hid (f.slots.drop (k+1)=r):=hr'
       clear hr hz hr' hrest hcs HSC
       by_cases hzz:1≤z∧z≤8
       ·have e1:1≤z:=hzz.1
        have e2:z≤8:=hzz.2
        have HI:Hid (Ref.isSlot z=true):=by show _=_;simp [Ref.isSlot,e1,e2]
        clear hzz
        go_wp2
        go_round
        case rel=>exact ⟨k+1,by omega,by go_num,by (show _=_;rw [HR.out,HR'.out,HI.out];simp)⟩
        case measure=>simp [intOf];omega
       ·have HI:Hid (Ref.isSlot z=false):=by show _=_;simp [Ref.isSlot];omega
        have hV:Hid (Ref.validate f=1):=by show _=_;rw [hV3.out,if_pos (by rw [HR.out,HI.out];simp)]
        go_wp2
        all_goals first | omega | (go_ret;exact ⟨ret_int (by rw [hV.out]),hB0⟩)
    ·obtain ⟨hlt2,hz,hr'⟩:=drop_cons hr
     obtain ⟨bp,op,rfl,hbp,hcp⟩:=HPC.out (by omega)
     have hz':=(hB0.cell _ _ hbp).trans (hcp k z hz)
     have HR:Hid (f.params.all Ref.isWidth=(Ref.isWidth z && r.all Ref.isWidth)):=by show _=_;rw [hrest.out,hr];rfl
     have HR':Hid (f.params.drop (k+1)=r):=hr'
     clear hr hz hr' hrest hcp HPC
     obtain ⟨iw,hiw⟩:∃ iw,Ref.isWidth z=iw:=⟨_,rfl⟩
     have C:=isWidth_any z W
     rw [hiw] at HR C
     have HCW:=Lib.hid C
     clear C hiw
     cases iw with
     | true =>
      go_wp2_with (go_at_call 73;refine HCW.out.mono ?_;rintro e w1 ⟨rfl,rfl⟩)
      go_round
      case rel=>exact ⟨k+1,by omega,by go_num,by (show _=_;rw [HR.out,HR'.out];simp)⟩
      case measure=>simp [intOf];omega
     | false =>
      have hV:Hid (Ref.validate f=1):=by show _=_;rw [hV2.out,if_pos (by rw [HR.out];simp)]
      go_wp2_with (go_at_call 73;refine HCW.out.mono ?_;rintro e w1 ⟨rfl,rfl⟩)
      go_ret
      exact ⟨ret_int (by rw [hV.out]),hB0⟩
end Go.Proofs.YthfhamagopbgcaaGreat

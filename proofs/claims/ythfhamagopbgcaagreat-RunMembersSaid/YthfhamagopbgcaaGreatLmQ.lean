/- The law backstaylaw05.RunMembers returns true at every input, and the input reads as it did. -/
import Derived.Test.YthfhamagopbgcaaGreatG46
import Derived.Test.YthfhamagopbgcaaGreatG45
import Derived.Test.YthfhamagopbgcaaGreatSpQ
namespace Go.Proofs.YthfhamagopbgcaaGreat
set_option linter.unusedSimpArgs false
set_option linter.unusedVariables false
open Go.RowKit Go.Shelf

theorem wide_args' {i:Rn.Inp} (h:wideI i=false):i.args.length≤20∧i.mem.length≤20:=by
 unfold wideI at h
 simp only [Bool.or_eq_false_iff,decide_eq_false_iff_not] at h
 omega
theorem U32At.gr' {w w':World} {v:Value} {zs:List Int} (h:U32At w.heap.size w v zs) (g:Gr w w'):U32At w'.heap.size w' v zs:=SlAt.mono (u32_below h g) g.size
def isIn (X:Rn.Out) (l:List Rn.Out):Bool:=l.any fun o=>decide (o=X)
theorem isIn_step {X:Rn.Out} {l:List Rn.Out} {k:Nat} {y:Rn.Out} (h:l[k]?=some y):isIn X (l.take (k+1))=(isIn X (l.take k) || decide (Rn.cmpOut y X=0)):=by
 unfold isIn
 rw [List.take_add_one,h]
 simp [Rn.isCmp_out.zero]
theorem asc_next {l:List Rn.Out} (h:Rn.Asc l) {k:Nat} {x y:Rn.Out} (h1:l[k]?=some x) (h2:l[k+1]?=some y):Rn.cmpOut x y<0:=by
 obtain ⟨l1,e1⟩:=List.getElem?_eq_some_iff.1 h1
 obtain ⟨l2,e2⟩:=List.getElem?_eq_some_iff.1 h2
 have:=List.pairwise_iff_getElem.1 h k (k+1) l1 l2 (by omega)
 rw [e1,e2] at this
 omega
set_option maxRecDepth 100000 in
set_option maxHeartbeats 16000000 in
theorem lawMembers_any {w:World} {f:Fn} {vf:Value} (hfn:FnAt w.heap.size w vf f) (hn:longFn f=false→Nice f) (him:Rn.Im f) {i:Rn.Inp} {va vm:Value} (ha:ArgsAt w va i.args) (hm:TabAt w.heap.size w vm i.mem)
  {vpk:Value} {picks:List Int} (hpk:ArgsAt w vpk picks) :
  Calls Tryz.prog 5 #[vf,.agg #[va,vm],vpk] w fun e w'=>e=.returned (.bool true)∧Gr w w':=by
 have CL:Hid (∀ w1,Gr w w1→Calls Tryz.prog 11 #[vf,.agg #[va,vm]] w1 fun e w'=>e=.returned (.bool (longFn f || wideI i))∧Gr w1 w'):=fun w1 g=>long5_any (hfn.gr g) ha.len (hm.gr g)
 have HKN:Hid (∀ w1,Calls Tryz.prog 12 #[] w1 fun e w'=>e=.returned (.bool true)∧Gr w1 w'):=known5_any
 have C1:Hid ((longFn f || wideI i)=false→∀ w1,Gr w w1→Calls Tryz.prog 20 #[vf,.agg #[va,vm]] w1 fun e w'=>AllP f i (w1.heap.size+2) e w'∧Gr w1 w'):=fun h w1 g=>by
  rw [Bool.or_eq_false_iff] at h
  exact all_any (hfn.gr g) (hn h.1) him (U32At.gr' (ha.at_ (by have:=wide_args' h.2;omega)) g) (hm.gr g) (fun z hz=>(ha.words z hz).1)
 have C2:Hid ((longFn f || wideI i)=false→picks.length≤1000→∀ w1,Gr w w1→Calls Tryz.prog 16 #[vf,.agg #[va,vm],vpk] w1 fun e w'=>RunR f i picks w1.heap.size e w'∧Gr w1 w'):=fun h hl w1 g=>by
  rw [Bool.or_eq_false_iff] at h
  exact run_any (hfn.gr g) (hn h.1) him (U32At.gr' (ha.at_ (by have:=wide_args' h.2;omega)) g) (hm.gr g) (fun z hz=>(ha.words z hz).1) (U32At.gr' (hpk.at_ hl) g) hpk.words
 obtain ⟨Aa,ca,rfl,-⟩:=id ha.len
 obtain ⟨Ak,ck,rfl,pk1,pk2⟩:=id hpk.len
 obtain ⟨Am,cm,rfl,-⟩:=id hm
 obtain ⟨vp,vs,vb,rfl,hp,hsl,hb⟩:=hfn
 obtain ⟨Ap,cp,rfl,-⟩:=hp
 obtain ⟨As,cs,rfl,-⟩:=hsl
 obtain ⟨Ab,cb,rfl,-⟩:=hb
 obtain ⟨W,hW⟩:∃ W,(w.alloc (.cells #[.slice Ap f.params.length cp,.int .i64 f.ret,.slice As f.slots.length cs,.slice Ab f.blocks.length cb] 25)).alloc (.cells #[.slice Aa i.args.length ca,.slice Am i.mem.length cm] 29)=W:=⟨_,rfl⟩
 have g0:Gr w W:=by rw [← hW];exact ((Gr.refl w).alloc _).alloc _
 have hs1:(w.alloc (.cells #[.slice Ap f.params.length cp,.int .i64 f.ret,.slice As f.slots.length cs,.slice Ab f.blocks.length cb] 25)).heap.size=w.heap.size+1:=by simp
 have hfb:W.heap[w.heap.size]?=some (.cells #[.slice Ap f.params.length cp,.int .i64 f.ret,.slice As f.slots.length cs,.slice Ab f.blocks.length cb] 25 (0,0)):=by
  rw [← hW]
  exact (((Gr.refl (w.alloc (.cells #[.slice Ap f.params.length cp,.int .i64 f.ret,.slice As f.slots.length cs,.slice Ab f.blocks.length cb] 25))).alloc _).heap _ (by simp)).trans (heap_alloc_new w _)
 have hib:W.heap[w.heap.size+1]?=some (.cells #[.slice Aa i.args.length ca,.slice Am i.mem.length cm] 29 (0,0)):=by rw [← hW,← hs1];exact heap_alloc_new _ _
 have KC:Hid (∀ wr,Gr W wr→wr.cell? ⟨w.heap.size,0,none⟩=some (.slice Ap f.params.length cp)∧wr.cell? ⟨w.heap.size,1,none⟩=some (.int .i64 f.ret)∧wr.cell? ⟨w.heap.size,2,none⟩=some (.slice As f.slots.length cs)∧wr.cell? ⟨w.heap.size,3,none⟩=some (.slice Ab f.blocks.length cb)∧wr.cell? ⟨w.heap.size+1,0,none⟩=some (.slice Aa i.args.length ca)∧wr.cell? ⟨w.heap.size+1,1,none⟩=some (.slice Am i.mem.length cm)):=fun wr g=>by
  have r1:=(g.heap _ (lt_of_heap hfb)).trans hfb
  have r2:=(g.heap _ (lt_of_heap hib)).trans hib
  exact ⟨cell_of_row _ _ 0 _ _ _ r1,cell_of_row _ _ 1 _ _ _ r1,cell_of_row _ _ 2 _ _ _ r1,cell_of_row _ _ 3 _ _ _ r1,cell_of_row _ _ 0 _ _ _ r2,cell_of_row _ _ 1 _ _ _ r2⟩
 obtain ⟨k0,k1,k2,k3,k4,k5⟩:=KC.out W (Gr.refl _)
 have HG:=Lib.hid g0
 obtain ⟨lg,hlg⟩:∃ lg,(longFn f || wideI i)=lg:=⟨_,rfl⟩
 rw [hlg] at CL C1 C2
 clear hlg hn ha hm g0 hfb hib hs1 hpk pk1
 cases lg with
 | true =>
  go_enter Tryz.func5, Tryz.ntmps5
  go_wp2_with (first
    | (go_at_call 11;(with_reducible refine (CL.out _ HG.out).mono ?_);rintro e w1 ⟨rfl,g1⟩;have G1:Hid (Gr w w1):=HG.out.trans g1;clear g1)
    | (go_at_call 12;(with_reducible refine (HKN.out _).mono ?_);rintro e w2 ⟨rfl,g2⟩))
  go_ret
  exact ⟨rfl,G1.out.trans g2⟩
 | false =>
  by_cases hpl:picks.length≤1000
  ·have hpl2:¬ (1000:Int)<(picks.length:Int):=by omega
   have I1:=Lib.hid (C1.out rfl)
   have I2:=Lib.hid (C2.out rfl hpl)
   clear C1 C2
   by_cases hv0:Rn.validInput f i=0
   ·cases hall:Rn.all f i with
    | none =>
     have J1:Hid (∀ w1,Gr w w1→Calls Tryz.prog 20 #[.agg #[.slice Ap f.params.length cp,.int .i64 f.ret,.slice As f.slots.length cs,.slice Ab f.blocks.length cb],.agg #[.slice Aa i.args.length ca,.slice Am i.mem.length cm]] w1 fun e w'=>e=.returned (.tuple #[.slice none 0 0,.int .i64 3])∧Gr w1 w'):=fun w1 g=>(I1.out w1 g).mono fun e w' ⟨h,g'⟩=>by
      rcases h with ⟨h,-⟩ | ⟨-,-,h⟩ | ⟨-,outs,h,-⟩
      ·exact absurd hv0 h
      ·exact ⟨h,g'⟩
      ·rw [hall] at h;cases h
     have J2:Hid (∀ w1,Gr w w1→Calls Tryz.prog 16 #[.agg #[.slice Ap f.params.length cp,.int .i64 f.ret,.slice As f.slots.length cs,.slice Ab f.blocks.length cb],.agg #[.slice Aa i.args.length ca,.slice Am i.mem.length cm],.slice Ak picks.length ck] w1 fun e w'=>∃ (X:Rn.Out) (A:Option Addr) (c:Nat) (NW:Nat),e=.returned (.tuple #[.agg #[.int .i64 X.kind,.bool X.ret.p,.int .i64 X.ret.s,.int .u32 X.ret.n,.slice A X.mem.length c],.int .i64 NW,.int .i64 0])∧Gr w1 w'):=fun w1 g=>(I2.out w1 g).mono fun e w' ⟨h,g'⟩=>by
      rcases h with ⟨h,-⟩ | ⟨-,vx,D,rfl,hk,-⟩
      ·exact absurd hv0 h
      ·obtain ⟨-,⟨A,c,rfl⟩,-⟩:=hk
       exact ⟨_,A,c,_,rfl,g'⟩
     clear I1 I2 hall hv0
     go_enter Tryz.func5, Tryz.ntmps5
     go_wp2_with (first
       | (go_at_call 11;(with_reducible refine (CL.out _ HG.out).mono ?_);rintro e w1 ⟨rfl,g1⟩;have G1:Hid (Gr W w1):=g1;clear g1;obtain ⟨l0,l1,l2,l3,l4,l5⟩:=KC.out w1 G1.out)
       | (go_at_call 20;(with_reducible refine (J1.out _ (HG.out.trans G1.out)).mono ?_);rintro e w2 ⟨rfl,g2⟩;have G2:Hid (Gr W w2):=G1.out.trans g2;clear g2;obtain ⟨m0,m1,m2,m3,m4,m5⟩:=KC.out w2 G2.out)
       | (go_at_call 16;(with_reducible refine (J2.out _ (HG.out.trans G2.out)).mono ?_);rintro e w3 ⟨X,A3,c3,NW,rfl,g3⟩;have G3:Hid (Gr W w3):=G2.out.trans g3;clear g3)
       | (go_at_call 12;(with_reducible refine (HKN.out _).mono ?_);rintro e w4 ⟨rfl,g4⟩))
     go_ret
     exact ⟨rfl,(HG.out.trans (G3.out.alloc _)).trans g4⟩
    | some outs =>
     have hX:=Rn.members hall picks
     obtain ⟨X,hXe⟩:∃ X,(Rn.run f (Rn.given picks) i).1=X:=⟨_,rfl⟩
     rw [hXe] at hX
     have J1:Hid (∀ w1,Gr w w1→Calls Tryz.prog 20 #[.agg #[.slice Ap f.params.length cp,.int .i64 f.ret,.slice As f.slots.length cs,.slice Ab f.blocks.length cb],.agg #[.slice Aa i.args.length ca,.slice Am i.mem.length cm]] w1 fun e w'=>∃ (A:Option Addr) (c B:Nat) (D:Nat→Prop) (vms:List Value),e=.returned (.tuple #[.slice A outs.length c,.int .i64 0])∧OutsAt D B w' (.slice A outs.length c) outs vms∧Gr w1 w'):=fun w1 g=>(I1.out w1 g).mono fun e w' ⟨h,g'⟩=>by
      rcases h with ⟨h,-⟩ | ⟨-,h,-⟩ | ⟨-,outs',h,-,-,v,D,vms,rfl,ho⟩
      ·exact absurd hv0 h
      ·rw [hall] at h;cases h
      ·rw [hall] at h
       injection h with h
       subst h
       obtain ⟨A,c,rfl,-⟩:=own_form ho.own
       exact ⟨A,c,_,D,vms,rfl,ho,g'⟩
     have J2:Hid (∀ w1,Gr w w1→Calls Tryz.prog 16 #[.agg #[.slice Ap f.params.length cp,.int .i64 f.ret,.slice As f.slots.length cs,.slice Ab f.blocks.length cb],.agg #[.slice Aa i.args.length ca,.slice Am i.mem.length cm],.slice Ak picks.length ck] w1 fun e w'=>∃ (A:Option Addr) (c:Nat) (NW:Nat) (D:Nat→Prop),e=.returned (.tuple #[.agg #[.int .i64 X.kind,.bool X.ret.p,.int .i64 X.ret.s,.int .u32 X.ret.n,.slice A X.mem.length c],.int .i64 NW,.int .i64 0])∧Keeps D w' (.slice A X.mem.length c) X.mem∧Gr w1 w'):=fun w1 g=>(I2.out w1 g).mono fun e w' ⟨h,g'⟩=>by
      rcases h with ⟨h,-⟩ | ⟨-,vx,D,rfl,hk,-⟩
      ·exact absurd hv0 h
      ·rw [hXe] at hk ⊢
       have hk':=hk
       obtain ⟨-,⟨A,c,rfl⟩,-⟩:=hk'
       exact ⟨A,c,_,D,rfl,hk,g'⟩
     have HASC:Hid (Rn.Asc outs∧outs.length≤256):=by
      obtain ⟨h1,h2⟩:=Rn.all_asc hall
      exact ⟨h1,h2⟩
     have HXI:Hid (isIn X outs=true):=by show _=_;unfold isIn;rw [List.any_eq_true];exact ⟨X,hX,by simp⟩
     have hn1:1≤outs.length:=List.length_pos_of_mem hX
     have hn2:outs.length≤256:=HASC.out.2
     clear I1 I2 hall hv0 hX hXe
     go_enter Tryz.func5, Tryz.ntmps5
     go_wp2_with (first
       | (go_at_call 11;(with_reducible refine (CL.out _ HG.out).mono ?_);rintro e w1 ⟨rfl,g1⟩;have G1:Hid (Gr W w1):=g1;clear g1;obtain ⟨l0,l1,l2,l3,l4,l5⟩:=KC.out w1 G1.out)
       | (go_at_call 20;(with_reducible refine (J1.out _ (HG.out.trans G1.out)).mono ?_);rintro e w2 ⟨A2,c2,B2,D2,vms,rfl,ho,g2⟩;have G2:Hid (Gr W w2):=G1.out.trans g2;have HO2:=Lib.hid ho;clear g2 ho;obtain ⟨m0,m1,m2,m3,m4,m5⟩:=KC.out w2 G2.out)
       | (go_at_call 16;(with_reducible refine (J2.out _ (HG.out.trans G2.out)).mono ?_);rintro e w3 ⟨A3,c3,NW,D3,rfl,hk3,g3⟩;have G3:Hid (Gr W w3):=G2.out.trans g3;have HO3:Hid (OutsAt D2 B2 w3 (.slice A2 outs.length c2) outs vms):=HO2.out.frs (FrS.of_gr (S:=fun _=>False) g3) (fun _ _ q=>q) (fun _ _ q=>q);have HK3:=Lib.hid hk3;clear g3 hk3))
     obtain ⟨W6,hW6⟩:∃ W6,w3.alloc (.cells #[.int .i64 X.kind,.bool X.ret.p,.int .i64 X.ret.s,.int .u32 X.ret.n,.slice A3 X.mem.length c3] 39)=W6:=⟨_,rfl⟩
     rw [hW6]
     have G6:Hid (Gr w3 W6):=by show Gr _ _;rw [← hW6];exact (Gr.refl w3).alloc _
     have BX:Hid (∀ u,Gr W6 u→_):=fun u gu=>obox_cells (w:=w3) (o:=X) (vm:=.slice A3 X.mem.length c3) (w':=u) (by show Gr (w3.alloc _) u;rw [hW6];exact gu)
     have HEL:Hid (∀ wr,Gr W6 wr→∀ (j:Nat) y,outs[j]?=some y→∃ b vy,A2=some ⟨b,0,none⟩∧(∃ Ay cy,vy=.slice Ay y.mem.length cy)∧(∀ u:GrW wr,u.val.cell? ⟨b,j * 5,none⟩=some (.int .i64 y.kind)∧u.val.cell? ⟨b,j * 5+1,none⟩=some (.bool y.ret.p)∧u.val.cell? ⟨b,j * 5+2,none⟩=some (.int .i64 y.ret.s)∧u.val.cell? ⟨b,j * 5+3,none⟩=some (.int .u32 y.ret.n)∧u.val.cell? ⟨b,j * 5+4,none⟩=some vy) ∧
         ∀ u:GrW wr,TabAt u.val.heap.size u.val vy y.mem):=fun wr g j y hy=>by
      have hj:=(List.getElem?_eq_some_iff.1 hy).1
      obtain ⟨b,e,hbw,-,hcell⟩:=own_cells HO3.out.own rfl (by omega)
      obtain ⟨vy,hvy⟩:∃ vy,vms[j]?=some vy:=⟨_,List.getElem?_eq_getElem (by rw [HO3.out.len];exact hj)⟩
      have hk:=HO3.out.at_ j y vy hy hvy
      refine ⟨b,vy,e,?_,fun u=>?_,fun u=>?_⟩
      ·obtain ⟨-,⟨Ay,cy,e2⟩,-⟩:=hk
       exact ⟨Ay,cy,e2⟩
      ·have gg:Gr w3 u.val:=(G6.out.trans g).trans u.gr
       have q:=fun t (ht:t<5)=>(gg.cell b (j * 5+t) hbw).trans ((hcell (j * 5+t) (by omega)).trans (flatC_get outs vms j t y vy hy hvy ht))
       exact ⟨q 0 (by decide),q 1 (by decide),q 2 (by decide),q 3 (by decide),q 4 (by decide)⟩
      ·exact (hk.gr ((G6.out.trans g).trans u.gr)).tab
     have HXT:Hid (∀ wr,Gr W6 wr→TabAt wr.heap.size wr (.slice A3 X.mem.length c3) X.mem):=fun wr g=>(HK3.out.gr (G6.out.trans g)).tab
     clear hW6 hW
     obtain ⟨n,hnn⟩:∃ n,outs.length=n:=⟨_,rfl⟩
     have HN:=Lib.hid hnn
     rw [hnn] at hn1 hn2
     rw [hnn]
     clear hnn HO2 HO3 l0 l1 l2 l3 l4 l5 m0 m1 m2 m3 m4 m5 k0 k1 k2 k3 k4 k5
     go_wp2
     go_loopw [12,13] (fun s12 s13 wr=>∃ k:Nat,k≤n∧s13=.int .i64 (k:Int)∧(∃ fb:Bool,s12=.bool fb∧Hid (fb=isIn X (outs.take k)))∧Hid (Gr W6 wr)) (fun _ s13 _=>n-(intOf s13).toNat)
     case atStart=>exact ⟨0,Nat.zero_le _,rfl,⟨false,rfl,rfl⟩,Gr.refl _⟩
     case round =>
      obtain ⟨k,hk,rfl,⟨fb,rfl,hfb⟩,hg⟩:=hrel
      by_cases hlt:k<n
      ·obtain ⟨y,hy⟩:∃ y,outs[k]?=some y:=⟨_,List.getElem?_eq_getElem (by have:=HN.out;omega)⟩
       obtain ⟨b,vy,rfl,⟨Ay,cy,rfl⟩,hcel,htab⟩:=HEL.out wr hg.out k y hy
       have CS:=Lib.hid fun (u:GrW wr)=>osame_any (w:=u.val) (a:=y) (b:=X) (htab u) (HXT.out u.val (hg.out.trans u.gr)) (Nat.le_refl _)
       have HSTEP:Hid (isIn X (outs.take (k+1))=(isIn X (outs.take k) || decide (Rn.cmpOut y X=0))):=isIn_step hy
       have BF:Hid (0<k→∃ (m:Nat) (x:Rn.Out) (Ax:Option Addr) (cx:Nat),k=m+1∧(∀ u:GrW wr,u.val.cell? ⟨b,m * 5,none⟩=some (.int .i64 x.kind)∧u.val.cell? ⟨b,m * 5+1,none⟩=some (.bool x.ret.p)∧u.val.cell? ⟨b,m * 5+2,none⟩=some (.int .i64 x.ret.s)∧u.val.cell? ⟨b,m * 5+3,none⟩=some (.int .u32 x.ret.n)∧u.val.cell? ⟨b,m * 5+4,none⟩=some (.slice Ax x.mem.length cx)) ∧
           ∀ u:GrW wr,Calls Tryz.prog 22 #[outV x (.slice Ax x.mem.length cx),outV y (.slice Ay y.mem.length cy)] u.val fun e w'=>e=.returned (.bool true)∧Gr u.val w'):=fun h0=>by
        obtain ⟨m,rfl⟩:∃ m,k=m+1:=⟨k-1,by omega⟩
        obtain ⟨x,hx⟩:∃ x,outs[m]?=some x:=⟨_,List.getElem?_eq_getElem (by have:=HN.out;omega)⟩
        obtain ⟨b',vx,hb',⟨Ax,cx,rfl⟩,hcx,htx⟩:=HEL.out wr hg.out m x hx
        injection hb' with hb'
        injection hb' with hb'
        subst hb'
        refine ⟨m,x,Ax,cx,rfl,hcx,fun u=>?_⟩
        have:=obefore_any (w:=u.val) (a:=x) (b:=y) (htx u) (htab u) (Nat.le_refl _)
        rwa [show decide (Rn.cmpOut x y<0)=true by simpa using asc_next HASC.out.1 hx hy] at this
       have Y0:=fun u=>(hcel u).1
       have Y1:=fun u=>(hcel u).2.1
       have Y2:=fun u=>(hcel u).2.2.1
       have Y3:=fun u=>(hcel u).2.2.2.1
       have Y4:=fun u=>(hcel u).2.2.2.2
       have X0:=fun (u:GrW wr)=>(BX.out u.val (hg.out.trans u.gr)).1
       have X1:=fun (u:GrW wr)=>(BX.out u.val (hg.out.trans u.gr)).2.1
       have X2:=fun (u:GrW wr)=>(BX.out u.val (hg.out.trans u.gr)).2.2.1
       have X3:=fun (u:GrW wr)=>(BX.out u.val (hg.out.trans u.gr)).2.2.2.1
       have X4:=fun (u:GrW wr)=>(BX.out u.val (hg.out.trans u.gr)).2.2.2.2
       obtain ⟨dq,hdq⟩:∃ dq,decide (Rn.cmpOut y X=0)=dq:=⟨_,rfl⟩
       rw [hdq] at CS HSTEP
       clear hy hcel htab hdq
       unfold outV at CS BF
       have HHG:=Lib.hid hg.out
       have HLT:Hid (k<n):=hlt
       rcases Nat.eq_zero_or_pos k with h0 | h0
       ·subst h0
        clear BF
        cases fb
        all_goals
         go_wp2
         refine wp_region_quietGr (by kernel_rfl) (by kernel_rfl) ?_
         repeat (go_big_quiet_step ((rename_i u;go_at_call 21;exact grW_call u (CS.out u))))
         refine wpQuiet_nil ?_
         intro w9 hw9
         obtain ⟨u9,rfl⟩:=hw9
         have G9:=Lib.hid (HHG.out.trans u9.gr)
         clear Y0 Y1 Y2 Y3 Y4 X0 X1 X2 X3 X4
         go_wp2
         refine wp_region_quietGr (by kernel_rfl) (by kernel_rfl) ?_
         repeat (go_big_quiet_step (fail))
         refine wpQuiet_nil ?_
         intro w8 hw8
         obtain ⟨u8,rfl⟩:=hw8
         have G8:=Lib.hid (G9.out.trans u8.gr)
         go_wp2
        ·have hl:=HLT.out
         refine ⟨⟨1,by omega,by go_num,⟨_,rfl,?_⟩,G8⟩,by simp [intOf];omega⟩
         show _=_
         rw [HSTEP.out,← hfb.out]
         rfl
        ·have hl:=HLT.out
         refine ⟨⟨1,by omega,by go_num,⟨_,rfl,?_⟩,G8⟩,by simp [intOf];omega⟩
         show _=_
         rw [HSTEP.out,← hfb.out]
         rfl
       ·obtain ⟨m,x,Ax,cx,hm,hcx,hcb⟩:=BF.out h0
        subst hm
        have CB:=Lib.hid hcb
        have Z0:=fun u=>(hcx u).1
        have Z1:=fun u=>(hcx u).2.1
        have Z2:=fun u=>(hcx u).2.2.1
        have Z3:=fun u=>(hcx u).2.2.2.1
        have Z4:=fun u=>(hcx u).2.2.2.2
        clear hcb hcx BF h0
        cases fb
        all_goals
         go_wp2
         refine wp_region_quietGr (by kernel_rfl) (by kernel_rfl) ?_
         repeat (go_big_quiet_step ((rename_i u;go_at_call 21;exact grW_call u (CS.out u))))
         refine wpQuiet_nil ?_
         intro w9 hw9
         obtain ⟨u9,rfl⟩:=hw9
         have G9:=Lib.hid (HHG.out.trans u9.gr)
         have P0:=fun (v:GrW u9.val)=>Z0 ⟨v.val,u9.gr.trans v.gr⟩
         have P1:=fun (v:GrW u9.val)=>Z1 ⟨v.val,u9.gr.trans v.gr⟩
         have P2:=fun (v:GrW u9.val)=>Z2 ⟨v.val,u9.gr.trans v.gr⟩
         have P3:=fun (v:GrW u9.val)=>Z3 ⟨v.val,u9.gr.trans v.gr⟩
         have P4:=fun (v:GrW u9.val)=>Z4 ⟨v.val,u9.gr.trans v.gr⟩
         have Q0:=fun (v:GrW u9.val)=>Y0 ⟨v.val,u9.gr.trans v.gr⟩
         have Q1:=fun (v:GrW u9.val)=>Y1 ⟨v.val,u9.gr.trans v.gr⟩
         have Q2:=fun (v:GrW u9.val)=>Y2 ⟨v.val,u9.gr.trans v.gr⟩
         have Q3:=fun (v:GrW u9.val)=>Y3 ⟨v.val,u9.gr.trans v.gr⟩
         have Q4:=fun (v:GrW u9.val)=>Y4 ⟨v.val,u9.gr.trans v.gr⟩
         have CB9:=Lib.hid fun (v:GrW u9.val)=>CB.out ⟨v.val,u9.gr.trans v.gr⟩
         clear Y0 Y1 Y2 Y3 Y4 X0 X1 X2 X3 X4 Z0 Z1 Z2 Z3 Z4
         go_wp2
         refine wp_region_quietGr (by kernel_rfl) (by kernel_rfl) ?_
         repeat (go_big_quiet_step ((rename_i u;go_at_call 22;exact grW_call u (CB9.out u))))
         refine wpQuiet_nil ?_
         intro w8 hw8
         obtain ⟨u8,rfl⟩:=hw8
         have G8:=Lib.hid (G9.out.trans u8.gr)
         clear P0 P1 P2 P3 P4 Q0 Q1 Q2 Q3 Q4
         go_wp2
        ·have hl:=HLT.out
         refine ⟨⟨m+1+1,by omega,by go_num,⟨_,rfl,?_⟩,G8⟩,by simp [intOf];omega⟩
         show _=_
         rw [HSTEP.out,← hfb.out]
         rfl
        ·have hl:=HLT.out
         refine ⟨⟨m+1+1,by omega,by go_num,⟨_,rfl,?_⟩,G8⟩,by simp [intOf];omega⟩
         show _=_
         rw [HSTEP.out,← hfb.out]
         rfl
      ·obtain rfl:k=n:=by omega
       have hft:fb=true:=by
        rw [hfb.out,List.take_of_length_le (by have:=HN.out;omega)]
        exact HXI.out
       subst hft
       by_cases hnw:0<NW
       all_goals
        go_wp2_with (go_at_call 12;(with_reducible refine (HKN.out _).mono ?_);rintro e w9 ⟨rfl,g9⟩)
        go_ret
        exact ⟨rfl,HG.out.trans (G3.out.trans (G6.out.trans (hg.out.trans g9)))⟩
   ·obtain ⟨V,hV⟩:∃ V,Rn.validInput f i=V:=⟨_,rfl⟩
    have J1:Hid (∀ w1,Gr w w1→Calls Tryz.prog 20 #[.agg #[.slice Ap f.params.length cp,.int .i64 f.ret,.slice As f.slots.length cs,.slice Ab f.blocks.length cb],.agg #[.slice Aa i.args.length ca,.slice Am i.mem.length cm]] w1 fun e w'=>e=.returned (.tuple #[.slice none 0 0,.int .i64 V])∧Gr w1 w'):=fun w1 g=>(I1.out w1 g).mono fun e w' ⟨h,g'⟩=>by
     rcases h with ⟨-,h⟩ | ⟨h,-⟩ | ⟨h,-⟩
     ·rw [hV] at h;exact ⟨h,g'⟩
     ·exact absurd h hv0
     ·exact absurd h hv0
    have J2:Hid (∀ w1,Gr w w1→Calls Tryz.prog 16 #[.agg #[.slice Ap f.params.length cp,.int .i64 f.ret,.slice As f.slots.length cs,.slice Ab f.blocks.length cb],.agg #[.slice Aa i.args.length ca,.slice Am i.mem.length cm],.slice Ak picks.length ck] w1 fun e w'=>e=.returned (.tuple #[.agg #[.int .i64 0,.bool false,.int .i64 0,.int .u32 0,.slice none 0 0],.int .i64 0,.int .i64 V])∧Gr w1 w'):=fun w1 g=>(I2.out w1 g).mono fun e w' ⟨h,g'⟩=>by
     rcases h with ⟨-,h⟩ | ⟨h,-⟩
     ·rw [hV] at h;exact ⟨h,g'⟩
     ·exact absurd h hv0
    rw [hV] at hv0
    clear I1 I2 hV
    have hv1:(V != 0)=true:=by simpa using hv0
    go_enter Tryz.func5, Tryz.ntmps5
    go_wp2_with (first
      | (go_at_call 11;(with_reducible refine (CL.out _ HG.out).mono ?_);rintro e w1 ⟨rfl,g1⟩;have G1:Hid (Gr W w1):=g1;clear g1;obtain ⟨l0,l1,l2,l3,l4,l5⟩:=KC.out w1 G1.out)
      | (go_at_call 20;(with_reducible refine (J1.out _ (HG.out.trans G1.out)).mono ?_);rintro e w2 ⟨rfl,g2⟩;have G2:Hid (Gr W w2):=G1.out.trans g2;clear g2;obtain ⟨m0,m1,m2,m3,m4,m5⟩:=KC.out w2 G2.out)
      | (go_at_call 16;(with_reducible refine (J2.out _ (HG.out.trans G2.out)).mono ?_);rintro e w3 ⟨rfl,g3⟩;have G3:Hid (Gr W w3):=G2.out.trans g3;clear g3)
      | (go_at_call 12;(with_reducible refine (HKN.out _).mono ?_);rintro e w4 ⟨rfl,g4⟩))
    go_ret
    exact ⟨rfl,(HG.out.trans (G3.out.alloc _)).trans g4⟩
  ·have hpl2:(1000:Int)<(picks.length:Int):=by omega
   clear C1 C2
   go_enter Tryz.func5, Tryz.ntmps5
   go_wp2_with (first
     | (go_at_call 11;(with_reducible refine (CL.out _ HG.out).mono ?_);rintro e w1 ⟨rfl,g1⟩;have G1:Hid (Gr w w1):=HG.out.trans g1;clear g1)
     | (go_at_call 12;(with_reducible refine (HKN.out _).mono ?_);rintro e w2 ⟨rfl,g2⟩))
   go_ret
   exact ⟨rfl,G1.out.trans g2⟩
end Go.Proofs.YthfhamagopbgcaaGreat

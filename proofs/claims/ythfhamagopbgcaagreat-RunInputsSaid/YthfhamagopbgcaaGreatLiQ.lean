/- The law backstaylaw05.RunInputs returns true at every input, and the input reads as it did. -/
import Derived.Test.YthfhamagopbgcaaGreatG46
import Derived.Test.YthfhamagopbgcaaGreatDvQ
import Derived.Test.YthfhamagopbgcaaGreatG45
namespace Go.Proofs.YthfhamagopbgcaaGreat
set_option linter.unusedSimpArgs false
set_option linter.unusedVariables false
open Go.RowKit Go.Shelf

theorem wide_args {i:Rn.Inp} (h:wideI i=false):i.args.length≤20∧i.mem.length≤20:=by
 unfold wideI at h
 simp only [Bool.or_eq_false_iff,decide_eq_false_iff_not] at h
 omega
set_option maxRecDepth 100000 in
set_option maxHeartbeats 16000000 in
theorem lawInputs_any {w:World} {f:Fn} {vf:Value} (hfn:FnAt w.heap.size w vf f) (hn:longFn f=false→Nice f) {i:Rn.Inp} {va vm:Value} (ha:ArgsAt w va i.args) (hm:TabAt w.heap.size w vm i.mem) :
  Calls Tryz.prog 3 #[vf,.agg #[va,vm]] w fun e w'=>e=.returned (.bool true)∧Gr w w':=by
 have CL:Hid (∀ w1,Gr w w1→Calls Tryz.prog 11 #[vf,.agg #[va,vm]] w1 fun e w'=>e=.returned (.bool (longFn f || wideI i))∧Gr w1 w'):=fun w1 g=>long5_any (hfn.gr g) ha.len (hm.gr g)
 have HKN:Hid (∀ w1,Calls Tryz.prog 12 #[] w1 fun e w'=>e=.returned (.bool true)∧Gr w1 w'):=known5_any
 have C1:Hid ((longFn f || wideI i)=false→∀ w1,Gr w w1→Calls Tryz.prog 13 #[vf,.agg #[va,vm]] w1 fun e w'=>e=.returned (.int .i64 (Rn.validInput f i))∧Gr w1 w'):=fun h w1 g=>by
  rw [Bool.or_eq_false_iff] at h
  exact vinput_any (hfn.gr g) (hn h.1) (SlAt.mono (u32_below (ha.at_ (by have:=wide_args h.2;omega)) g) g.size) (hm.gr g)
 have C2:Hid ((longFn f || wideI i)=false→∀ w1,Gr w w1→Calls Tryz.prog 14 #[vf,.agg #[va,vm]] w1 fun e w'=>e=.returned (.int .i64 (Rn.validInput f i))∧Gr w1 w'):=fun h w1 g=>by
  rw [Bool.or_eq_false_iff] at h
  exact dvinput_any (hfn.gr g) (hn h.1) (SlAt.mono (u32_below (ha.at_ (by have:=wide_args h.2;omega)) g) g.size) (hm.gr g) ha.words
 obtain ⟨Aa,ca,rfl,-⟩:=id ha.len
 obtain ⟨Am,cm,rfl,-⟩:=id hm
 obtain ⟨vp,vs,vb,rfl,hp,hsl,hb⟩:=hfn
 obtain ⟨Ap,cp,rfl,-⟩:=hp
 obtain ⟨As,cs,rfl,-⟩:=hsl
 obtain ⟨Ab,cb,rfl,-⟩:=hb
 obtain ⟨va,hva⟩:∃ va,Value.slice Aa i.args.length ca=va:=⟨_,rfl⟩
 obtain ⟨vm,hvm⟩:∃ vm,Value.slice Am i.mem.length cm=vm:=⟨_,rfl⟩
 obtain ⟨W,hW⟩:∃ W,(w.alloc (.cells #[.slice Ap f.params.length cp,.int .i64 f.ret,.slice As f.slots.length cs,.slice Ab f.blocks.length cb] 25)).alloc (.cells #[.slice Aa i.args.length ca,.slice Am i.mem.length cm] 29)=W:=⟨_,rfl⟩
 have g0:Gr w W:=by rw [← hW];exact ((Gr.refl w).alloc _).alloc _
 have hs1:(w.alloc (.cells #[.slice Ap f.params.length cp,.int .i64 f.ret,.slice As f.slots.length cs,.slice Ab f.blocks.length cb] 25)).heap.size=w.heap.size+1:=by simp
 have hfb:W.heap[w.heap.size]?=some (.cells #[.slice Ap f.params.length cp,.int .i64 f.ret,.slice As f.slots.length cs,.slice Ab f.blocks.length cb] 25 (0,0)):=by
  rw [← hW]
  exact (((Gr.refl (w.alloc (.cells #[.slice Ap f.params.length cp,.int .i64 f.ret,.slice As f.slots.length cs,.slice Ab f.blocks.length cb] 25))).alloc _).heap _ (by simp)).trans (heap_alloc_new w _)
 have hib:W.heap[w.heap.size+1]?=some (.cells #[.slice Aa i.args.length ca,.slice Am i.mem.length cm] 29 (0,0)):=by rw [← hW,← hs1];exact heap_alloc_new _ _
 have KC:Hid (∀ wr,Gr W wr→wr.cell? ⟨w.heap.size,0,none⟩=some (.slice Ap f.params.length cp)∧wr.cell? ⟨w.heap.size,1,none⟩=some (.int .i64 f.ret)∧wr.cell? ⟨w.heap.size,2,none⟩=some (.slice As f.slots.length cs)∧wr.cell? ⟨w.heap.size,3,none⟩=some (.slice Ab f.blocks.length cb)∧wr.cell? ⟨w.heap.size+1,0,none⟩=some (.slice Aa i.args.length ca)∧wr.cell? ⟨w.heap.size+1,1,none⟩=some (.slice Am i.mem.length cm)):=fun wr g=>by
  have r1:=(g.heap _ (lt_of_heap hfb)).trans hfb
  have r2:=(g.heap _ (lt_of_heap hib)).trans hib
  exact ⟨cell_of_row _ _ 0 _ _ _ r1,cell_of_row _ _ 1 _ _ _ r1,cell_of_row _ _ 2 _ _ _ r1,cell_of_row _ _ 3 _ _ _ r1,cell_of_row _ _ 0 _ _ _ r2,cell_of_row _ _ 1 _ _ _ r2⟩
 obtain ⟨k0,k1,k2,k3,k4,k5⟩:=KC.out W (Gr.refl _)
 have HG:=Lib.hid g0
 obtain ⟨V,hV⟩:∃ V,Rn.validInput f i=V:=⟨_,rfl⟩
 obtain ⟨lg,hlg⟩:∃ lg,(longFn f || wideI i)=lg:=⟨_,rfl⟩
 rw [hlg] at CL C1 C2
 rw [hV] at C1 C2
 clear hV hlg hn ha hm g0 hfb hib hs1 hva hvm
 cases lg with
 | true =>
  go_enter Tryz.func3, Tryz.ntmps3
  go_wp2_with (first
    | (go_at_call 11;(with_reducible refine (CL.out _ HG.out).mono ?_);rintro e w1 ⟨rfl,g1⟩;have G1:Hid (Gr w w1):=HG.out.trans g1;clear g1)
    | (go_at_call 12;(with_reducible refine (HKN.out _).mono ?_);rintro e w2 ⟨rfl,g2⟩))
  go_ret
  exact ⟨rfl,G1.out.trans g2⟩
 | false =>
  have I1:=Lib.hid (C1.out rfl)
  have I2:=Lib.hid (C2.out rfl)
  have s1:(V == V)=true:=by simp
  clear C1 C2
  go_enter Tryz.func3, Tryz.ntmps3
  go_wp2_with (first
    | (go_at_call 11;(with_reducible refine (CL.out _ HG.out).mono ?_);rintro e w1 ⟨rfl,g1⟩;have G1:Hid (Gr W w1):=g1;clear g1;have U0:=fun u:GrW w1=>(KC.out u.val (G1.out.trans u.gr)).1;have U1:=fun u:GrW w1=>(KC.out u.val (G1.out.trans u.gr)).2.1;have U2:=fun u:GrW w1=>(KC.out u.val (G1.out.trans u.gr)).2.2.1;have U3:=fun u:GrW w1=>(KC.out u.val (G1.out.trans u.gr)).2.2.2.1;have U4:=fun u:GrW w1=>(KC.out u.val (G1.out.trans u.gr)).2.2.2.2.1;have U5:=fun u:GrW w1=>(KC.out u.val (G1.out.trans u.gr)).2.2.2.2.2)
    )
  refine wp_region_quietGr (by kernel_rfl) (by kernel_rfl) ?_
  repeat (go_big_quiet_step (first
    | (rename_i u;go_at_call 13;exact grW_call u (I1.out u.val (HG.out.trans (G1.out.trans u.gr))))
    | (rename_i u;go_at_call 14;exact grW_call u (I2.out u.val (HG.out.trans (G1.out.trans u.gr))))
    | (rename_i u;go_at_call 12;exact grW_call u (HKN.out u.val))))
  refine wpQuiet_nil ?_
  intro w9 hw9
  obtain ⟨u9,rfl⟩:=hw9
  have G9:=Lib.hid (HG.out.trans (G1.out.trans u9.gr))
  clear U0 U1 U2 U3 U4 U5
  go_wp2
  go_ret
  exact ⟨rfl,G9.out⟩
end Go.Proofs.YthfhamagopbgcaaGreat

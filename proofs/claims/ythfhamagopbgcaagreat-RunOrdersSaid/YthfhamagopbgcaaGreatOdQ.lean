/- The document's order of outcomes: whole. Printed by gen_od.py. -/
import Derived.Test.YthfhamagopbgcaaGreatOcQ
import Derived.Test.YthfhamagopbgcaaGreatSpcQ
namespace Go.Proofs.YthfhamagopbgcaaGreat
set_option linter.unusedSimpArgs false
set_option linter.unusedVariables false
open Go.RowKit

theorem ints4 {w w':World} {d1 d2 d3 d4:Int} {t:TypeId} (g:Gr (w.alloc (.cells #[.int .i64 d1,.int .i64 d2,.int .i64 d3,.int .i64 d4] t)) w'):IntsAt w'.heap.size w' (.slice (some ⟨w.heap.size,0,none⟩) 4 4) [d1,d2,d3,d4]:=by
 refine ⟨_,_,rfl,Nat.le_refl 4,by show 4≤17592186044416;decide,fun _=>⟨w.heap.size,0,rfl,by have:=g.size;simp at this;omega,fun j z hz=>?_⟩⟩
 rw [cell_of_row _ _ _ _ _ _ ((g.heap _ (by simp)).trans (heap_alloc_new w _))]
 match j,hz with
 | 0,hz=>simp at hz;subst hz;rfl
 | 1,hz=>simp at hz;subst hz;rfl
 | 2,hz=>simp at hz;subst hz;rfl
 | 3,hz=>simp at hz;subst hz;rfl
def crFr (a b:Rn.Out) (va vb:Value) (B2 B3:Nat) (x:Nat→Value):Act :=
 { tmps:=#[.agg #[.int .i64 a.kind,.bool a.ret.p,.int .i64 a.ret.s,.int .u32 a.ret.n,va],.agg #[.int .i64 b.kind,.bool b.ret.p,.int .i64 b.ret.s,.int .u32 b.ret.n,vb],(.pointer (some ⟨B2,0,none⟩)),(.pointer (some ⟨B3,0,none⟩)),(.int .i64 0),x 29,undef,undef,x 0,x 1,x 2,x 3,x 4,x 5,x 6,x 7,x 8,x 9,x 10,x 11,x 12,x 13,x 14,x 15,x 16,x 17,x 18,x 19,x 20,x 21,x 22,x 23,x 24,x 25,x 26,x 27,x 28,undef,undef,undef,undef,undef,undef,undef,undef,undef,undef,undef,undef,undef,undef,undef,undef,undef,undef,undef,undef,undef,undef,undef,undef,undef,undef,undef,undef,undef,undef,undef,undef,undef,undef,undef,undef,undef,undef],defers:=[] }
def crSp (a b:Rn.Out) (va vb:Value) (B2 B3:Nat) (i:Nat) (v:Value) (w:World):Prop :=
 match i with
 | 0=>v=(.pointer (some ⟨B2,0,none⟩))
 | 1=>v=(.int .i64 a.kind)
 | 2=>v=(.pointer (some ⟨B2,1,none⟩))
 | 3=>v=(.pointer (some ⟨B2,1,none⟩))
 | 4=>v=(.bool a.ret.p)
 | 5=>v=(.int .i64 (Rn.bit a.ret.p))
 | 6=>v=(.pointer (some ⟨B2,1,none⟩))
 | 7=>v=(.pointer (some ⟨B2,2,none⟩))
 | 8=>v=(.int .i64 a.ret.s)
 | 9=>v=(.pointer (some ⟨B2,1,none⟩))
 | 10=>v=(.pointer (some ⟨B2,3,none⟩))
 | 11=>v=(.int .u32 a.ret.n)
 | 12=>v=(.int .i64 a.ret.n)
 | 13=>∃ k,v=.slice (some ⟨k,0,none⟩) 4 4∧IntsAt w.heap.size w (.slice (some ⟨k,0,none⟩) 4 4) (Rn.heads a)
 | 14=>v=(.pointer (some ⟨B3,0,none⟩))
 | 15=>v=(.int .i64 b.kind)
 | 16=>v=(.pointer (some ⟨B3,1,none⟩))
 | 17=>v=(.pointer (some ⟨B3,1,none⟩))
 | 18=>v=(.bool b.ret.p)
 | 19=>v=(.int .i64 (Rn.bit b.ret.p))
 | 20=>v=(.pointer (some ⟨B3,1,none⟩))
 | 21=>v=(.pointer (some ⟨B3,2,none⟩))
 | 22=>v=(.int .i64 b.ret.s)
 | 23=>v=(.pointer (some ⟨B3,1,none⟩))
 | 24=>v=(.pointer (some ⟨B3,3,none⟩))
 | 25=>v=(.int .u32 b.ret.n)
 | 26=>v=(.int .i64 b.ret.n)
 | 27=>∃ k,v=.slice (some ⟨k,0,none⟩) 4 4∧IntsAt w.heap.size w (.slice (some ⟨k,0,none⟩) 4 4) (Rn.heads b)
 | 28=>v=(.int .i64 (Rn.cmpInts (Rn.heads a) (Rn.heads b)))
 | 29=>v=(.int .i64 (Rn.cmpInts (Rn.heads a) (Rn.heads b)))
 | _=>True
theorem crSp_mono (a b:Rn.Out) (va vb:Value) (B2 B3:Nat) (i:Nat) (v:Value) (w w':World) (h:crSp a b va vb B2 B3 i v w) (g:Gr w w'):crSp a b va vb B2 B3 i v w':=by
 unfold crSp at *
 split at h
 ·exact h
 ·exact h
 ·exact h
 ·exact h
 ·exact h
 ·exact h
 ·exact h
 ·exact h
 ·exact h
 ·exact h
 ·exact h
 ·exact h
 ·exact h
 ·obtain ⟨k,e,q⟩:=h;exact ⟨k,e,q.gr g⟩
 ·exact h
 ·exact h
 ·exact h
 ·exact h
 ·exact h
 ·exact h
 ·exact h
 ·exact h
 ·exact h
 ·exact h
 ·exact h
 ·exact h
 ·exact h
 ·obtain ⟨k,e,q⟩:=h;exact ⟨k,e,q.gr g⟩
 ·exact h
 ·exact h
 ·trivial
set_option maxRecDepth 100000 in
set_option maxHeartbeats 16000000 in
theorem r5compare_any {B:Nat} {w:World} {a b:Rn.Out} {va vb:Value} (ha:TabAt B w va a.mem) (hb:TabAt B w vb b.mem) (hB:B≤w.heap.size) (hna:0≤a.ret.n∧a.ret.n<4294967296) (hnb:0≤b.ret.n∧b.ret.n<4294967296) :
  Calls Tryz.prog 46 #[outV a va,outV b vb] w fun e w'=>e=.returned (.int .i64 (Rn.cmpOut a b))∧Gr w w':=by
 obtain ⟨Wa,hWa⟩:∃ Wa,obox w a va=Wa:=⟨_,rfl⟩
 obtain ⟨W,hW⟩:∃ W,obox Wa b vb=W:=⟨_,rfl⟩
 have g1:Gr w Wa:=by rw [← hWa];exact (Gr.refl w).alloc _
 have g2:Gr Wa W:=by rw [← hW];exact (Gr.refl Wa).alloc _
 have XA:=fun (u:GrW W)=>obox_cells (w:=w) (o:=a) (vm:=va) (w':=u.val) (by rw [hWa];exact g2.trans u.gr)
 have XB:=fun (u:GrW W)=>obox_cells (w:=Wa) (o:=b) (vm:=vb) (w':=u.val) (by rw [hW];exact u.gr)
 have HG:=Lib.hid (g1.trans g2)
 have HTA:Hid (∀ wr,Gr W wr→TabAt wr.heap.size wr va a.mem):=fun wr g=>(ha.below (Below.mono ((g1.trans g2).trans g) hB)).mono (by have:=((g1.trans g2).trans g).size;omega)
 have HTB:Hid (∀ wr,Gr W wr→TabAt wr.heap.size wr vb b.mem):=fun wr g=>(hb.below (Below.mono ((g1.trans g2).trans g) hB)).mono (by have:=((g1.trans g2).trans g).size;omega)
 have HR:Hid (Rn.cmpOut a b=if Rn.cmpInts (Rn.heads a) (Rn.heads b)=0 then Rn.cmpMem a.mem b.mem else Rn.cmpInts (Rn.heads a) (Rn.heads b)):=rfl
 obtain ⟨n1,n2⟩:=hna
 obtain ⟨n3,n4⟩:=hnb
 obtain ⟨Aa,ca,rfl,a1,a2,-⟩:=id ha
 obtain ⟨Ab,cb,rfl,b1,b2,-⟩:=id hb
 have HXA:=Lib.hid XA
 have HXB:=Lib.hid XB
 clear XA XB g1 g2 ha hb
 unfold obox at hWa hW
 unfold outV
 go_enter Tryz.func46, Tryz.ntmps46
 go_wp2
 refine wp_region_spec (W:=W) (crFr a b (.slice Aa a.mem.length ca) (.slice Ab b.mem.length cb) w.heap.size Wa.heap.size) (crSp a b (.slice Aa a.mem.length ca) (.slice Ab b.mem.length cb) w.heap.size Wa.heap.size) (by kernel_rfl) (by kernel_rfl) (by kernel_rfl) (crSp_mono _ _ _ _ _ _) (fun _=>undef) rfl (Gr.refl W) ?_ ?_
 ·have A0:=fun (u:GrW W)=>(HXA.out u).1
  have A1:=fun (u:GrW W)=>(HXA.out u).2.1
  have A2:=fun (u:GrW W)=>(HXA.out u).2.2.1
  have A3:=fun (u:GrW W)=>(HXA.out u).2.2.2.1
  have B0:=fun (u:GrW W)=>(HXB.out u).1
  have B1:=fun (u:GrW W)=>(HXB.out u).2.1
  have B2:=fun (u:GrW W)=>(HXB.out u).2.2.1
  have B3:=fun (u:GrW W)=>(HXB.out u).2.2.2.1
  intro i o hi x w1 g1 hd
  have a0x:=A0 ⟨w1,g1⟩
  have a1x:=A1 ⟨w1,g1⟩
  have a2x:=A2 ⟨w1,g1⟩
  have a3x:=A3 ⟨w1,g1⟩
  have b0x:=B0 ⟨w1,g1⟩
  have b1x:=B1 ⟨w1,g1⟩
  have b2x:=B2 ⟨w1,g1⟩
  have b3x:=B3 ⟨w1,g1⟩
  clear A0 A1 A2 A3 B0 B1 B2 B3
  have hlt:i<30:=(List.getElem?_eq_some_iff.1 hi).1
  rcases (by omega:i=0∨i=1∨i=2∨i=3∨i=4∨i=5∨i=6∨i=7∨i=8∨i=9∨i=10∨i=11∨i=12∨i=13∨i=14∨i=15∨i=16∨i=17∨i=18∨i=19∨i=20∨i=21∨i=22∨i=23∨i=24∨i=25∨i=26∨i=27∨i=28∨i=29) with rfl | rfl | rfl | rfl | rfl | rfl | rfl | rfl | rfl | rfl | rfl | rfl | rfl | rfl | rfl | rfl | rfl | rfl | rfl | rfl | rfl | rfl | rfl | rfl | rfl | rfl | rfl | rfl | rfl | rfl
  ·obtain rfl:=Option.some.inj hi
   clear hd
   obtain ⟨K,hK⟩:∃ K,(fun (a':Act) (w':World)=>∃ v,a'=crFr a b (.slice Aa a.mem.length ca) (.slice Ab b.mem.length cb) w.heap.size Wa.heap.size (upd x 0 v)∧crSp a b (.slice Aa a.mem.length ca) (.slice Ab b.mem.length cb) w.heap.size Wa.heap.size 0 v w'∧Gr w1 w')=K:=⟨_,rfl⟩
   rw [hK]
   rw [show crFr a b (.slice Aa a.mem.length ca) (.slice Ab b.mem.length cb) w.heap.size Wa.heap.size x={ tmps:=#[.agg #[.int .i64 a.kind,.bool a.ret.p,.int .i64 a.ret.s,.int .u32 a.ret.n,.slice Aa a.mem.length ca],.agg #[.int .i64 b.kind,.bool b.ret.p,.int .i64 b.ret.s,.int .u32 b.ret.n,.slice Ab b.mem.length cb],(.pointer (some ⟨w.heap.size,0,none⟩)),(.pointer (some ⟨Wa.heap.size,0,none⟩)),(.int .i64 0),x 29,undef,undef,x 0,x 1,x 2,x 3,x 4,x 5,x 6,x 7,x 8,x 9,x 10,x 11,x 12,x 13,x 14,x 15,x 16,x 17,x 18,x 19,x 20,x 21,x 22,x 23,x 24,x 25,x 26,x 27,x 28,undef,undef,undef,undef,undef,undef,undef,undef,undef,undef,undef,undef,undef,undef,undef,undef,undef,undef,undef,undef,undef,undef,undef,undef,undef,undef,undef,undef,undef,undef,undef,undef,undef,undef,undef,undef,undef,undef],defers:=[] } from rfl]
   go_simp
   rw [← hK]
   exact ⟨_,rfl,rfl,Gr.refl _⟩
  ·obtain rfl:=Option.some.inj hi
   have d0:x 0=(.pointer (some ⟨w.heap.size,0,none⟩)):=hd ⟨0,.data⟩ (by simp) rfl
   obtain ⟨x',hx'⟩:∃ x',x=upd (x') 0 ((.pointer (some ⟨w.heap.size,0,none⟩))):=⟨x,by rw [← upd_self d0]⟩
   clear d0 hd
   subst hx'
   obtain ⟨K,hK⟩:∃ K,(fun (a':Act) (w':World)=>∃ v,a'=crFr a b (.slice Aa a.mem.length ca) (.slice Ab b.mem.length cb) w.heap.size Wa.heap.size (upd (upd x' 0 ((.pointer (some ⟨w.heap.size,0,none⟩)))) 1 v)∧crSp a b (.slice Aa a.mem.length ca) (.slice Ab b.mem.length cb) w.heap.size Wa.heap.size 1 v w'∧Gr w1 w')=K:=⟨_,rfl⟩
   rw [hK]
   rw [show crFr a b (.slice Aa a.mem.length ca) (.slice Ab b.mem.length cb) w.heap.size Wa.heap.size (upd x' 0 ((.pointer (some ⟨w.heap.size,0,none⟩))))={ tmps:=#[.agg #[.int .i64 a.kind,.bool a.ret.p,.int .i64 a.ret.s,.int .u32 a.ret.n,.slice Aa a.mem.length ca],.agg #[.int .i64 b.kind,.bool b.ret.p,.int .i64 b.ret.s,.int .u32 b.ret.n,.slice Ab b.mem.length cb],(.pointer (some ⟨w.heap.size,0,none⟩)),(.pointer (some ⟨Wa.heap.size,0,none⟩)),(.int .i64 0),x' 29,undef,undef,(.pointer (some ⟨w.heap.size,0,none⟩)),x' 1,x' 2,x' 3,x' 4,x' 5,x' 6,x' 7,x' 8,x' 9,x' 10,x' 11,x' 12,x' 13,x' 14,x' 15,x' 16,x' 17,x' 18,x' 19,x' 20,x' 21,x' 22,x' 23,x' 24,x' 25,x' 26,x' 27,x' 28,undef,undef,undef,undef,undef,undef,undef,undef,undef,undef,undef,undef,undef,undef,undef,undef,undef,undef,undef,undef,undef,undef,undef,undef,undef,undef,undef,undef,undef,undef,undef,undef,undef,undef,undef,undef,undef,undef],defers:=[] } from rfl]
   go_simp
   rw [← hK]
   exact ⟨_,rfl,rfl,Gr.refl _⟩
  ·obtain rfl:=Option.some.inj hi
   clear hd
   obtain ⟨K,hK⟩:∃ K,(fun (a':Act) (w':World)=>∃ v,a'=crFr a b (.slice Aa a.mem.length ca) (.slice Ab b.mem.length cb) w.heap.size Wa.heap.size (upd x 2 v)∧crSp a b (.slice Aa a.mem.length ca) (.slice Ab b.mem.length cb) w.heap.size Wa.heap.size 2 v w'∧Gr w1 w')=K:=⟨_,rfl⟩
   rw [hK]
   rw [show crFr a b (.slice Aa a.mem.length ca) (.slice Ab b.mem.length cb) w.heap.size Wa.heap.size x={ tmps:=#[.agg #[.int .i64 a.kind,.bool a.ret.p,.int .i64 a.ret.s,.int .u32 a.ret.n,.slice Aa a.mem.length ca],.agg #[.int .i64 b.kind,.bool b.ret.p,.int .i64 b.ret.s,.int .u32 b.ret.n,.slice Ab b.mem.length cb],(.pointer (some ⟨w.heap.size,0,none⟩)),(.pointer (some ⟨Wa.heap.size,0,none⟩)),(.int .i64 0),x 29,undef,undef,x 0,x 1,x 2,x 3,x 4,x 5,x 6,x 7,x 8,x 9,x 10,x 11,x 12,x 13,x 14,x 15,x 16,x 17,x 18,x 19,x 20,x 21,x 22,x 23,x 24,x 25,x 26,x 27,x 28,undef,undef,undef,undef,undef,undef,undef,undef,undef,undef,undef,undef,undef,undef,undef,undef,undef,undef,undef,undef,undef,undef,undef,undef,undef,undef,undef,undef,undef,undef,undef,undef,undef,undef,undef,undef,undef,undef],defers:=[] } from rfl]
   go_simp
   rw [← hK]
   exact ⟨_,rfl,rfl,Gr.refl _⟩
  ·obtain rfl:=Option.some.inj hi
   have d2:x 2=(.pointer (some ⟨w.heap.size,1,none⟩)):=hd ⟨2,.data⟩ (by simp) rfl
   obtain ⟨x',hx'⟩:∃ x',x=upd (x') 2 ((.pointer (some ⟨w.heap.size,1,none⟩))):=⟨x,by rw [← upd_self d2]⟩
   clear d2 hd
   subst hx'
   obtain ⟨K,hK⟩:∃ K,(fun (a':Act) (w':World)=>∃ v,a'=crFr a b (.slice Aa a.mem.length ca) (.slice Ab b.mem.length cb) w.heap.size Wa.heap.size (upd (upd x' 2 ((.pointer (some ⟨w.heap.size,1,none⟩)))) 3 v)∧crSp a b (.slice Aa a.mem.length ca) (.slice Ab b.mem.length cb) w.heap.size Wa.heap.size 3 v w'∧Gr w1 w')=K:=⟨_,rfl⟩
   rw [hK]
   rw [show crFr a b (.slice Aa a.mem.length ca) (.slice Ab b.mem.length cb) w.heap.size Wa.heap.size (upd x' 2 ((.pointer (some ⟨w.heap.size,1,none⟩))))={ tmps:=#[.agg #[.int .i64 a.kind,.bool a.ret.p,.int .i64 a.ret.s,.int .u32 a.ret.n,.slice Aa a.mem.length ca],.agg #[.int .i64 b.kind,.bool b.ret.p,.int .i64 b.ret.s,.int .u32 b.ret.n,.slice Ab b.mem.length cb],(.pointer (some ⟨w.heap.size,0,none⟩)),(.pointer (some ⟨Wa.heap.size,0,none⟩)),(.int .i64 0),x' 29,undef,undef,x' 0,x' 1,(.pointer (some ⟨w.heap.size,1,none⟩)),x' 3,x' 4,x' 5,x' 6,x' 7,x' 8,x' 9,x' 10,x' 11,x' 12,x' 13,x' 14,x' 15,x' 16,x' 17,x' 18,x' 19,x' 20,x' 21,x' 22,x' 23,x' 24,x' 25,x' 26,x' 27,x' 28,undef,undef,undef,undef,undef,undef,undef,undef,undef,undef,undef,undef,undef,undef,undef,undef,undef,undef,undef,undef,undef,undef,undef,undef,undef,undef,undef,undef,undef,undef,undef,undef,undef,undef,undef,undef,undef,undef],defers:=[] } from rfl]
   go_simp
   rw [← hK]
   exact ⟨_,rfl,rfl,Gr.refl _⟩
  ·obtain rfl:=Option.some.inj hi
   have d3:x 3=(.pointer (some ⟨w.heap.size,1,none⟩)):=hd ⟨3,.data⟩ (by simp) rfl
   obtain ⟨x',hx'⟩:∃ x',x=upd (x') 3 ((.pointer (some ⟨w.heap.size,1,none⟩))):=⟨x,by rw [← upd_self d3]⟩
   clear d3 hd
   subst hx'
   obtain ⟨K,hK⟩:∃ K,(fun (a':Act) (w':World)=>∃ v,a'=crFr a b (.slice Aa a.mem.length ca) (.slice Ab b.mem.length cb) w.heap.size Wa.heap.size (upd (upd x' 3 ((.pointer (some ⟨w.heap.size,1,none⟩)))) 4 v)∧crSp a b (.slice Aa a.mem.length ca) (.slice Ab b.mem.length cb) w.heap.size Wa.heap.size 4 v w'∧Gr w1 w')=K:=⟨_,rfl⟩
   rw [hK]
   rw [show crFr a b (.slice Aa a.mem.length ca) (.slice Ab b.mem.length cb) w.heap.size Wa.heap.size (upd x' 3 ((.pointer (some ⟨w.heap.size,1,none⟩))))={ tmps:=#[.agg #[.int .i64 a.kind,.bool a.ret.p,.int .i64 a.ret.s,.int .u32 a.ret.n,.slice Aa a.mem.length ca],.agg #[.int .i64 b.kind,.bool b.ret.p,.int .i64 b.ret.s,.int .u32 b.ret.n,.slice Ab b.mem.length cb],(.pointer (some ⟨w.heap.size,0,none⟩)),(.pointer (some ⟨Wa.heap.size,0,none⟩)),(.int .i64 0),x' 29,undef,undef,x' 0,x' 1,x' 2,(.pointer (some ⟨w.heap.size,1,none⟩)),x' 4,x' 5,x' 6,x' 7,x' 8,x' 9,x' 10,x' 11,x' 12,x' 13,x' 14,x' 15,x' 16,x' 17,x' 18,x' 19,x' 20,x' 21,x' 22,x' 23,x' 24,x' 25,x' 26,x' 27,x' 28,undef,undef,undef,undef,undef,undef,undef,undef,undef,undef,undef,undef,undef,undef,undef,undef,undef,undef,undef,undef,undef,undef,undef,undef,undef,undef,undef,undef,undef,undef,undef,undef,undef,undef,undef,undef,undef,undef],defers:=[] } from rfl]
   go_simp
   rw [← hK]
   exact ⟨_,rfl,rfl,Gr.refl _⟩
  ·obtain rfl:=Option.some.inj hi
   have d4:x 4=(.bool a.ret.p):=hd ⟨4,.data⟩ (by simp) rfl
   obtain ⟨x',hx'⟩:∃ x',x=upd (x') 4 ((.bool a.ret.p)):=⟨x,by rw [← upd_self d4]⟩
   clear d4 hd
   subst hx'
   obtain ⟨K,hK⟩:∃ K,(fun (a':Act) (w':World)=>∃ v,a'=crFr a b (.slice Aa a.mem.length ca) (.slice Ab b.mem.length cb) w.heap.size Wa.heap.size (upd (upd x' 4 ((.bool a.ret.p))) 5 v)∧crSp a b (.slice Aa a.mem.length ca) (.slice Ab b.mem.length cb) w.heap.size Wa.heap.size 5 v w'∧Gr w1 w')=K:=⟨_,rfl⟩
   rw [hK]
   rw [show crFr a b (.slice Aa a.mem.length ca) (.slice Ab b.mem.length cb) w.heap.size Wa.heap.size (upd x' 4 ((.bool a.ret.p)))={ tmps:=#[.agg #[.int .i64 a.kind,.bool a.ret.p,.int .i64 a.ret.s,.int .u32 a.ret.n,.slice Aa a.mem.length ca],.agg #[.int .i64 b.kind,.bool b.ret.p,.int .i64 b.ret.s,.int .u32 b.ret.n,.slice Ab b.mem.length cb],(.pointer (some ⟨w.heap.size,0,none⟩)),(.pointer (some ⟨Wa.heap.size,0,none⟩)),(.int .i64 0),x' 29,undef,undef,x' 0,x' 1,x' 2,x' 3,(.bool a.ret.p),x' 5,x' 6,x' 7,x' 8,x' 9,x' 10,x' 11,x' 12,x' 13,x' 14,x' 15,x' 16,x' 17,x' 18,x' 19,x' 20,x' 21,x' 22,x' 23,x' 24,x' 25,x' 26,x' 27,x' 28,undef,undef,undef,undef,undef,undef,undef,undef,undef,undef,undef,undef,undef,undef,undef,undef,undef,undef,undef,undef,undef,undef,undef,undef,undef,undef,undef,undef,undef,undef,undef,undef,undef,undef,undef,undef,undef,undef],defers:=[] } from rfl]
   go_simp
   go_at_call 83
   refine (r5bit_any a.ret.p w1).mono ?_
   rintro e w2 ⟨rfl,rfl⟩
   rw [← hK]
   exact ⟨_,rfl,rfl,Gr.refl _⟩
  ·obtain rfl:=Option.some.inj hi
   clear hd
   obtain ⟨K,hK⟩:∃ K,(fun (a':Act) (w':World)=>∃ v,a'=crFr a b (.slice Aa a.mem.length ca) (.slice Ab b.mem.length cb) w.heap.size Wa.heap.size (upd x 6 v)∧crSp a b (.slice Aa a.mem.length ca) (.slice Ab b.mem.length cb) w.heap.size Wa.heap.size 6 v w'∧Gr w1 w')=K:=⟨_,rfl⟩
   rw [hK]
   rw [show crFr a b (.slice Aa a.mem.length ca) (.slice Ab b.mem.length cb) w.heap.size Wa.heap.size x={ tmps:=#[.agg #[.int .i64 a.kind,.bool a.ret.p,.int .i64 a.ret.s,.int .u32 a.ret.n,.slice Aa a.mem.length ca],.agg #[.int .i64 b.kind,.bool b.ret.p,.int .i64 b.ret.s,.int .u32 b.ret.n,.slice Ab b.mem.length cb],(.pointer (some ⟨w.heap.size,0,none⟩)),(.pointer (some ⟨Wa.heap.size,0,none⟩)),(.int .i64 0),x 29,undef,undef,x 0,x 1,x 2,x 3,x 4,x 5,x 6,x 7,x 8,x 9,x 10,x 11,x 12,x 13,x 14,x 15,x 16,x 17,x 18,x 19,x 20,x 21,x 22,x 23,x 24,x 25,x 26,x 27,x 28,undef,undef,undef,undef,undef,undef,undef,undef,undef,undef,undef,undef,undef,undef,undef,undef,undef,undef,undef,undef,undef,undef,undef,undef,undef,undef,undef,undef,undef,undef,undef,undef,undef,undef,undef,undef,undef,undef],defers:=[] } from rfl]
   go_simp
   rw [← hK]
   exact ⟨_,rfl,rfl,Gr.refl _⟩
  ·obtain rfl:=Option.some.inj hi
   have d6:x 6=(.pointer (some ⟨w.heap.size,1,none⟩)):=hd ⟨6,.data⟩ (by simp) rfl
   obtain ⟨x',hx'⟩:∃ x',x=upd (x') 6 ((.pointer (some ⟨w.heap.size,1,none⟩))):=⟨x,by rw [← upd_self d6]⟩
   clear d6 hd
   subst hx'
   obtain ⟨K,hK⟩:∃ K,(fun (a':Act) (w':World)=>∃ v,a'=crFr a b (.slice Aa a.mem.length ca) (.slice Ab b.mem.length cb) w.heap.size Wa.heap.size (upd (upd x' 6 ((.pointer (some ⟨w.heap.size,1,none⟩)))) 7 v)∧crSp a b (.slice Aa a.mem.length ca) (.slice Ab b.mem.length cb) w.heap.size Wa.heap.size 7 v w'∧Gr w1 w')=K:=⟨_,rfl⟩
   rw [hK]
   rw [show crFr a b (.slice Aa a.mem.length ca) (.slice Ab b.mem.length cb) w.heap.size Wa.heap.size (upd x' 6 ((.pointer (some ⟨w.heap.size,1,none⟩))))={ tmps:=#[.agg #[.int .i64 a.kind,.bool a.ret.p,.int .i64 a.ret.s,.int .u32 a.ret.n,.slice Aa a.mem.length ca],.agg #[.int .i64 b.kind,.bool b.ret.p,.int .i64 b.ret.s,.int .u32 b.ret.n,.slice Ab b.mem.length cb],(.pointer (some ⟨w.heap.size,0,none⟩)),(.pointer (some ⟨Wa.heap.size,0,none⟩)),(.int .i64 0),x' 29,undef,undef,x' 0,x' 1,x' 2,x' 3,x' 4,x' 5,(.pointer (some ⟨w.heap.size,1,none⟩)),x' 7,x' 8,x' 9,x' 10,x' 11,x' 12,x' 13,x' 14,x' 15,x' 16,x' 17,x' 18,x' 19,x' 20,x' 21,x' 22,x' 23,x' 24,x' 25,x' 26,x' 27,x' 28,undef,undef,undef,undef,undef,undef,undef,undef,undef,undef,undef,undef,undef,undef,undef,undef,undef,undef,undef,undef,undef,undef,undef,undef,undef,undef,undef,undef,undef,undef,undef,undef,undef,undef,undef,undef,undef,undef],defers:=[] } from rfl]
   go_simp
   rw [← hK]
   exact ⟨_,rfl,rfl,Gr.refl _⟩
  ·obtain rfl:=Option.some.inj hi
   have d7:x 7=(.pointer (some ⟨w.heap.size,2,none⟩)):=hd ⟨7,.data⟩ (by simp) rfl
   obtain ⟨x',hx'⟩:∃ x',x=upd (x') 7 ((.pointer (some ⟨w.heap.size,2,none⟩))):=⟨x,by rw [← upd_self d7]⟩
   clear d7 hd
   subst hx'
   obtain ⟨K,hK⟩:∃ K,(fun (a':Act) (w':World)=>∃ v,a'=crFr a b (.slice Aa a.mem.length ca) (.slice Ab b.mem.length cb) w.heap.size Wa.heap.size (upd (upd x' 7 ((.pointer (some ⟨w.heap.size,2,none⟩)))) 8 v)∧crSp a b (.slice Aa a.mem.length ca) (.slice Ab b.mem.length cb) w.heap.size Wa.heap.size 8 v w'∧Gr w1 w')=K:=⟨_,rfl⟩
   rw [hK]
   rw [show crFr a b (.slice Aa a.mem.length ca) (.slice Ab b.mem.length cb) w.heap.size Wa.heap.size (upd x' 7 ((.pointer (some ⟨w.heap.size,2,none⟩))))={ tmps:=#[.agg #[.int .i64 a.kind,.bool a.ret.p,.int .i64 a.ret.s,.int .u32 a.ret.n,.slice Aa a.mem.length ca],.agg #[.int .i64 b.kind,.bool b.ret.p,.int .i64 b.ret.s,.int .u32 b.ret.n,.slice Ab b.mem.length cb],(.pointer (some ⟨w.heap.size,0,none⟩)),(.pointer (some ⟨Wa.heap.size,0,none⟩)),(.int .i64 0),x' 29,undef,undef,x' 0,x' 1,x' 2,x' 3,x' 4,x' 5,x' 6,(.pointer (some ⟨w.heap.size,2,none⟩)),x' 8,x' 9,x' 10,x' 11,x' 12,x' 13,x' 14,x' 15,x' 16,x' 17,x' 18,x' 19,x' 20,x' 21,x' 22,x' 23,x' 24,x' 25,x' 26,x' 27,x' 28,undef,undef,undef,undef,undef,undef,undef,undef,undef,undef,undef,undef,undef,undef,undef,undef,undef,undef,undef,undef,undef,undef,undef,undef,undef,undef,undef,undef,undef,undef,undef,undef,undef,undef,undef,undef,undef,undef],defers:=[] } from rfl]
   go_simp
   rw [← hK]
   exact ⟨_,rfl,rfl,Gr.refl _⟩
  ·obtain rfl:=Option.some.inj hi
   clear hd
   obtain ⟨K,hK⟩:∃ K,(fun (a':Act) (w':World)=>∃ v,a'=crFr a b (.slice Aa a.mem.length ca) (.slice Ab b.mem.length cb) w.heap.size Wa.heap.size (upd x 9 v)∧crSp a b (.slice Aa a.mem.length ca) (.slice Ab b.mem.length cb) w.heap.size Wa.heap.size 9 v w'∧Gr w1 w')=K:=⟨_,rfl⟩
   rw [hK]
   rw [show crFr a b (.slice Aa a.mem.length ca) (.slice Ab b.mem.length cb) w.heap.size Wa.heap.size x={ tmps:=#[.agg #[.int .i64 a.kind,.bool a.ret.p,.int .i64 a.ret.s,.int .u32 a.ret.n,.slice Aa a.mem.length ca],.agg #[.int .i64 b.kind,.bool b.ret.p,.int .i64 b.ret.s,.int .u32 b.ret.n,.slice Ab b.mem.length cb],(.pointer (some ⟨w.heap.size,0,none⟩)),(.pointer (some ⟨Wa.heap.size,0,none⟩)),(.int .i64 0),x 29,undef,undef,x 0,x 1,x 2,x 3,x 4,x 5,x 6,x 7,x 8,x 9,x 10,x 11,x 12,x 13,x 14,x 15,x 16,x 17,x 18,x 19,x 20,x 21,x 22,x 23,x 24,x 25,x 26,x 27,x 28,undef,undef,undef,undef,undef,undef,undef,undef,undef,undef,undef,undef,undef,undef,undef,undef,undef,undef,undef,undef,undef,undef,undef,undef,undef,undef,undef,undef,undef,undef,undef,undef,undef,undef,undef,undef,undef,undef],defers:=[] } from rfl]
   go_simp
   rw [← hK]
   exact ⟨_,rfl,rfl,Gr.refl _⟩
  ·obtain rfl:=Option.some.inj hi
   have d9:x 9=(.pointer (some ⟨w.heap.size,1,none⟩)):=hd ⟨9,.data⟩ (by simp) rfl
   obtain ⟨x',hx'⟩:∃ x',x=upd (x') 9 ((.pointer (some ⟨w.heap.size,1,none⟩))):=⟨x,by rw [← upd_self d9]⟩
   clear d9 hd
   subst hx'
   obtain ⟨K,hK⟩:∃ K,(fun (a':Act) (w':World)=>∃ v,a'=crFr a b (.slice Aa a.mem.length ca) (.slice Ab b.mem.length cb) w.heap.size Wa.heap.size (upd (upd x' 9 ((.pointer (some ⟨w.heap.size,1,none⟩)))) 10 v)∧crSp a b (.slice Aa a.mem.length ca) (.slice Ab b.mem.length cb) w.heap.size Wa.heap.size 10 v w'∧Gr w1 w')=K:=⟨_,rfl⟩
   rw [hK]
   rw [show crFr a b (.slice Aa a.mem.length ca) (.slice Ab b.mem.length cb) w.heap.size Wa.heap.size (upd x' 9 ((.pointer (some ⟨w.heap.size,1,none⟩))))={ tmps:=#[.agg #[.int .i64 a.kind,.bool a.ret.p,.int .i64 a.ret.s,.int .u32 a.ret.n,.slice Aa a.mem.length ca],.agg #[.int .i64 b.kind,.bool b.ret.p,.int .i64 b.ret.s,.int .u32 b.ret.n,.slice Ab b.mem.length cb],(.pointer (some ⟨w.heap.size,0,none⟩)),(.pointer (some ⟨Wa.heap.size,0,none⟩)),(.int .i64 0),x' 29,undef,undef,x' 0,x' 1,x' 2,x' 3,x' 4,x' 5,x' 6,x' 7,x' 8,(.pointer (some ⟨w.heap.size,1,none⟩)),x' 10,x' 11,x' 12,x' 13,x' 14,x' 15,x' 16,x' 17,x' 18,x' 19,x' 20,x' 21,x' 22,x' 23,x' 24,x' 25,x' 26,x' 27,x' 28,undef,undef,undef,undef,undef,undef,undef,undef,undef,undef,undef,undef,undef,undef,undef,undef,undef,undef,undef,undef,undef,undef,undef,undef,undef,undef,undef,undef,undef,undef,undef,undef,undef,undef,undef,undef,undef,undef],defers:=[] } from rfl]
   go_simp
   rw [← hK]
   exact ⟨_,rfl,rfl,Gr.refl _⟩
  ·obtain rfl:=Option.some.inj hi
   have d10:x 10=(.pointer (some ⟨w.heap.size,3,none⟩)):=hd ⟨10,.data⟩ (by simp) rfl
   obtain ⟨x',hx'⟩:∃ x',x=upd (x') 10 ((.pointer (some ⟨w.heap.size,3,none⟩))):=⟨x,by rw [← upd_self d10]⟩
   clear d10 hd
   subst hx'
   obtain ⟨K,hK⟩:∃ K,(fun (a':Act) (w':World)=>∃ v,a'=crFr a b (.slice Aa a.mem.length ca) (.slice Ab b.mem.length cb) w.heap.size Wa.heap.size (upd (upd x' 10 ((.pointer (some ⟨w.heap.size,3,none⟩)))) 11 v)∧crSp a b (.slice Aa a.mem.length ca) (.slice Ab b.mem.length cb) w.heap.size Wa.heap.size 11 v w'∧Gr w1 w')=K:=⟨_,rfl⟩
   rw [hK]
   rw [show crFr a b (.slice Aa a.mem.length ca) (.slice Ab b.mem.length cb) w.heap.size Wa.heap.size (upd x' 10 ((.pointer (some ⟨w.heap.size,3,none⟩))))={ tmps:=#[.agg #[.int .i64 a.kind,.bool a.ret.p,.int .i64 a.ret.s,.int .u32 a.ret.n,.slice Aa a.mem.length ca],.agg #[.int .i64 b.kind,.bool b.ret.p,.int .i64 b.ret.s,.int .u32 b.ret.n,.slice Ab b.mem.length cb],(.pointer (some ⟨w.heap.size,0,none⟩)),(.pointer (some ⟨Wa.heap.size,0,none⟩)),(.int .i64 0),x' 29,undef,undef,x' 0,x' 1,x' 2,x' 3,x' 4,x' 5,x' 6,x' 7,x' 8,x' 9,(.pointer (some ⟨w.heap.size,3,none⟩)),x' 11,x' 12,x' 13,x' 14,x' 15,x' 16,x' 17,x' 18,x' 19,x' 20,x' 21,x' 22,x' 23,x' 24,x' 25,x' 26,x' 27,x' 28,undef,undef,undef,undef,undef,undef,undef,undef,undef,undef,undef,undef,undef,undef,undef,undef,undef,undef,undef,undef,undef,undef,undef,undef,undef,undef,undef,undef,undef,undef,undef,undef,undef,undef,undef,undef,undef,undef],defers:=[] } from rfl]
   go_simp
   rw [← hK]
   exact ⟨_,rfl,rfl,Gr.refl _⟩
  ·obtain rfl:=Option.some.inj hi
   have d11:x 11=(.int .u32 a.ret.n):=hd ⟨11,.data⟩ (by simp) rfl
   obtain ⟨x',hx'⟩:∃ x',x=upd (x') 11 ((.int .u32 a.ret.n)):=⟨x,by rw [← upd_self d11]⟩
   clear d11 hd
   subst hx'
   obtain ⟨K,hK⟩:∃ K,(fun (a':Act) (w':World)=>∃ v,a'=crFr a b (.slice Aa a.mem.length ca) (.slice Ab b.mem.length cb) w.heap.size Wa.heap.size (upd (upd x' 11 ((.int .u32 a.ret.n))) 12 v)∧crSp a b (.slice Aa a.mem.length ca) (.slice Ab b.mem.length cb) w.heap.size Wa.heap.size 12 v w'∧Gr w1 w')=K:=⟨_,rfl⟩
   rw [hK]
   rw [show crFr a b (.slice Aa a.mem.length ca) (.slice Ab b.mem.length cb) w.heap.size Wa.heap.size (upd x' 11 ((.int .u32 a.ret.n)))={ tmps:=#[.agg #[.int .i64 a.kind,.bool a.ret.p,.int .i64 a.ret.s,.int .u32 a.ret.n,.slice Aa a.mem.length ca],.agg #[.int .i64 b.kind,.bool b.ret.p,.int .i64 b.ret.s,.int .u32 b.ret.n,.slice Ab b.mem.length cb],(.pointer (some ⟨w.heap.size,0,none⟩)),(.pointer (some ⟨Wa.heap.size,0,none⟩)),(.int .i64 0),x' 29,undef,undef,x' 0,x' 1,x' 2,x' 3,x' 4,x' 5,x' 6,x' 7,x' 8,x' 9,x' 10,(.int .u32 a.ret.n),x' 12,x' 13,x' 14,x' 15,x' 16,x' 17,x' 18,x' 19,x' 20,x' 21,x' 22,x' 23,x' 24,x' 25,x' 26,x' 27,x' 28,undef,undef,undef,undef,undef,undef,undef,undef,undef,undef,undef,undef,undef,undef,undef,undef,undef,undef,undef,undef,undef,undef,undef,undef,undef,undef,undef,undef,undef,undef,undef,undef,undef,undef,undef,undef,undef,undef],defers:=[] } from rfl]
   go_simp
   rw [IntWalk.i64_in _ (by omega)]
   rw [← hK]
   exact ⟨_,rfl,rfl,Gr.refl _⟩
  ·obtain rfl:=Option.some.inj hi
   have d1:x 1=(.int .i64 a.kind):=hd ⟨1,.data⟩ (by simp) rfl
   have d5:x 5=(.int .i64 (Rn.bit a.ret.p)):=hd ⟨5,.data⟩ (by simp) rfl
   have d8:x 8=(.int .i64 a.ret.s):=hd ⟨8,.data⟩ (by simp) rfl
   have d12:x 12=(.int .i64 a.ret.n):=hd ⟨12,.data⟩ (by simp) rfl
   obtain ⟨x',hx'⟩:∃ x',x=upd (upd (upd (upd (x') 1 ((.int .i64 a.kind))) 5 ((.int .i64 (Rn.bit a.ret.p)))) 8 ((.int .i64 a.ret.s))) 12 ((.int .i64 a.ret.n)):=⟨x,by rw [← upd_self d1];rw [← upd_self d5];rw [← upd_self d8];rw [← upd_self d12]⟩
   clear d1 d5 d8 d12 hd
   subst hx'
   obtain ⟨K,hK⟩:∃ K,(fun (a':Act) (w':World)=>∃ v,a'=crFr a b (.slice Aa a.mem.length ca) (.slice Ab b.mem.length cb) w.heap.size Wa.heap.size (upd (upd (upd (upd (upd x' 1 ((.int .i64 a.kind))) 5 ((.int .i64 (Rn.bit a.ret.p)))) 8 ((.int .i64 a.ret.s))) 12 ((.int .i64 a.ret.n))) 13 v)∧crSp a b (.slice Aa a.mem.length ca) (.slice Ab b.mem.length cb) w.heap.size Wa.heap.size 13 v w'∧Gr w1 w')=K:=⟨_,rfl⟩
   rw [hK]
   rw [show crFr a b (.slice Aa a.mem.length ca) (.slice Ab b.mem.length cb) w.heap.size Wa.heap.size (upd (upd (upd (upd x' 1 ((.int .i64 a.kind))) 5 ((.int .i64 (Rn.bit a.ret.p)))) 8 ((.int .i64 a.ret.s))) 12 ((.int .i64 a.ret.n)))={ tmps:=#[.agg #[.int .i64 a.kind,.bool a.ret.p,.int .i64 a.ret.s,.int .u32 a.ret.n,.slice Aa a.mem.length ca],.agg #[.int .i64 b.kind,.bool b.ret.p,.int .i64 b.ret.s,.int .u32 b.ret.n,.slice Ab b.mem.length cb],(.pointer (some ⟨w.heap.size,0,none⟩)),(.pointer (some ⟨Wa.heap.size,0,none⟩)),(.int .i64 0),x' 29,undef,undef,x' 0,(.int .i64 a.kind),x' 2,x' 3,x' 4,(.int .i64 (Rn.bit a.ret.p)),x' 6,x' 7,(.int .i64 a.ret.s),x' 9,x' 10,x' 11,(.int .i64 a.ret.n),x' 13,x' 14,x' 15,x' 16,x' 17,x' 18,x' 19,x' 20,x' 21,x' 22,x' 23,x' 24,x' 25,x' 26,x' 27,x' 28,undef,undef,undef,undef,undef,undef,undef,undef,undef,undef,undef,undef,undef,undef,undef,undef,undef,undef,undef,undef,undef,undef,undef,undef,undef,undef,undef,undef,undef,undef,undef,undef,undef,undef,undef,undef,undef,undef],defers:=[] } from rfl]
   go_simp
   rw [← hK]
   exact ⟨_,rfl,⟨_,rfl,ints4 (Gr.refl _)⟩,(Gr.refl _).alloc _⟩
  ·obtain rfl:=Option.some.inj hi
   clear hd
   obtain ⟨K,hK⟩:∃ K,(fun (a':Act) (w':World)=>∃ v,a'=crFr a b (.slice Aa a.mem.length ca) (.slice Ab b.mem.length cb) w.heap.size Wa.heap.size (upd x 14 v)∧crSp a b (.slice Aa a.mem.length ca) (.slice Ab b.mem.length cb) w.heap.size Wa.heap.size 14 v w'∧Gr w1 w')=K:=⟨_,rfl⟩
   rw [hK]
   rw [show crFr a b (.slice Aa a.mem.length ca) (.slice Ab b.mem.length cb) w.heap.size Wa.heap.size x={ tmps:=#[.agg #[.int .i64 a.kind,.bool a.ret.p,.int .i64 a.ret.s,.int .u32 a.ret.n,.slice Aa a.mem.length ca],.agg #[.int .i64 b.kind,.bool b.ret.p,.int .i64 b.ret.s,.int .u32 b.ret.n,.slice Ab b.mem.length cb],(.pointer (some ⟨w.heap.size,0,none⟩)),(.pointer (some ⟨Wa.heap.size,0,none⟩)),(.int .i64 0),x 29,undef,undef,x 0,x 1,x 2,x 3,x 4,x 5,x 6,x 7,x 8,x 9,x 10,x 11,x 12,x 13,x 14,x 15,x 16,x 17,x 18,x 19,x 20,x 21,x 22,x 23,x 24,x 25,x 26,x 27,x 28,undef,undef,undef,undef,undef,undef,undef,undef,undef,undef,undef,undef,undef,undef,undef,undef,undef,undef,undef,undef,undef,undef,undef,undef,undef,undef,undef,undef,undef,undef,undef,undef,undef,undef,undef,undef,undef,undef],defers:=[] } from rfl]
   go_simp
   rw [← hK]
   exact ⟨_,rfl,rfl,Gr.refl _⟩
  ·obtain rfl:=Option.some.inj hi
   have d14:x 14=(.pointer (some ⟨Wa.heap.size,0,none⟩)):=hd ⟨14,.data⟩ (by simp) rfl
   obtain ⟨x',hx'⟩:∃ x',x=upd (x') 14 ((.pointer (some ⟨Wa.heap.size,0,none⟩))):=⟨x,by rw [← upd_self d14]⟩
   clear d14 hd
   subst hx'
   obtain ⟨K,hK⟩:∃ K,(fun (a':Act) (w':World)=>∃ v,a'=crFr a b (.slice Aa a.mem.length ca) (.slice Ab b.mem.length cb) w.heap.size Wa.heap.size (upd (upd x' 14 ((.pointer (some ⟨Wa.heap.size,0,none⟩)))) 15 v)∧crSp a b (.slice Aa a.mem.length ca) (.slice Ab b.mem.length cb) w.heap.size Wa.heap.size 15 v w'∧Gr w1 w')=K:=⟨_,rfl⟩
   rw [hK]
   rw [show crFr a b (.slice Aa a.mem.length ca) (.slice Ab b.mem.length cb) w.heap.size Wa.heap.size (upd x' 14 ((.pointer (some ⟨Wa.heap.size,0,none⟩))))={ tmps:=#[.agg #[.int .i64 a.kind,.bool a.ret.p,.int .i64 a.ret.s,.int .u32 a.ret.n,.slice Aa a.mem.length ca],.agg #[.int .i64 b.kind,.bool b.ret.p,.int .i64 b.ret.s,.int .u32 b.ret.n,.slice Ab b.mem.length cb],(.pointer (some ⟨w.heap.size,0,none⟩)),(.pointer (some ⟨Wa.heap.size,0,none⟩)),(.int .i64 0),x' 29,undef,undef,x' 0,x' 1,x' 2,x' 3,x' 4,x' 5,x' 6,x' 7,x' 8,x' 9,x' 10,x' 11,x' 12,x' 13,(.pointer (some ⟨Wa.heap.size,0,none⟩)),x' 15,x' 16,x' 17,x' 18,x' 19,x' 20,x' 21,x' 22,x' 23,x' 24,x' 25,x' 26,x' 27,x' 28,undef,undef,undef,undef,undef,undef,undef,undef,undef,undef,undef,undef,undef,undef,undef,undef,undef,undef,undef,undef,undef,undef,undef,undef,undef,undef,undef,undef,undef,undef,undef,undef,undef,undef,undef,undef,undef,undef],defers:=[] } from rfl]
   go_simp
   rw [← hK]
   exact ⟨_,rfl,rfl,Gr.refl _⟩
  ·obtain rfl:=Option.some.inj hi
   clear hd
   obtain ⟨K,hK⟩:∃ K,(fun (a':Act) (w':World)=>∃ v,a'=crFr a b (.slice Aa a.mem.length ca) (.slice Ab b.mem.length cb) w.heap.size Wa.heap.size (upd x 16 v)∧crSp a b (.slice Aa a.mem.length ca) (.slice Ab b.mem.length cb) w.heap.size Wa.heap.size 16 v w'∧Gr w1 w')=K:=⟨_,rfl⟩
   rw [hK]
   rw [show crFr a b (.slice Aa a.mem.length ca) (.slice Ab b.mem.length cb) w.heap.size Wa.heap.size x={ tmps:=#[.agg #[.int .i64 a.kind,.bool a.ret.p,.int .i64 a.ret.s,.int .u32 a.ret.n,.slice Aa a.mem.length ca],.agg #[.int .i64 b.kind,.bool b.ret.p,.int .i64 b.ret.s,.int .u32 b.ret.n,.slice Ab b.mem.length cb],(.pointer (some ⟨w.heap.size,0,none⟩)),(.pointer (some ⟨Wa.heap.size,0,none⟩)),(.int .i64 0),x 29,undef,undef,x 0,x 1,x 2,x 3,x 4,x 5,x 6,x 7,x 8,x 9,x 10,x 11,x 12,x 13,x 14,x 15,x 16,x 17,x 18,x 19,x 20,x 21,x 22,x 23,x 24,x 25,x 26,x 27,x 28,undef,undef,undef,undef,undef,undef,undef,undef,undef,undef,undef,undef,undef,undef,undef,undef,undef,undef,undef,undef,undef,undef,undef,undef,undef,undef,undef,undef,undef,undef,undef,undef,undef,undef,undef,undef,undef,undef],defers:=[] } from rfl]
   go_simp
   rw [← hK]
   exact ⟨_,rfl,rfl,Gr.refl _⟩
  ·obtain rfl:=Option.some.inj hi
   have d16:x 16=(.pointer (some ⟨Wa.heap.size,1,none⟩)):=hd ⟨16,.data⟩ (by simp) rfl
   obtain ⟨x',hx'⟩:∃ x',x=upd (x') 16 ((.pointer (some ⟨Wa.heap.size,1,none⟩))):=⟨x,by rw [← upd_self d16]⟩
   clear d16 hd
   subst hx'
   obtain ⟨K,hK⟩:∃ K,(fun (a':Act) (w':World)=>∃ v,a'=crFr a b (.slice Aa a.mem.length ca) (.slice Ab b.mem.length cb) w.heap.size Wa.heap.size (upd (upd x' 16 ((.pointer (some ⟨Wa.heap.size,1,none⟩)))) 17 v)∧crSp a b (.slice Aa a.mem.length ca) (.slice Ab b.mem.length cb) w.heap.size Wa.heap.size 17 v w'∧Gr w1 w')=K:=⟨_,rfl⟩
   rw [hK]
   rw [show crFr a b (.slice Aa a.mem.length ca) (.slice Ab b.mem.length cb) w.heap.size Wa.heap.size (upd x' 16 ((.pointer (some ⟨Wa.heap.size,1,none⟩))))={ tmps:=#[.agg #[.int .i64 a.kind,.bool a.ret.p,.int .i64 a.ret.s,.int .u32 a.ret.n,.slice Aa a.mem.length ca],.agg #[.int .i64 b.kind,.bool b.ret.p,.int .i64 b.ret.s,.int .u32 b.ret.n,.slice Ab b.mem.length cb],(.pointer (some ⟨w.heap.size,0,none⟩)),(.pointer (some ⟨Wa.heap.size,0,none⟩)),(.int .i64 0),x' 29,undef,undef,x' 0,x' 1,x' 2,x' 3,x' 4,x' 5,x' 6,x' 7,x' 8,x' 9,x' 10,x' 11,x' 12,x' 13,x' 14,x' 15,(.pointer (some ⟨Wa.heap.size,1,none⟩)),x' 17,x' 18,x' 19,x' 20,x' 21,x' 22,x' 23,x' 24,x' 25,x' 26,x' 27,x' 28,undef,undef,undef,undef,undef,undef,undef,undef,undef,undef,undef,undef,undef,undef,undef,undef,undef,undef,undef,undef,undef,undef,undef,undef,undef,undef,undef,undef,undef,undef,undef,undef,undef,undef,undef,undef,undef,undef],defers:=[] } from rfl]
   go_simp
   rw [← hK]
   exact ⟨_,rfl,rfl,Gr.refl _⟩
  ·obtain rfl:=Option.some.inj hi
   have d17:x 17=(.pointer (some ⟨Wa.heap.size,1,none⟩)):=hd ⟨17,.data⟩ (by simp) rfl
   obtain ⟨x',hx'⟩:∃ x',x=upd (x') 17 ((.pointer (some ⟨Wa.heap.size,1,none⟩))):=⟨x,by rw [← upd_self d17]⟩
   clear d17 hd
   subst hx'
   obtain ⟨K,hK⟩:∃ K,(fun (a':Act) (w':World)=>∃ v,a'=crFr a b (.slice Aa a.mem.length ca) (.slice Ab b.mem.length cb) w.heap.size Wa.heap.size (upd (upd x' 17 ((.pointer (some ⟨Wa.heap.size,1,none⟩)))) 18 v)∧crSp a b (.slice Aa a.mem.length ca) (.slice Ab b.mem.length cb) w.heap.size Wa.heap.size 18 v w'∧Gr w1 w')=K:=⟨_,rfl⟩
   rw [hK]
   rw [show crFr a b (.slice Aa a.mem.length ca) (.slice Ab b.mem.length cb) w.heap.size Wa.heap.size (upd x' 17 ((.pointer (some ⟨Wa.heap.size,1,none⟩))))={ tmps:=#[.agg #[.int .i64 a.kind,.bool a.ret.p,.int .i64 a.ret.s,.int .u32 a.ret.n,.slice Aa a.mem.length ca],.agg #[.int .i64 b.kind,.bool b.ret.p,.int .i64 b.ret.s,.int .u32 b.ret.n,.slice Ab b.mem.length cb],(.pointer (some ⟨w.heap.size,0,none⟩)),(.pointer (some ⟨Wa.heap.size,0,none⟩)),(.int .i64 0),x' 29,undef,undef,x' 0,x' 1,x' 2,x' 3,x' 4,x' 5,x' 6,x' 7,x' 8,x' 9,x' 10,x' 11,x' 12,x' 13,x' 14,x' 15,x' 16,(.pointer (some ⟨Wa.heap.size,1,none⟩)),x' 18,x' 19,x' 20,x' 21,x' 22,x' 23,x' 24,x' 25,x' 26,x' 27,x' 28,undef,undef,undef,undef,undef,undef,undef,undef,undef,undef,undef,undef,undef,undef,undef,undef,undef,undef,undef,undef,undef,undef,undef,undef,undef,undef,undef,undef,undef,undef,undef,undef,undef,undef,undef,undef,undef,undef],defers:=[] } from rfl]
   go_simp
   rw [← hK]
   exact ⟨_,rfl,rfl,Gr.refl _⟩
  ·obtain rfl:=Option.some.inj hi
   have d18:x 18=(.bool b.ret.p):=hd ⟨18,.data⟩ (by simp) rfl
   obtain ⟨x',hx'⟩:∃ x',x=upd (x') 18 ((.bool b.ret.p)):=⟨x,by rw [← upd_self d18]⟩
   clear d18 hd
   subst hx'
   obtain ⟨K,hK⟩:∃ K,(fun (a':Act) (w':World)=>∃ v,a'=crFr a b (.slice Aa a.mem.length ca) (.slice Ab b.mem.length cb) w.heap.size Wa.heap.size (upd (upd x' 18 ((.bool b.ret.p))) 19 v)∧crSp a b (.slice Aa a.mem.length ca) (.slice Ab b.mem.length cb) w.heap.size Wa.heap.size 19 v w'∧Gr w1 w')=K:=⟨_,rfl⟩
   rw [hK]
   rw [show crFr a b (.slice Aa a.mem.length ca) (.slice Ab b.mem.length cb) w.heap.size Wa.heap.size (upd x' 18 ((.bool b.ret.p)))={ tmps:=#[.agg #[.int .i64 a.kind,.bool a.ret.p,.int .i64 a.ret.s,.int .u32 a.ret.n,.slice Aa a.mem.length ca],.agg #[.int .i64 b.kind,.bool b.ret.p,.int .i64 b.ret.s,.int .u32 b.ret.n,.slice Ab b.mem.length cb],(.pointer (some ⟨w.heap.size,0,none⟩)),(.pointer (some ⟨Wa.heap.size,0,none⟩)),(.int .i64 0),x' 29,undef,undef,x' 0,x' 1,x' 2,x' 3,x' 4,x' 5,x' 6,x' 7,x' 8,x' 9,x' 10,x' 11,x' 12,x' 13,x' 14,x' 15,x' 16,x' 17,(.bool b.ret.p),x' 19,x' 20,x' 21,x' 22,x' 23,x' 24,x' 25,x' 26,x' 27,x' 28,undef,undef,undef,undef,undef,undef,undef,undef,undef,undef,undef,undef,undef,undef,undef,undef,undef,undef,undef,undef,undef,undef,undef,undef,undef,undef,undef,undef,undef,undef,undef,undef,undef,undef,undef,undef,undef,undef],defers:=[] } from rfl]
   go_simp
   go_at_call 83
   refine (r5bit_any b.ret.p w1).mono ?_
   rintro e w2 ⟨rfl,rfl⟩
   rw [← hK]
   exact ⟨_,rfl,rfl,Gr.refl _⟩
  ·obtain rfl:=Option.some.inj hi
   clear hd
   obtain ⟨K,hK⟩:∃ K,(fun (a':Act) (w':World)=>∃ v,a'=crFr a b (.slice Aa a.mem.length ca) (.slice Ab b.mem.length cb) w.heap.size Wa.heap.size (upd x 20 v)∧crSp a b (.slice Aa a.mem.length ca) (.slice Ab b.mem.length cb) w.heap.size Wa.heap.size 20 v w'∧Gr w1 w')=K:=⟨_,rfl⟩
   rw [hK]
   rw [show crFr a b (.slice Aa a.mem.length ca) (.slice Ab b.mem.length cb) w.heap.size Wa.heap.size x={ tmps:=#[.agg #[.int .i64 a.kind,.bool a.ret.p,.int .i64 a.ret.s,.int .u32 a.ret.n,.slice Aa a.mem.length ca],.agg #[.int .i64 b.kind,.bool b.ret.p,.int .i64 b.ret.s,.int .u32 b.ret.n,.slice Ab b.mem.length cb],(.pointer (some ⟨w.heap.size,0,none⟩)),(.pointer (some ⟨Wa.heap.size,0,none⟩)),(.int .i64 0),x 29,undef,undef,x 0,x 1,x 2,x 3,x 4,x 5,x 6,x 7,x 8,x 9,x 10,x 11,x 12,x 13,x 14,x 15,x 16,x 17,x 18,x 19,x 20,x 21,x 22,x 23,x 24,x 25,x 26,x 27,x 28,undef,undef,undef,undef,undef,undef,undef,undef,undef,undef,undef,undef,undef,undef,undef,undef,undef,undef,undef,undef,undef,undef,undef,undef,undef,undef,undef,undef,undef,undef,undef,undef,undef,undef,undef,undef,undef,undef],defers:=[] } from rfl]
   go_simp
   rw [← hK]
   exact ⟨_,rfl,rfl,Gr.refl _⟩
  ·obtain rfl:=Option.some.inj hi
   have d20:x 20=(.pointer (some ⟨Wa.heap.size,1,none⟩)):=hd ⟨20,.data⟩ (by simp) rfl
   obtain ⟨x',hx'⟩:∃ x',x=upd (x') 20 ((.pointer (some ⟨Wa.heap.size,1,none⟩))):=⟨x,by rw [← upd_self d20]⟩
   clear d20 hd
   subst hx'
   obtain ⟨K,hK⟩:∃ K,(fun (a':Act) (w':World)=>∃ v,a'=crFr a b (.slice Aa a.mem.length ca) (.slice Ab b.mem.length cb) w.heap.size Wa.heap.size (upd (upd x' 20 ((.pointer (some ⟨Wa.heap.size,1,none⟩)))) 21 v)∧crSp a b (.slice Aa a.mem.length ca) (.slice Ab b.mem.length cb) w.heap.size Wa.heap.size 21 v w'∧Gr w1 w')=K:=⟨_,rfl⟩
   rw [hK]
   rw [show crFr a b (.slice Aa a.mem.length ca) (.slice Ab b.mem.length cb) w.heap.size Wa.heap.size (upd x' 20 ((.pointer (some ⟨Wa.heap.size,1,none⟩))))={ tmps:=#[.agg #[.int .i64 a.kind,.bool a.ret.p,.int .i64 a.ret.s,.int .u32 a.ret.n,.slice Aa a.mem.length ca],.agg #[.int .i64 b.kind,.bool b.ret.p,.int .i64 b.ret.s,.int .u32 b.ret.n,.slice Ab b.mem.length cb],(.pointer (some ⟨w.heap.size,0,none⟩)),(.pointer (some ⟨Wa.heap.size,0,none⟩)),(.int .i64 0),x' 29,undef,undef,x' 0,x' 1,x' 2,x' 3,x' 4,x' 5,x' 6,x' 7,x' 8,x' 9,x' 10,x' 11,x' 12,x' 13,x' 14,x' 15,x' 16,x' 17,x' 18,x' 19,(.pointer (some ⟨Wa.heap.size,1,none⟩)),x' 21,x' 22,x' 23,x' 24,x' 25,x' 26,x' 27,x' 28,undef,undef,undef,undef,undef,undef,undef,undef,undef,undef,undef,undef,undef,undef,undef,undef,undef,undef,undef,undef,undef,undef,undef,undef,undef,undef,undef,undef,undef,undef,undef,undef,undef,undef,undef,undef,undef,undef],defers:=[] } from rfl]
   go_simp
   rw [← hK]
   exact ⟨_,rfl,rfl,Gr.refl _⟩
  ·obtain rfl:=Option.some.inj hi
   have d21:x 21=(.pointer (some ⟨Wa.heap.size,2,none⟩)):=hd ⟨21,.data⟩ (by simp) rfl
   obtain ⟨x',hx'⟩:∃ x',x=upd (x') 21 ((.pointer (some ⟨Wa.heap.size,2,none⟩))):=⟨x,by rw [← upd_self d21]⟩
   clear d21 hd
   subst hx'
   obtain ⟨K,hK⟩:∃ K,(fun (a':Act) (w':World)=>∃ v,a'=crFr a b (.slice Aa a.mem.length ca) (.slice Ab b.mem.length cb) w.heap.size Wa.heap.size (upd (upd x' 21 ((.pointer (some ⟨Wa.heap.size,2,none⟩)))) 22 v)∧crSp a b (.slice Aa a.mem.length ca) (.slice Ab b.mem.length cb) w.heap.size Wa.heap.size 22 v w'∧Gr w1 w')=K:=⟨_,rfl⟩
   rw [hK]
   rw [show crFr a b (.slice Aa a.mem.length ca) (.slice Ab b.mem.length cb) w.heap.size Wa.heap.size (upd x' 21 ((.pointer (some ⟨Wa.heap.size,2,none⟩))))={ tmps:=#[.agg #[.int .i64 a.kind,.bool a.ret.p,.int .i64 a.ret.s,.int .u32 a.ret.n,.slice Aa a.mem.length ca],.agg #[.int .i64 b.kind,.bool b.ret.p,.int .i64 b.ret.s,.int .u32 b.ret.n,.slice Ab b.mem.length cb],(.pointer (some ⟨w.heap.size,0,none⟩)),(.pointer (some ⟨Wa.heap.size,0,none⟩)),(.int .i64 0),x' 29,undef,undef,x' 0,x' 1,x' 2,x' 3,x' 4,x' 5,x' 6,x' 7,x' 8,x' 9,x' 10,x' 11,x' 12,x' 13,x' 14,x' 15,x' 16,x' 17,x' 18,x' 19,x' 20,(.pointer (some ⟨Wa.heap.size,2,none⟩)),x' 22,x' 23,x' 24,x' 25,x' 26,x' 27,x' 28,undef,undef,undef,undef,undef,undef,undef,undef,undef,undef,undef,undef,undef,undef,undef,undef,undef,undef,undef,undef,undef,undef,undef,undef,undef,undef,undef,undef,undef,undef,undef,undef,undef,undef,undef,undef,undef,undef],defers:=[] } from rfl]
   go_simp
   rw [← hK]
   exact ⟨_,rfl,rfl,Gr.refl _⟩
  ·obtain rfl:=Option.some.inj hi
   clear hd
   obtain ⟨K,hK⟩:∃ K,(fun (a':Act) (w':World)=>∃ v,a'=crFr a b (.slice Aa a.mem.length ca) (.slice Ab b.mem.length cb) w.heap.size Wa.heap.size (upd x 23 v)∧crSp a b (.slice Aa a.mem.length ca) (.slice Ab b.mem.length cb) w.heap.size Wa.heap.size 23 v w'∧Gr w1 w')=K:=⟨_,rfl⟩
   rw [hK]
   rw [show crFr a b (.slice Aa a.mem.length ca) (.slice Ab b.mem.length cb) w.heap.size Wa.heap.size x={ tmps:=#[.agg #[.int .i64 a.kind,.bool a.ret.p,.int .i64 a.ret.s,.int .u32 a.ret.n,.slice Aa a.mem.length ca],.agg #[.int .i64 b.kind,.bool b.ret.p,.int .i64 b.ret.s,.int .u32 b.ret.n,.slice Ab b.mem.length cb],(.pointer (some ⟨w.heap.size,0,none⟩)),(.pointer (some ⟨Wa.heap.size,0,none⟩)),(.int .i64 0),x 29,undef,undef,x 0,x 1,x 2,x 3,x 4,x 5,x 6,x 7,x 8,x 9,x 10,x 11,x 12,x 13,x 14,x 15,x 16,x 17,x 18,x 19,x 20,x 21,x 22,x 23,x 24,x 25,x 26,x 27,x 28,undef,undef,undef,undef,undef,undef,undef,undef,undef,undef,undef,undef,undef,undef,undef,undef,undef,undef,undef,undef,undef,undef,undef,undef,undef,undef,undef,undef,undef,undef,undef,undef,undef,undef,undef,undef,undef,undef],defers:=[] } from rfl]
   go_simp
   rw [← hK]
   exact ⟨_,rfl,rfl,Gr.refl _⟩
  ·obtain rfl:=Option.some.inj hi
   have d23:x 23=(.pointer (some ⟨Wa.heap.size,1,none⟩)):=hd ⟨23,.data⟩ (by simp) rfl
   obtain ⟨x',hx'⟩:∃ x',x=upd (x') 23 ((.pointer (some ⟨Wa.heap.size,1,none⟩))):=⟨x,by rw [← upd_self d23]⟩
   clear d23 hd
   subst hx'
   obtain ⟨K,hK⟩:∃ K,(fun (a':Act) (w':World)=>∃ v,a'=crFr a b (.slice Aa a.mem.length ca) (.slice Ab b.mem.length cb) w.heap.size Wa.heap.size (upd (upd x' 23 ((.pointer (some ⟨Wa.heap.size,1,none⟩)))) 24 v)∧crSp a b (.slice Aa a.mem.length ca) (.slice Ab b.mem.length cb) w.heap.size Wa.heap.size 24 v w'∧Gr w1 w')=K:=⟨_,rfl⟩
   rw [hK]
   rw [show crFr a b (.slice Aa a.mem.length ca) (.slice Ab b.mem.length cb) w.heap.size Wa.heap.size (upd x' 23 ((.pointer (some ⟨Wa.heap.size,1,none⟩))))={ tmps:=#[.agg #[.int .i64 a.kind,.bool a.ret.p,.int .i64 a.ret.s,.int .u32 a.ret.n,.slice Aa a.mem.length ca],.agg #[.int .i64 b.kind,.bool b.ret.p,.int .i64 b.ret.s,.int .u32 b.ret.n,.slice Ab b.mem.length cb],(.pointer (some ⟨w.heap.size,0,none⟩)),(.pointer (some ⟨Wa.heap.size,0,none⟩)),(.int .i64 0),x' 29,undef,undef,x' 0,x' 1,x' 2,x' 3,x' 4,x' 5,x' 6,x' 7,x' 8,x' 9,x' 10,x' 11,x' 12,x' 13,x' 14,x' 15,x' 16,x' 17,x' 18,x' 19,x' 20,x' 21,x' 22,(.pointer (some ⟨Wa.heap.size,1,none⟩)),x' 24,x' 25,x' 26,x' 27,x' 28,undef,undef,undef,undef,undef,undef,undef,undef,undef,undef,undef,undef,undef,undef,undef,undef,undef,undef,undef,undef,undef,undef,undef,undef,undef,undef,undef,undef,undef,undef,undef,undef,undef,undef,undef,undef,undef,undef],defers:=[] } from rfl]
   go_simp
   rw [← hK]
   exact ⟨_,rfl,rfl,Gr.refl _⟩
  ·obtain rfl:=Option.some.inj hi
   have d24:x 24=(.pointer (some ⟨Wa.heap.size,3,none⟩)):=hd ⟨24,.data⟩ (by simp) rfl
   obtain ⟨x',hx'⟩:∃ x',x=upd (x') 24 ((.pointer (some ⟨Wa.heap.size,3,none⟩))):=⟨x,by rw [← upd_self d24]⟩
   clear d24 hd
   subst hx'
   obtain ⟨K,hK⟩:∃ K,(fun (a':Act) (w':World)=>∃ v,a'=crFr a b (.slice Aa a.mem.length ca) (.slice Ab b.mem.length cb) w.heap.size Wa.heap.size (upd (upd x' 24 ((.pointer (some ⟨Wa.heap.size,3,none⟩)))) 25 v)∧crSp a b (.slice Aa a.mem.length ca) (.slice Ab b.mem.length cb) w.heap.size Wa.heap.size 25 v w'∧Gr w1 w')=K:=⟨_,rfl⟩
   rw [hK]
   rw [show crFr a b (.slice Aa a.mem.length ca) (.slice Ab b.mem.length cb) w.heap.size Wa.heap.size (upd x' 24 ((.pointer (some ⟨Wa.heap.size,3,none⟩))))={ tmps:=#[.agg #[.int .i64 a.kind,.bool a.ret.p,.int .i64 a.ret.s,.int .u32 a.ret.n,.slice Aa a.mem.length ca],.agg #[.int .i64 b.kind,.bool b.ret.p,.int .i64 b.ret.s,.int .u32 b.ret.n,.slice Ab b.mem.length cb],(.pointer (some ⟨w.heap.size,0,none⟩)),(.pointer (some ⟨Wa.heap.size,0,none⟩)),(.int .i64 0),x' 29,undef,undef,x' 0,x' 1,x' 2,x' 3,x' 4,x' 5,x' 6,x' 7,x' 8,x' 9,x' 10,x' 11,x' 12,x' 13,x' 14,x' 15,x' 16,x' 17,x' 18,x' 19,x' 20,x' 21,x' 22,x' 23,(.pointer (some ⟨Wa.heap.size,3,none⟩)),x' 25,x' 26,x' 27,x' 28,undef,undef,undef,undef,undef,undef,undef,undef,undef,undef,undef,undef,undef,undef,undef,undef,undef,undef,undef,undef,undef,undef,undef,undef,undef,undef,undef,undef,undef,undef,undef,undef,undef,undef,undef,undef,undef,undef],defers:=[] } from rfl]
   go_simp
   rw [← hK]
   exact ⟨_,rfl,rfl,Gr.refl _⟩
  ·obtain rfl:=Option.some.inj hi
   have d25:x 25=(.int .u32 b.ret.n):=hd ⟨25,.data⟩ (by simp) rfl
   obtain ⟨x',hx'⟩:∃ x',x=upd (x') 25 ((.int .u32 b.ret.n)):=⟨x,by rw [← upd_self d25]⟩
   clear d25 hd
   subst hx'
   obtain ⟨K,hK⟩:∃ K,(fun (a':Act) (w':World)=>∃ v,a'=crFr a b (.slice Aa a.mem.length ca) (.slice Ab b.mem.length cb) w.heap.size Wa.heap.size (upd (upd x' 25 ((.int .u32 b.ret.n))) 26 v)∧crSp a b (.slice Aa a.mem.length ca) (.slice Ab b.mem.length cb) w.heap.size Wa.heap.size 26 v w'∧Gr w1 w')=K:=⟨_,rfl⟩
   rw [hK]
   rw [show crFr a b (.slice Aa a.mem.length ca) (.slice Ab b.mem.length cb) w.heap.size Wa.heap.size (upd x' 25 ((.int .u32 b.ret.n)))={ tmps:=#[.agg #[.int .i64 a.kind,.bool a.ret.p,.int .i64 a.ret.s,.int .u32 a.ret.n,.slice Aa a.mem.length ca],.agg #[.int .i64 b.kind,.bool b.ret.p,.int .i64 b.ret.s,.int .u32 b.ret.n,.slice Ab b.mem.length cb],(.pointer (some ⟨w.heap.size,0,none⟩)),(.pointer (some ⟨Wa.heap.size,0,none⟩)),(.int .i64 0),x' 29,undef,undef,x' 0,x' 1,x' 2,x' 3,x' 4,x' 5,x' 6,x' 7,x' 8,x' 9,x' 10,x' 11,x' 12,x' 13,x' 14,x' 15,x' 16,x' 17,x' 18,x' 19,x' 20,x' 21,x' 22,x' 23,x' 24,(.int .u32 b.ret.n),x' 26,x' 27,x' 28,undef,undef,undef,undef,undef,undef,undef,undef,undef,undef,undef,undef,undef,undef,undef,undef,undef,undef,undef,undef,undef,undef,undef,undef,undef,undef,undef,undef,undef,undef,undef,undef,undef,undef,undef,undef,undef,undef],defers:=[] } from rfl]
   go_simp
   rw [IntWalk.i64_in _ (by omega)]
   rw [← hK]
   exact ⟨_,rfl,rfl,Gr.refl _⟩
  ·obtain rfl:=Option.some.inj hi
   have d15:x 15=(.int .i64 b.kind):=hd ⟨15,.data⟩ (by simp) rfl
   have d19:x 19=(.int .i64 (Rn.bit b.ret.p)):=hd ⟨19,.data⟩ (by simp) rfl
   have d22:x 22=(.int .i64 b.ret.s):=hd ⟨22,.data⟩ (by simp) rfl
   have d26:x 26=(.int .i64 b.ret.n):=hd ⟨26,.data⟩ (by simp) rfl
   obtain ⟨x',hx'⟩:∃ x',x=upd (upd (upd (upd (x') 15 ((.int .i64 b.kind))) 19 ((.int .i64 (Rn.bit b.ret.p)))) 22 ((.int .i64 b.ret.s))) 26 ((.int .i64 b.ret.n)):=⟨x,by rw [← upd_self d15];rw [← upd_self d19];rw [← upd_self d22];rw [← upd_self d26]⟩
   clear d15 d19 d22 d26 hd
   subst hx'
   obtain ⟨K,hK⟩:∃ K,(fun (a':Act) (w':World)=>∃ v,a'=crFr a b (.slice Aa a.mem.length ca) (.slice Ab b.mem.length cb) w.heap.size Wa.heap.size (upd (upd (upd (upd (upd x' 15 ((.int .i64 b.kind))) 19 ((.int .i64 (Rn.bit b.ret.p)))) 22 ((.int .i64 b.ret.s))) 26 ((.int .i64 b.ret.n))) 27 v)∧crSp a b (.slice Aa a.mem.length ca) (.slice Ab b.mem.length cb) w.heap.size Wa.heap.size 27 v w'∧Gr w1 w')=K:=⟨_,rfl⟩
   rw [hK]
   rw [show crFr a b (.slice Aa a.mem.length ca) (.slice Ab b.mem.length cb) w.heap.size Wa.heap.size (upd (upd (upd (upd x' 15 ((.int .i64 b.kind))) 19 ((.int .i64 (Rn.bit b.ret.p)))) 22 ((.int .i64 b.ret.s))) 26 ((.int .i64 b.ret.n)))={ tmps:=#[.agg #[.int .i64 a.kind,.bool a.ret.p,.int .i64 a.ret.s,.int .u32 a.ret.n,.slice Aa a.mem.length ca],.agg #[.int .i64 b.kind,.bool b.ret.p,.int .i64 b.ret.s,.int .u32 b.ret.n,.slice Ab b.mem.length cb],(.pointer (some ⟨w.heap.size,0,none⟩)),(.pointer (some ⟨Wa.heap.size,0,none⟩)),(.int .i64 0),x' 29,undef,undef,x' 0,x' 1,x' 2,x' 3,x' 4,x' 5,x' 6,x' 7,x' 8,x' 9,x' 10,x' 11,x' 12,x' 13,x' 14,(.int .i64 b.kind),x' 16,x' 17,x' 18,(.int .i64 (Rn.bit b.ret.p)),x' 20,x' 21,(.int .i64 b.ret.s),x' 23,x' 24,x' 25,(.int .i64 b.ret.n),x' 27,x' 28,undef,undef,undef,undef,undef,undef,undef,undef,undef,undef,undef,undef,undef,undef,undef,undef,undef,undef,undef,undef,undef,undef,undef,undef,undef,undef,undef,undef,undef,undef,undef,undef,undef,undef,undef,undef,undef,undef],defers:=[] } from rfl]
   go_simp
   rw [← hK]
   exact ⟨_,rfl,⟨_,rfl,ints4 (Gr.refl _)⟩,(Gr.refl _).alloc _⟩
  ·obtain rfl:=Option.some.inj hi
   obtain ⟨k13,d13,i13⟩:crSp a b (.slice Aa a.mem.length ca) (.slice Ab b.mem.length cb) w.heap.size Wa.heap.size 13 (x 13) w1:=hd ⟨13,.data⟩ (by simp) rfl
   obtain ⟨k27,d27,i27⟩:crSp a b (.slice Aa a.mem.length ca) (.slice Ab b.mem.length cb) w.heap.size Wa.heap.size 27 (x 27) w1:=hd ⟨27,.data⟩ (by simp) rfl
   obtain ⟨x',hx'⟩:∃ x',x=upd (upd (x') 13 ((.slice (some ⟨k13,0,none⟩) 4 4))) 27 ((.slice (some ⟨k27,0,none⟩) 4 4)):=⟨x,by rw [← upd_self d13];rw [← upd_self d27]⟩
   clear d13 d27 hd
   subst hx'
   obtain ⟨K,hK⟩:∃ K,(fun (a':Act) (w':World)=>∃ v,a'=crFr a b (.slice Aa a.mem.length ca) (.slice Ab b.mem.length cb) w.heap.size Wa.heap.size (upd (upd (upd x' 13 ((.slice (some ⟨k13,0,none⟩) 4 4))) 27 ((.slice (some ⟨k27,0,none⟩) 4 4))) 28 v)∧crSp a b (.slice Aa a.mem.length ca) (.slice Ab b.mem.length cb) w.heap.size Wa.heap.size 28 v w'∧Gr w1 w')=K:=⟨_,rfl⟩
   rw [hK]
   rw [show crFr a b (.slice Aa a.mem.length ca) (.slice Ab b.mem.length cb) w.heap.size Wa.heap.size (upd (upd x' 13 ((.slice (some ⟨k13,0,none⟩) 4 4))) 27 ((.slice (some ⟨k27,0,none⟩) 4 4)))={ tmps:=#[.agg #[.int .i64 a.kind,.bool a.ret.p,.int .i64 a.ret.s,.int .u32 a.ret.n,.slice Aa a.mem.length ca],.agg #[.int .i64 b.kind,.bool b.ret.p,.int .i64 b.ret.s,.int .u32 b.ret.n,.slice Ab b.mem.length cb],(.pointer (some ⟨w.heap.size,0,none⟩)),(.pointer (some ⟨Wa.heap.size,0,none⟩)),(.int .i64 0),x' 29,undef,undef,x' 0,x' 1,x' 2,x' 3,x' 4,x' 5,x' 6,x' 7,x' 8,x' 9,x' 10,x' 11,x' 12,(.slice (some ⟨k13,0,none⟩) 4 4),x' 14,x' 15,x' 16,x' 17,x' 18,x' 19,x' 20,x' 21,x' 22,x' 23,x' 24,x' 25,x' 26,(.slice (some ⟨k27,0,none⟩) 4 4),x' 28,undef,undef,undef,undef,undef,undef,undef,undef,undef,undef,undef,undef,undef,undef,undef,undef,undef,undef,undef,undef,undef,undef,undef,undef,undef,undef,undef,undef,undef,undef,undef,undef,undef,undef,undef,undef,undef,undef],defers:=[] } from rfl]
   go_simp
   go_at_call 82
   refine (r5ints_any i13 i27 (Nat.le_refl _)).mono ?_
   rintro e w2 ⟨rfl,g2⟩
   rw [← hK]
   exact ⟨_,rfl,rfl,g2⟩
  ·obtain rfl:=Option.some.inj hi
   have d28:x 28=(.int .i64 (Rn.cmpInts (Rn.heads a) (Rn.heads b))):=hd ⟨28,.data⟩ (by simp) rfl
   obtain ⟨x',hx'⟩:∃ x',x=upd (x') 28 ((.int .i64 (Rn.cmpInts (Rn.heads a) (Rn.heads b)))):=⟨x,by rw [← upd_self d28]⟩
   clear d28 hd
   subst hx'
   obtain ⟨K,hK⟩:∃ K,(fun (a':Act) (w':World)=>∃ v,a'=crFr a b (.slice Aa a.mem.length ca) (.slice Ab b.mem.length cb) w.heap.size Wa.heap.size (upd (upd x' 28 ((.int .i64 (Rn.cmpInts (Rn.heads a) (Rn.heads b))))) 29 v)∧crSp a b (.slice Aa a.mem.length ca) (.slice Ab b.mem.length cb) w.heap.size Wa.heap.size 29 v w'∧Gr w1 w')=K:=⟨_,rfl⟩
   rw [hK]
   rw [show crFr a b (.slice Aa a.mem.length ca) (.slice Ab b.mem.length cb) w.heap.size Wa.heap.size (upd x' 28 ((.int .i64 (Rn.cmpInts (Rn.heads a) (Rn.heads b)))))={ tmps:=#[.agg #[.int .i64 a.kind,.bool a.ret.p,.int .i64 a.ret.s,.int .u32 a.ret.n,.slice Aa a.mem.length ca],.agg #[.int .i64 b.kind,.bool b.ret.p,.int .i64 b.ret.s,.int .u32 b.ret.n,.slice Ab b.mem.length cb],(.pointer (some ⟨w.heap.size,0,none⟩)),(.pointer (some ⟨Wa.heap.size,0,none⟩)),(.int .i64 0),x' 29,undef,undef,x' 0,x' 1,x' 2,x' 3,x' 4,x' 5,x' 6,x' 7,x' 8,x' 9,x' 10,x' 11,x' 12,x' 13,x' 14,x' 15,x' 16,x' 17,x' 18,x' 19,x' 20,x' 21,x' 22,x' 23,x' 24,x' 25,x' 26,x' 27,(.int .i64 (Rn.cmpInts (Rn.heads a) (Rn.heads b))),undef,undef,undef,undef,undef,undef,undef,undef,undef,undef,undef,undef,undef,undef,undef,undef,undef,undef,undef,undef,undef,undef,undef,undef,undef,undef,undef,undef,undef,undef,undef,undef,undef,undef,undef,undef,undef,undef],defers:=[] } from rfl]
   go_simp
   rw [← hK]
   exact ⟨_,rfl,rfl,Gr.refl _⟩
 ·intro x w5 g5 hall
  have d29:x 29=.int .i64 (Rn.cmpInts (Rn.heads a) (Rn.heads b)):=hall 29 (by decide)
  have hx0:∃ x',x=upd x' 29 (.int .i64 (Rn.cmpInts (Rn.heads a) (Rn.heads b))):=⟨x,by rw [← upd_self d29]⟩
  clear d29 hall
  obtain ⟨x',rfl⟩:=hx0
  rw [show crFr a b (.slice Aa a.mem.length ca) (.slice Ab b.mem.length cb) w.heap.size Wa.heap.size (upd x' 29 (.int .i64 (Rn.cmpInts (Rn.heads a) (Rn.heads b))))={ tmps:=#[.agg #[.int .i64 a.kind,.bool a.ret.p,.int .i64 a.ret.s,.int .u32 a.ret.n,.slice Aa a.mem.length ca],.agg #[.int .i64 b.kind,.bool b.ret.p,.int .i64 b.ret.s,.int .u32 b.ret.n,.slice Ab b.mem.length cb],(.pointer (some ⟨w.heap.size,0,none⟩)),(.pointer (some ⟨Wa.heap.size,0,none⟩)),(.int .i64 0),(.int .i64 (Rn.cmpInts (Rn.heads a) (Rn.heads b))),undef,undef,x' 0,x' 1,x' 2,x' 3,x' 4,x' 5,x' 6,x' 7,x' 8,x' 9,x' 10,x' 11,x' 12,x' 13,x' 14,x' 15,x' 16,x' 17,x' 18,x' 19,x' 20,x' 21,x' 22,x' 23,x' 24,x' 25,x' 26,x' 27,x' 28,undef,undef,undef,undef,undef,undef,undef,undef,undef,undef,undef,undef,undef,undef,undef,undef,undef,undef,undef,undef,undef,undef,undef,undef,undef,undef,undef,undef,undef,undef,undef,undef,undef,undef,undef,undef,undef,undef],defers:=[] } from rfl]
  have G5:=Lib.hid g5
  clear g5
  have A4:=fun (u:GrW W)=>(HXA.out u).2.2.2.2
  have B4:=fun (u:GrW W)=>(HXB.out u).2.2.2.2
  have a4:=A4 ⟨w5,G5.out⟩
  have b4:=B4 ⟨w5,G5.out⟩
  dsimp only at a4 b4
  have HA4:=Lib.hid A4
  have HB4:=Lib.hid B4
  clear A4 B4
  obtain ⟨H,hH⟩:∃ H,Rn.cmpInts (Rn.heads a) (Rn.heads b)=H:=⟨_,rfl⟩
  obtain ⟨R,hR⟩:∃ R,Rn.cmpOut a b=R:=⟨_,rfl⟩
  rw [hH,hR] at HR
  rw [hH]
  clear hH n1 n2 n3 n4
  by_cases h0:H=0
  ·subst h0
   have HM:Hid (Rn.cmpMem a.mem b.mem=R):=by show _=_;have:=HR.out;rw [if_pos rfl] at this;exact this.symm
   go_wp2
   go_loopw [6] (fun s6 wr=>∃ k:Nat,k≤a.mem.length∧k≤b.mem.length∧s6=.int .i64 (k:Int)∧Hid (Rn.cmpMem (a.mem.drop k) (b.mem.drop k)=R)∧Hid (Gr W wr)) (fun s6 _=>a.mem.length-(intOf s6).toNat)
   case atStart=>exact ⟨0,Nat.zero_le _,Nat.zero_le _,rfl,HM,G5⟩
   case round =>
    obtain ⟨k,hka,hkb,rfl,HK,HGW⟩:=hrel
    have r4:=HA4.out ⟨wr,HGW.out⟩
    have s4:=HB4.out ⟨wr,HGW.out⟩
    dsimp only at r4 s4
    by_cases hlt:k<a.mem.length
    ·by_cases hlb:k<b.mem.length
     ·obtain ⟨x,hx⟩:∃ x,a.mem[k]?=some x:=⟨_,List.getElem?_eq_getElem hlt⟩
      obtain ⟨y,hy⟩:∃ y,b.mem[k]?=some y:=⟨_,List.getElem?_eq_getElem hlb⟩
      obtain ⟨Aa',ca',ea,-,-,t3⟩:=HTA.out wr HGW.out
      obtain ⟨ba,oa,e1,hba,t4⟩:=t3 (by omega)
      injection ea with ea ea2 ea3
      rw [← ea] at e1
      subst e1
      obtain ⟨va1,cva,iva⟩:=t4 k x hx
      obtain ⟨Ab',cb',eb,-,-,u3⟩:=HTB.out wr HGW.out
      obtain ⟨bb,ob,e2,hbb,u4⟩:=u3 (by omega)
      injection eb with eb eb2 eb3
      rw [← eb] at e2
      subst e2
      obtain ⟨vb1,cvb,ivb⟩:=u4 k y hy
      have da:a.mem.drop k=x::a.mem.drop (k+1):=by rw [List.drop_eq_getElem_cons hlt];congr 1;rw [List.getElem?_eq_getElem hlt] at hx;injection hx
      have db:b.mem.drop k=y::b.mem.drop (k+1):=by rw [List.drop_eq_getElem_cons hlb];congr 1;rw [List.getElem?_eq_getElem hlb] at hy;injection hy
      have CC:=Lib.hid fun (u:GrW wr)=>r5ints_any (w:=u.val) (iva.gr u.gr) (ivb.gr u.gr) (Nat.le_refl _)
      have UA:=fun (u:GrW wr)=>(u.gr.cell _ _ hba).trans cva
      have UB:=fun (u:GrW wr)=>(u.gr.cell _ _ hbb).trans cvb
      have R4:=fun (u:GrW wr)=>HA4.out ⟨u.val,HGW.out.trans u.gr⟩
      have S4:=fun (u:GrW wr)=>HB4.out ⟨u.val,HGW.out.trans u.gr⟩
      have HQ:Hid ((if Rn.cmpInts x y=0 then Rn.cmpMem (a.mem.drop (k+1)) (b.mem.drop (k+1)) else Rn.cmpInts x y)=R):=by
       show _=_
       have:=HK.out
       rw [da,db,Rn.cmpMem] at this
       exact this
      obtain ⟨d,hd⟩:∃ d,Rn.cmpInts x y=d:=⟨_,rfl⟩
      rw [hd] at CC HQ
      obtain ⟨Av,cv,rfl,-,-,-⟩:=iva
      obtain ⟨Av',cv',rfl,-,-,-⟩:=ivb
      clear hx hy da db hd HK t3 t4 u3 u4 cva cvb ea2 ea3 eb2 eb3 ea eb
      by_cases hd0:d=0
      ·subst hd0
       go_wp2
       refine wp_region_quietGr (by kernel_rfl) (by kernel_rfl) ?_
       repeat (go_big_quiet_step ((rename_i u;go_at_call 82;exact grW_call u (CC.out u))))
       refine wpQuiet_nil ?_
       intro w9 hw9
       obtain ⟨u9,rfl⟩:=hw9
       have G9:=Lib.hid (HGW.out.trans u9.gr)
       clear UA UB R4 S4
       go_wp2
       go_roundw
       case rel=>exact ⟨k+1,by omega,by omega,by go_num,by (show _=_);have:=HQ.out;simpa using this,G9.out⟩
       case measure=>simp [intOf];omega
      ·have HE:Hid (R=d):=by show _=_;have:=HQ.out;rw [if_neg hd0] at this;exact this.symm
       go_wp2
       refine wp_region_quietGr (by kernel_rfl) (by kernel_rfl) ?_
       repeat (go_big_quiet_step ((rename_i u;go_at_call 82;exact grW_call u (CC.out u))))
       refine wpQuiet_nil ?_
       intro w9 hw9
       obtain ⟨u9,rfl⟩:=hw9
       have G9:=Lib.hid (HG.out.trans (HGW.out.trans u9.gr))
       clear UA UB R4 S4
       go_wp2
       go_ret
       exact ⟨ret_int (HE.out.symm.trans hR.symm),G9.out⟩
     ·obtain rfl:k=b.mem.length:=by omega
      have HE:Hid (R=Rn.sgn a.mem.length b.mem.length):=by show _=_;rw [← HK.out];exact Rn.cmpMem_end hka hkb (.inr rfl)
      have CC:=Lib.hid (r5sign_any a.mem.length b.mem.length wr)
      clear HK
      go_wp2_with (go_at_call 84;(with_reducible refine CC.out.mono ?_);rintro e w1 ⟨rfl,rfl⟩)
      go_ret
      exact ⟨ret_int (HE.out.symm.trans hR.symm),HG.out.trans HGW.out⟩
    ·obtain rfl:k=a.mem.length:=by omega
     have HE:Hid (R=Rn.sgn a.mem.length b.mem.length):=by show _=_;rw [← HK.out];exact Rn.cmpMem_end hka hkb (.inl rfl)
     have CC:=Lib.hid (r5sign_any a.mem.length b.mem.length wr)
     clear HK
     go_wp2_with (go_at_call 84;(with_reducible refine CC.out.mono ?_);rintro e w1 ⟨rfl,rfl⟩)
     go_ret
     exact ⟨ret_int (HE.out.symm.trans hR.symm),HG.out.trans HGW.out⟩
  ·have HE:Hid (R=H):=by show _=_;have:=HR.out;rw [if_neg h0] at this;exact this
   go_wp2
   go_ret
   exact ⟨ret_int (HE.out.symm.trans hR.symm),HG.out.trans G5.out⟩
theorem r5before_any {B:Nat} {w:World} {a b:Rn.Out} {va vb:Value} (ha:TabAt B w va a.mem) (hb:TabAt B w vb b.mem) (hB:B≤w.heap.size) (hna:0≤a.ret.n∧a.ret.n<4294967296) (hnb:0≤b.ret.n∧b.ret.n<4294967296) :
  Calls Tryz.prog 23 #[outV a va,outV b vb] w fun e w'=>e=.returned (.bool (decide (Rn.cmpOut a b<0)))∧Gr w w':=by
 obtain ⟨Wa,hWa⟩:∃ Wa,obox w a va=Wa:=⟨_,rfl⟩
 obtain ⟨W,hW⟩:∃ W,obox Wa b vb=W:=⟨_,rfl⟩
 have g1:Gr w Wa:=by rw [← hWa];exact (Gr.refl w).alloc _
 have g2:Gr Wa W:=by rw [← hW];exact (Gr.refl Wa).alloc _
 have hs:Wa.heap.size=w.heap.size+1:=by rw [← hWa];unfold obox;simp
 obtain ⟨a0,a1,a2,a3,a4⟩:=obox_cells (w:=w) (o:=a) (vm:=va) (w':=W) (by rw [hWa];exact g2)
 obtain ⟨b0,b1,b2,b3,b4⟩:=obox_cells (w:=Wa) (o:=b) (vm:=vb) (w':=W) (by rw [hW];exact Gr.refl _)
 have CC:=Lib.hid (r5compare_any (w:=W) (a:=a) (b:=b) (ha.below (Below.mono (g1.trans g2) hB)) (hb.below (Below.mono (g1.trans g2) hB)) (by have:=(g1.trans g2).size;omega) hna hnb)
 have HG:=Lib.hid (g1.trans g2)
 obtain ⟨Aa,ca,rfl,-,-,-⟩:=ha
 obtain ⟨Ab,cb,rfl,-,-,-⟩:=hb
 generalize Rn.cmpOut a b=R at *
 clear hs g1 g2
 unfold obox at hWa hW
 unfold outV at *
 by_cases hR:R<0
 all_goals
  go_enter Tryz.func23, Tryz.ntmps23
  go_wp2_with (go_at_call 46;(with_reducible refine CC.out.mono ?_);rintro e w8 ⟨rfl,g8⟩)
  go_ret
  exact ⟨ret_bool (by simp [hR]),HG.out.trans g8⟩
theorem r5same_any {B:Nat} {w:World} {a b:Rn.Out} {va vb:Value} (ha:TabAt B w va a.mem) (hb:TabAt B w vb b.mem) (hB:B≤w.heap.size) (hna:0≤a.ret.n∧a.ret.n<4294967296) (hnb:0≤b.ret.n∧b.ret.n<4294967296) :
  Calls Tryz.prog 18 #[outV a va,outV b vb] w fun e w'=>e=.returned (.bool (decide (Rn.cmpOut a b=0)))∧Gr w w':=by
 obtain ⟨Wa,hWa⟩:∃ Wa,obox w a va=Wa:=⟨_,rfl⟩
 obtain ⟨W,hW⟩:∃ W,obox Wa b vb=W:=⟨_,rfl⟩
 have g1:Gr w Wa:=by rw [← hWa];exact (Gr.refl w).alloc _
 have g2:Gr Wa W:=by rw [← hW];exact (Gr.refl Wa).alloc _
 have hs:Wa.heap.size=w.heap.size+1:=by rw [← hWa];unfold obox;simp
 obtain ⟨a0,a1,a2,a3,a4⟩:=obox_cells (w:=w) (o:=a) (vm:=va) (w':=W) (by rw [hWa];exact g2)
 obtain ⟨b0,b1,b2,b3,b4⟩:=obox_cells (w:=Wa) (o:=b) (vm:=vb) (w':=W) (by rw [hW];exact Gr.refl _)
 have CC:=Lib.hid (r5compare_any (w:=W) (a:=a) (b:=b) (ha.below (Below.mono (g1.trans g2) hB)) (hb.below (Below.mono (g1.trans g2) hB)) (by have:=(g1.trans g2).size;omega) hna hnb)
 have HG:=Lib.hid (g1.trans g2)
 obtain ⟨Aa,ca,rfl,-,-,-⟩:=ha
 obtain ⟨Ab,cb,rfl,-,-,-⟩:=hb
 generalize Rn.cmpOut a b=R at *
 clear hs g1 g2
 unfold obox at hWa hW
 unfold outV at *
 by_cases hR:R=0
 all_goals
  go_enter Tryz.func18, Tryz.ntmps18
  go_wp2_with (go_at_call 46;(with_reducible refine CC.out.mono ?_);rintro e w8 ⟨rfl,g8⟩)
  go_ret
  exact ⟨ret_bool (by simp [hR]),HG.out.trans g8⟩
end Go.Proofs.YthfhamagopbgcaaGreat

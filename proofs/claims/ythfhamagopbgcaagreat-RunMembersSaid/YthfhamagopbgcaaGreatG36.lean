/- Parts: Ob Iu Rh Ri. -/
import Derived.Test.YthfhamagopbgcaaGreatG35
import Derived.Test.YthfhamagopbgcaaGreatG34
import Derived.Test.YthfhamagopbgcaaGreatG33
import Derived.Test.YthfhamagopbgcaaGreatG21
import Derived.Test.YthfhamagopbgcaaGreatG32
import Derived.Test.YthfhamagopbgcaaGreatG31
namespace Go.Proofs.YthfhamagopbgcaaGreat
set_option linter.unusedSimpArgs false
set_option linter.unusedVariables false
open Go.RowKit

/-- The first that is not 0. -/
def firstNZ:List Int→Int
 | []=>0
 | x::r=>if x=0 then firstNZ r else x
namespace Rn
def five (a b:Out):List Int:=[sgn a.kind b.kind,sgn (bit a.ret.p) (bit b.ret.p),sgn a.ret.s b.ret.s,sgn a.ret.n b.ret.n,cmpMem a.mem b.mem]
theorem five_cmp (a b:Out):firstNZ (five a b)=cmpOut a b:=by
 unfold five cmpOut heads
 simp only [firstNZ,cmpInts]
 repeat' split
 all_goals first
  | rfl
  | contradiction
  | omega
end Rn
theorem or_any {B:Nat} {w:World} {v:Value} {zs:List Int} (hv:IntsAt B w v zs) :
  Calls Tryz.prog 87 #[v] w fun e w'=>e=.returned (.int .i64 (firstNZ zs))∧w'=w:=by
 obtain ⟨A,ca,rfl,a1,a2,a3⟩:=hv
 obtain ⟨R,hR⟩:∃ R,firstNZ zs=R:=⟨_,rfl⟩
 have H0:=Lib.hid hR
 rw [hR]
 clear hR
 go_enter Tryz.func87, Tryz.ntmps87
 go_wp2
 go_loop [8] (fun s8=>∃ k:Nat,k≤zs.length∧s8=.int .i64 (k:Int)∧Hid (firstNZ (zs.drop k)=R)) (fun s8=>zs.length-(intOf s8).toNat)
 case atStart=>exact ⟨0,Nat.zero_le _,rfl,H0⟩
 case round =>
  obtain ⟨k,hk,rfl,HK⟩:=hrel
  by_cases hlt:k<zs.length
  ·obtain ⟨x,hx⟩:∃ x,zs[k]?=some x:=⟨_,List.getElem?_eq_getElem hlt⟩
   obtain ⟨ba,oa,rfl,-,a4⟩:=a3 (by omega)
   have c1:=a4 k x hx
   have HQ:Hid ((if x=0 then firstNZ (zs.drop (k+1)) else x)=R):=by
    show _=_
    have da:zs.drop k=x::zs.drop (k+1):=by rw [List.drop_eq_getElem_cons hlt];congr 1;rw [List.getElem?_eq_getElem hlt] at hx;injection hx
    have:=HK.out
    rw [da,firstNZ] at this
    exact this
   clear hx a3 a4 HK
   by_cases h0:x=0
   ·subst h0
    go_wp2
    go_round
    case rel=>exact ⟨k+1,by omega,by go_num,by (show _=_);have:=HQ.out;simpa using this⟩
    case measure=>simp [intOf];omega
   ·have HE:Hid (R=x):=by show _=_;have:=HQ.out;rw [if_neg h0] at this;exact this.symm
    go_wp2
    go_ret
    exact ⟨ret_int HE.out.symm,rfl⟩
  ·obtain rfl:k=zs.length:=by omega
   have HE:Hid (R=0):=by
    show _=_
    have:=HK.out
    rw [List.drop_eq_nil_of_le (Nat.le_refl zs.length),firstNZ] at this
    exact this.symm
   clear a3 HK
   go_wp2
   go_ret
   exact ⟨ret_int HE.out.symm,rfl⟩
theorem order_any (a b:Bool) (w:World):Calls Tryz.prog 89 #[.bool a,.bool b] w fun e w'=>e=.returned (.int .i64 (Rn.sgn (Rn.bit a) (Rn.bit b)))∧w'=w:=by
 cases a <;> cases b
 all_goals
  go_enter Tryz.func89, Tryz.ntmps89
  go_wp2
  go_ret
  exact ⟨ret_int (by decide),rfl⟩
/-- v is the value of an outcome. -/
def outV (o:Rn.Out) (vm:Value):Value:=.agg #[.int .i64 o.kind,.bool o.ret.p,.int .i64 o.ret.s,.int .u32 o.ret.n,vm]
def obox (w:World) (o:Rn.Out) (vm:Value):World:=w.alloc (.cells #[.int .i64 o.kind,.bool o.ret.p,.int .i64 o.ret.s,.int .u32 o.ret.n,vm] 39)
theorem obox_cells {w:World} {o:Rn.Out} {vm:Value} {w':World} (g:Gr (obox w o vm) w') :
  w'.cell? ⟨w.heap.size,0,none⟩=some (.int .i64 o.kind)∧w'.cell? ⟨w.heap.size,1,none⟩=some (.bool o.ret.p)∧w'.cell? ⟨w.heap.size,2,none⟩=some (.int .i64 o.ret.s)∧w'.cell? ⟨w.heap.size,3,none⟩=some (.int .u32 o.ret.n)∧w'.cell? ⟨w.heap.size,4,none⟩=some vm :=
 ⟨cell_box _ _ 0 g rfl,cell_box _ _ 1 g rfl,cell_box _ _ 2 g rfl,cell_box _ _ 3 g rfl,cell_box _ _ 4 g rfl⟩
theorem still_gr {P:Program} {f:FuncId} {args:Array Value} {w:World} {v:Value} (h:Calls P f args w fun e w'=>e=.returned v∧w'=w):Calls P f args w fun e w'=>e=.returned v∧Gr w w' :=
 h.mono fun _ _ q=>⟨q.1,by rw [q.2];exact Gr.refl _⟩
theorem ints5 {w:World} {d1 d2 d3 d4 d5:Int} {t:TypeId}:IntsAt (w.alloc (.cells #[.int .i64 d1,.int .i64 d2,.int .i64 d3,.int .i64 d4,.int .i64 d5] t)).heap.size (w.alloc (.cells #[.int .i64 d1,.int .i64 d2,.int .i64 d3,.int .i64 d4,.int .i64 d5] t)) (.slice (some ⟨w.heap.size,0,none⟩) 5 5) [d1,d2,d3,d4,d5]:=by
 refine ⟨_,_,rfl,Nat.le_refl 5,by show 5≤17592186044416;decide,fun _=>⟨w.heap.size,0,rfl,by simp,fun j z hz=>?_⟩⟩
 rw [cell_of_row _ _ _ _ _ _ (heap_alloc_new w _)]
 match j,hz with
 | 0,hz=>simp at hz;subst hz;rfl
 | 1,hz=>simp at hz;subst hz;rfl
 | 2,hz=>simp at hz;subst hz;rfl
 | 3,hz=>simp at hz;subst hz;rfl
 | 4,hz=>simp at hz;subst hz;rfl
set_option maxRecDepth 100000 in
set_option maxHeartbeats 4000000 in
theorem compare_any {B:Nat} {w:World} {a b:Rn.Out} {va vb:Value} (ha:TabAt B w va a.mem) (hb:TabAt B w vb b.mem) (hB:B≤w.heap.size) :
  Calls Tryz.prog 50 #[outV a va,outV b vb] w fun e w'=>e=.returned (.int .i64 (Rn.cmpOut a b))∧Gr w w':=by
 obtain ⟨Wa,hWa⟩:∃ Wa,obox w a va=Wa:=⟨_,rfl⟩
 obtain ⟨W,hW⟩:∃ W,obox Wa b vb=W:=⟨_,rfl⟩
 have g1:Gr w Wa:=by rw [← hWa];exact (Gr.refl w).alloc _
 have g2:Gr Wa W:=by rw [← hW];exact (Gr.refl Wa).alloc _
 have hs:Wa.heap.size=w.heap.size+1:=by rw [← hWa];unfold obox;simp
 have XA:=fun (u:GrW W)=>obox_cells (w:=w) (o:=a) (vm:=va) (w':=u.val) (by rw [hWa];exact g2.trans u.gr)
 have XB:=fun (u:GrW W)=>obox_cells (w:=Wa) (o:=b) (vm:=vb) (w':=u.val) (by rw [hW];exact u.gr)
 have A0:=fun u=>(XA u).1
 have A1:=fun u=>(XA u).2.1
 have A2:=fun u=>(XA u).2.2.1
 have A3:=fun u=>(XA u).2.2.2.1
 have A4:=fun u=>(XA u).2.2.2.2
 have B0:=fun u=>(XB u).1
 have B1:=fun u=>(XB u).2.1
 have B2:=fun u=>(XB u).2.2.1
 have B3:=fun u=>(XB u).2.2.2.1
 have B4:=fun u=>(XB u).2.2.2.2
 have C1:=Lib.hid fun (u:GrW W)=>still_gr (cmpI_any a.kind b.kind u.val)
 have C2:=Lib.hid fun (u:GrW W)=>still_gr (order_any a.ret.p b.ret.p u.val)
 have C3:=Lib.hid fun (u:GrW W)=>still_gr (cmpI_any a.ret.s b.ret.s u.val)
 have C4:=Lib.hid fun (u:GrW W)=>still_gr (cmpU_any a.ret.n b.ret.n u.val)
 have C5:=Lib.hid fun (u:GrW W)=>still_gr (cmpTab_any (w:=u.val) (ha.below (Below.mono ((g1.trans g2).trans u.gr) hB)) (hb.below (Below.mono ((g1.trans g2).trans u.gr) hB)))
 have HR:Hid (∀ w9:World,Calls Tryz.prog 87 #[.slice (some ⟨w9.heap.size,0,none⟩) 5 5] (w9.alloc (.cells #[.int .i64 (Rn.sgn a.kind b.kind),.int .i64 (Rn.sgn (Rn.bit a.ret.p) (Rn.bit b.ret.p)),.int .i64 (Rn.sgn a.ret.s b.ret.s),.int .i64 (Rn.sgn a.ret.n b.ret.n),.int .i64 (Rn.cmpMem a.mem b.mem)] 3)) fun e w'=>e=.returned (.int .i64 (Rn.cmpOut a b))∧w'=(w9.alloc (.cells #[.int .i64 (Rn.sgn a.kind b.kind),.int .i64 (Rn.sgn (Rn.bit a.ret.p) (Rn.bit b.ret.p)),.int .i64 (Rn.sgn a.ret.s b.ret.s),.int .i64 (Rn.sgn a.ret.n b.ret.n),.int .i64 (Rn.cmpMem a.mem b.mem)] 3))):=fun w9=>by
  have:=or_any (ints5 (w:=w9) (d1:=Rn.sgn a.kind b.kind) (d2:=Rn.sgn (Rn.bit a.ret.p) (Rn.bit b.ret.p)) (d3:=Rn.sgn a.ret.s b.ret.s) (d4:=Rn.sgn a.ret.n b.ret.n) (d5:=Rn.cmpMem a.mem b.mem) (t:=3))
  rwa [show [Rn.sgn a.kind b.kind,Rn.sgn (Rn.bit a.ret.p) (Rn.bit b.ret.p),Rn.sgn a.ret.s b.ret.s,Rn.sgn a.ret.n b.ret.n,Rn.cmpMem a.mem b.mem]=Rn.five a b from rfl,Rn.five_cmp] at this
 have HG:=Lib.hid (g1.trans g2)
 obtain ⟨Aa,ca,rfl,-,-,-⟩:=ha
 obtain ⟨Ab,cb,rfl,-,-,-⟩:=hb
 generalize Rn.sgn a.kind b.kind=d1 at *
 generalize Rn.sgn (Rn.bit a.ret.p) (Rn.bit b.ret.p)=d2 at *
 generalize Rn.sgn a.ret.s b.ret.s=d3 at *
 generalize Rn.sgn a.ret.n b.ret.n=d4 at *
 generalize Rn.cmpMem a.mem b.mem=d5 at *
 generalize Rn.cmpOut a b=R at *
 clear XA XB hs g1 g2
 unfold obox at hWa hW
 unfold outV
 go_enter Tryz.func50, Tryz.ntmps50
 go_wp2
 refine wp_region_tailGr 31 (by kernel_rfl) (by kernel_rfl) ?_
 simp only [List.take_succ_cons,List.take_zero,List.drop_succ_cons,List.drop_zero]
 repeat (go_big_quiet_step (first
   | (rename_i u;go_at_call 88;with_reducible exact grW_call u (C1.out u))
   | (rename_i u;go_at_call 88;with_reducible exact grW_call u (C3.out u))
   | (rename_i u;go_at_call 89;exact grW_call u (C2.out u))
   | (rename_i u;go_at_call 90;exact grW_call u (C4.out u))
   | (rename_i u;go_at_call 91;exact grW_call u (C5.out u))))
 refine wpQuiet_nil ?_
 intro w9 hw9
 obtain ⟨u9,rfl⟩:=hw9
 have G9:=Lib.hid u9.gr
 clear A0 A1 A2 A3 A4 B0 B1 B2 B3 B4
 go_wp2_with (go_at_call 87;(with_reducible refine (HR.out _).mono ?_);rintro e w8 ⟨rfl,rfl⟩)
 go_ret
 exact ⟨rfl,(HG.out.trans G9.out).alloc _⟩
theorem obefore_any {B:Nat} {w:World} {a b:Rn.Out} {va vb:Value} (ha:TabAt B w va a.mem) (hb:TabAt B w vb b.mem) (hB:B≤w.heap.size) :
  Calls Tryz.prog 22 #[outV a va,outV b vb] w fun e w'=>e=.returned (.bool (decide (Rn.cmpOut a b<0)))∧Gr w w':=by
 obtain ⟨Wa,hWa⟩:∃ Wa,obox w a va=Wa:=⟨_,rfl⟩
 obtain ⟨W,hW⟩:∃ W,obox Wa b vb=W:=⟨_,rfl⟩
 have g1:Gr w Wa:=by rw [← hWa];exact (Gr.refl w).alloc _
 have g2:Gr Wa W:=by rw [← hW];exact (Gr.refl Wa).alloc _
 have hs:Wa.heap.size=w.heap.size+1:=by rw [← hWa];unfold obox;simp
 obtain ⟨a0,a1,a2,a3,a4⟩:=obox_cells (w:=w) (o:=a) (vm:=va) (w':=W) (by rw [hWa];exact g2)
 obtain ⟨b0,b1,b2,b3,b4⟩:=obox_cells (w:=Wa) (o:=b) (vm:=vb) (w':=W) (by rw [hW];exact Gr.refl _)
 have CC:=Lib.hid (compare_any (w:=W) (a:=a) (b:=b) (ha.below (Below.mono (g1.trans g2) hB)) (hb.below (Below.mono (g1.trans g2) hB)) (by have:=(g1.trans g2).size;omega))
 have HG:=Lib.hid (g1.trans g2)
 obtain ⟨Aa,ca,rfl,-,-,-⟩:=ha
 obtain ⟨Ab,cb,rfl,-,-,-⟩:=hb
 generalize Rn.cmpOut a b=R at *
 clear hs g1 g2
 unfold obox at hWa hW
 unfold outV at *
 by_cases hR:R<0
 all_goals
  go_enter Tryz.func22, Tryz.ntmps22
  go_wp2_with (go_at_call 50;(with_reducible refine CC.out.mono ?_);rintro e w8 ⟨rfl,g8⟩)
  go_ret
  exact ⟨ret_bool (by simp [hR]),HG.out.trans g8⟩
theorem osame_any {B:Nat} {w:World} {a b:Rn.Out} {va vb:Value} (ha:TabAt B w va a.mem) (hb:TabAt B w vb b.mem) (hB:B≤w.heap.size) :
  Calls Tryz.prog 21 #[outV a va,outV b vb] w fun e w'=>e=.returned (.bool (decide (Rn.cmpOut a b=0)))∧Gr w w':=by
 obtain ⟨Wa,hWa⟩:∃ Wa,obox w a va=Wa:=⟨_,rfl⟩
 obtain ⟨W,hW⟩:∃ W,obox Wa b vb=W:=⟨_,rfl⟩
 have g1:Gr w Wa:=by rw [← hWa];exact (Gr.refl w).alloc _
 have g2:Gr Wa W:=by rw [← hW];exact (Gr.refl Wa).alloc _
 have hs:Wa.heap.size=w.heap.size+1:=by rw [← hWa];unfold obox;simp
 obtain ⟨a0,a1,a2,a3,a4⟩:=obox_cells (w:=w) (o:=a) (vm:=va) (w':=W) (by rw [hWa];exact g2)
 obtain ⟨b0,b1,b2,b3,b4⟩:=obox_cells (w:=Wa) (o:=b) (vm:=vb) (w':=W) (by rw [hW];exact Gr.refl _)
 have CC:=Lib.hid (compare_any (w:=W) (a:=a) (b:=b) (ha.below (Below.mono (g1.trans g2) hB)) (hb.below (Below.mono (g1.trans g2) hB)) (by have:=(g1.trans g2).size;omega))
 have HG:=Lib.hid (g1.trans g2)
 obtain ⟨Aa,ca,rfl,-,-,-⟩:=ha
 obtain ⟨Ab,cb,rfl,-,-,-⟩:=hb
 generalize Rn.cmpOut a b=R at *
 clear hs g1 g2
 unfold obox at hWa hW
 unfold outV at *
 by_cases hR:R=0
 all_goals
  go_enter Tryz.func21, Tryz.ntmps21
  go_wp2_with (go_at_call 50;(with_reducible refine CC.out.mono ?_);rintro e w8 ⟨rfl,g8⟩)
  go_ret
  exact ⟨ret_bool (by simp [hR]),HG.out.trans g8⟩
end Go.Proofs.YthfhamagopbgcaaGreat
namespace Go.Proofs.YthfhamagopbgcaaGreat
set_option linter.unusedSimpArgs false
set_option linter.unusedVariables false
open Go.RowKit

theorem ins_any {B vb n i:Nat} {v:Value} {xs ys:List Value} {w:World} (h:w.ownsRow B 39 5 v n xs) (hB:B≤w.heap.size) (hn:n≤1000) (hi:i≤n) (hy:ys.length=5) {t2:TypeId} (hyb:w.heap[vb]?=some (.cells ys.toArray t2 (0,0))) (hvb:v.ownBlock≠some vb) (h1:∀ y ∈ ys,y.oneCell'=true) (hx1:∀ y ∈ xs,y.oneCell'=true) :
  Calls Tryz.prog 51 #[v,.int .i64 i,.slice (some ⟨vb,0,none⟩) 1 1] w fun e w'=>∃ A c,e=.returned (.slice A (n+1) c)∧w'.ownsRow B 39 5 (.slice A (n+1) c) (n+1) (xs.take (i * 5)++ys++xs.drop (i * 5))∧FrS (fun k=>v.ownBlock=some k) w w'∧∀ k,(Value.slice A (n+1) c).ownBlock=some k→v.ownBlock=some k∨w.heap.size≤k:=by
 have hyc:∀ j u,ys[j]?=some u→w.cell? ⟨vb,j,none⟩=some u:=fun j u hj=>by rw [cell_of_row _ _ _ _ _ _ hyb];simpa using hj
 have hxl:xs.length=n * 5:=h.1
 rcases Nat.lt_or_ge i n with hlt | hge
 ·obtain ⟨A,c,rfl,hc,hA,hA0⟩:=own_form h
  cases A with
  | none=>have:=hA0 rfl;omega
  | some a =>
   obtain ⟨a1,a2,a3,a4⟩:=hA a rfl
   obtain ⟨b,o,s⟩:=a
   dsimp only at a1 a2 a3 a4
   subst a3;subst a4
   rcases Nat.lt_or_ge n c with q | q
   ·refine (ins_shift h hB hn hlt q hy hyb (fun e=>hvb (by rw [e];rfl)) h1 hx1).mono fun e w' r=>⟨_,_,r.1,r.2.1,r.2.2.mono fun k hk=>by rw [hk];rfl,fun k hk=>.inl hk⟩
   ·obtain rfl:c=n:=by omega
    exact (ins_grow h hB hn hlt hy hyc h1 hx1).mono fun e w' ⟨A,c',e1,r1,r2,r3⟩=>⟨A,c',e1,r1,r2.mono fun k hk=>hk.elim,fun k hk=>.inr (r3 k hk)⟩
 ·obtain rfl:i=n:=by omega
  refine (ins_end h hB hn hy hyc h1).mono fun e w' ⟨A,c,e1,r1,r2,r3⟩=>⟨A,c,e1,?_,(FrS.refl _ w).grown r2 (fun k hk=>.inl hk),r3⟩
  rw [List.take_of_length_le (by omega),List.drop_eq_nil_of_le (by omega),List.append_nil]
  exact r1
/-- The cells of an outcome. -/
def outC (o:Rn.Out) (vm:Value):List Value:=[.int .i64 o.kind,.bool o.ret.p,.int .i64 o.ret.s,.int .u32 o.ret.n,vm]
def flatC:List Rn.Out→List Value→List Value
 | o::os,v::vs=>outC o v++flatC os vs
 | _,_=>[]
theorem flatC_get:∀ (os:List Rn.Out) (vs:List Value) (j t:Nat) (o:Rn.Out) (v:Value),os[j]?=some o→vs[j]?=some v→t<5→(flatC os vs)[j * 5+t]?=(outC o v)[t]?
 | [],_,j,t,o,v,h,_,_=>by simp at h
 | _::_,[],j,t,o,v,_,h,_=>by simp at h
 | o'::os,v'::vs,0,t,o,v,h1,h2,ht=>by
  simp at h1 h2;subst h1;subst h2
  rw [flatC,Nat.zero_mul,Nat.zero_add,List.getElem?_append_left (by show t<5;exact ht)]
 | o'::os,v'::vs,j+1,t,o,v,h1,h2,ht=>by
  rw [flatC,List.getElem?_append_right (by show 5≤_;omega)]
  rw [show (j+1) * 5+t-(outC o' v').length=j * 5+t by show _-5=_;omega]
  exact flatC_get os vs j t o v (by simpa using h1) (by simpa using h2) ht
theorem flatC_append:∀ (os os':List Rn.Out) (vs vs':List Value),vs.length=os.length→flatC (os++os') (vs++vs')=flatC os vs++flatC os' vs'
 | [],os',[],vs',_=>rfl
 | o::os,os',v::vs,vs',h=>by
  have:=flatC_append os os' vs vs' (by simpa using h)
  simp only [List.cons_append,flatC,this,List.append_assoc]
 | [],_,_::_,_,h=>by simp at h
 | _::_,_,[],_,h=>by simp at h
/-- What reads as mem as long as the blocks of D stay. -/
def Keeps (D:Nat→Prop) (w:World) (vm:Value) (mem:List (List Int)):Prop:=(∀ k,D k→k<w.heap.size)∧(∃ A c,vm=.slice A mem.length c)∧∀ w':World,(∀ k,D k→w'.heap[k]?=w.heap[k]?)→w.heap.size≤w'.heap.size→TabAt w'.heap.size w' vm mem
theorem Keeps.frs {D S:Nat→Prop} {w w':World} {vm:Value} {mem:List (List Int)} (h:Keeps D w vm mem) (hF:FrS S w w') (hS:∀ k,D k→¬ S k):Keeps D w' vm mem :=
 ⟨fun k hk=>by have:=h.1 k hk;have:=hF.size;omega,h.2.1,fun w2 h2 hs=>h.2.2 w2 (fun k hk=>(h2 k hk).trans (hF.block k (h.1 k hk) (hS k hk))) (by have:=hF.size;omega)⟩
theorem Keeps.tab {D:Nat→Prop} {w:World} {vm:Value} {mem:List (List Int)} (h:Keeps D w vm mem):TabAt w.heap.size w vm mem:=h.2.2 w (fun _ _=>rfl) (Nat.le_refl _)
theorem Keeps.gr {D:Nat→Prop} {w w':World} {vm:Value} {mem:List (List Int)} (h:Keeps D w vm mem) (g:Gr w w'):Keeps D w' vm mem:=h.frs (FrS.of_gr (S:=fun _=>False) g) (fun _ _ q=>q)
theorem Keeps.more {D D':Nat→Prop} {w:World} {vm:Value} {mem:List (List Int)} (h:Keeps D w vm mem) (hD:∀ k,D k→D' k) (hD':∀ k,D' k→k<w.heap.size):Keeps D' w vm mem:=⟨hD',h.2.1,fun w' h2 hs=>h.2.2 w' (fun k hk=>h2 k (hD k hk)) hs⟩
/-- v holds the outcomes outs; D: the blocks of their memories. -/
structure OutsAt (D:Nat→Prop) (B:Nat) (w:World) (v:Value) (outs:List Rn.Out) (vms:List Value):Prop where
 len:vms.length=outs.length
 own:w.ownsRow B 39 5 v outs.length (flatC outs vms)
 at_:∀ (j:Nat) (o:Rn.Out) (vm:Value),outs[j]?=some o→vms[j]?=some vm→Keeps D w vm o.mem
theorem flatC_one (os:List Rn.Out) (vs:List Value) (h:∀ v ∈ vs,v.oneCell'=true):∀ y ∈ flatC os vs,y.oneCell'=true:=by
 induction os generalizing vs with
 | nil=>intro y hy;cases vs <;> simp [flatC] at hy
 | cons o os ih =>
  cases vs with
  | nil=>intro y hy;simp [flatC] at hy
  | cons v vs =>
   intro y hy
   rw [flatC,List.mem_append] at hy
   rcases hy with hy | hy
   ·simp [outC] at hy
    rcases hy with rfl | rfl | rfl | rfl | rfl
    ·rfl
    ·rfl
    ·rfl
    ·rfl
    ·exact h _ (by simp)
   ·exact ih vs (fun u hu=>h u (by simp [hu])) y hy
theorem OutsAt.one {D:Nat→Prop} {B:Nat} {w:World} {v:Value} {outs:List Rn.Out} {vms:List Value} (h:OutsAt D B w v outs vms):∀ y ∈ flatC outs vms,y.oneCell'=true :=
 flatC_one _ _ fun u hu=>by
  obtain ⟨j,hj⟩:=List.getElem?_of_mem hu
  have hjl:=(List.getElem?_eq_some_iff.1 hj).1
  obtain ⟨o,ho⟩:∃ o,outs[j]?=some o:=⟨_,List.getElem?_eq_getElem (by rw [← h.len];exact hjl)⟩
  obtain ⟨-,⟨A,c,rfl⟩,-⟩:=h.at_ j o u ho hj
  rfl
theorem flatC_take:∀ (os:List Rn.Out) (vs:List Value) (i:Nat),vs.length=os.length→(flatC os vs).take (i * 5)=flatC (os.take i) (vs.take i)∧(flatC os vs).drop (i * 5)=flatC (os.drop i) (vs.drop i)
 | [],[],i,_=>by simp [flatC]
 | o::os,v::vs,0,_=>by simp [flatC]
 | o::os,v::vs,i+1,h=>by
  have:=flatC_take os vs i (by simpa using h)
  rw [show (i+1) * 5=(outC o v).length+i * 5 by show _=5+_;omega]
  constructor
  ·rw [flatC,List.take_length_add_append,this.1];rfl
  ·rw [flatC,List.drop_length_add_append,this.2];rfl
 | [],_::_,_,h=>by simp at h
 | _::_,[],_,h=>by simp at h
/-- One outcome more. -/
theorem insO_any {D:Nat→Prop} {B i vb:Nat} {w:World} {v:Value} {outs:List Rn.Out} {vms:List Value} (h:OutsAt D B w v outs vms) (hB:B≤w.heap.size) (hn:outs.length≤1000) (hi:i≤outs.length) {x:Rn.Out} {vx:Value} (hx:Keeps D w vx x.mem) {t2:TypeId} (hyb:w.heap[vb]?=some (.cells (outC x vx).toArray t2 (0,0))) (hvb:v.ownBlock≠some vb) (hD:∀ k,D k→v.ownBlock≠some k) :
  Calls Tryz.prog 51 #[v,.int .i64 i,.slice (some ⟨vb,0,none⟩) 1 1] w fun e w'=>∃ A c,e=.returned (.slice A (outs.length+1) c)∧OutsAt D B w' (.slice A (outs.length+1) c) (outs.take i++x::outs.drop i) (vms.take i++vx::vms.drop i)∧FrS (fun k=>v.ownBlock=some k) w w'∧∀ k,(Value.slice A (outs.length+1) c).ownBlock=some k→v.ownBlock=some k∨w.heap.size≤k:=by
 have hvx:vx.oneCell'=true:=by obtain ⟨-,⟨A,c,rfl⟩,-⟩:=hx;rfl
 refine (ins_any (i:=i) h.own hB hn hi rfl hyb hvb (by
   intro y hy
   simp [outC] at hy
   rcases hy with rfl | rfl | rfl | rfl | rfl
   · rfl
   · rfl
   · rfl
   · rfl
   · exact hvx) h.one).mono fun e w' ⟨A,c,e1,r1,r2,r3⟩=>⟨A,c,e1,⟨?_,?_,?_⟩,r2,r3⟩
 ·simp [h.len]
 ·have hl:(outs.take i++x::outs.drop i).length=outs.length+1:=by simp;omega
  rw [hl]
  obtain ⟨q1,q2⟩:=flatC_take outs vms i h.len
  rw [flatC_append _ _ _ _ (by simp [h.len])]
  rw [q1,q2,List.append_assoc] at r1
  exact r1
 ·intro j o vm h1 h2
  have hk:Keeps D w vm o.mem:=by
   rcases Nat.lt_trichotomy j i with q | q | q
   ·rw [List.getElem?_append_left (by simp;omega),List.getElem?_take,if_pos q] at h1
    rw [List.getElem?_append_left (by simp [h.len];omega),List.getElem?_take,if_pos q] at h2
    exact h.at_ j o vm h1 h2
   ·subst q
    rw [List.getElem?_append_right (by simp;omega)] at h1
    rw [List.getElem?_append_right (by simp;omega)] at h2
    simp [Nat.min_eq_left hi] at h1
    simp [h.len,Nat.min_eq_left hi] at h2
    subst h1;subst h2
    exact hx
   ·rw [List.getElem?_append_right (by simp;omega)] at h1
    rw [List.getElem?_append_right (by simp;omega)] at h2
    obtain ⟨m,hm⟩:∃ m,j=i+1+m:=⟨j-i-1,by omega⟩
    subst hm
    rw [show i+1+m-(outs.take i).length=m+1 by simp [Nat.min_eq_left hi];omega] at h1
    rw [show i+1+m-(vms.take i).length=m+1 by simp [h.len,Nat.min_eq_left hi];omega] at h2
    simp at h1 h2
    exact h.at_ (i+m) o vm h1 h2
  exact hk.frs r2 (fun k hk=>hD k hk)
end Go.Proofs.YthfhamagopbgcaaGreat
namespace Go.Proofs.YthfhamagopbgcaaGreat
set_option linter.unusedSimpArgs false
set_option linter.unusedVariables false
open Go.RowKit

namespace Rn
theorem bytesOf_get (x:V):∀ (n k:Nat) (z:Int),k<n→(bytesOf x n z)[k]?=some (if x.p=true then -1 else z / 256 ^ k % 256)
 | 0,k,z,h=>by omega
 | n+1,0,z,_=>by simp [bytesOf]
 | n+1,k+1,z,h=>by
  have:=bytesOf_get x n k (z / 256) (by omega)
  rw [bytesOf,List.getElem?_cons_succ,this,Int.pow_succ,Int.mul_comm,Int.ediv_ediv_of_nonneg (by decide)]
theorem overlay_get {l bs:List Int} {a:Nat} (h:a+bs.length≤l.length) (i:Nat):(overlay l a bs)[i]?=if a≤i∧i<a+bs.length then bs[i-a]? else l[i]?:=by
 unfold overlay
 have e1:(l.take a).length=a:=by rw [List.length_take];omega
 by_cases h1:i<a
 ·rw [if_neg (by omega),List.append_assoc,List.getElem?_append_left (by omega),List.getElem?_take,if_pos h1]
 ·rw [List.append_assoc,List.getElem?_append_right (by omega),e1]
  by_cases h2:i<a+bs.length
  ·rw [if_pos ⟨by omega,h2⟩,List.getElem?_append_left (by omega)]
  ·rw [if_neg (by omega),List.getElem?_append_right (by omega),List.getElem?_drop]
   congr 1;omega
theorem overlay_zero (l:List Int) (a:Nat):overlay l a []=l:=by
 unfold overlay;simp
/-- A byte more. -/
theorem overlay_step {l bs:List Int} {a k:Nat} {y:Int} (h:a+bs.length≤l.length) (hk:bs[k]?=some y):overlay l a (bs.take (k+1))=(overlay l a (bs.take k)).set (a+k) y:=by
 have hkl:=(List.getElem?_eq_some_iff.1 hk).1
 have e1:(bs.take (k+1)).length=k+1:=by rw [List.length_take];omega
 have e2:(bs.take k).length=k:=by rw [List.length_take];omega
 apply List.ext_getElem?
 intro i
 rw [overlay_get (by omega)]
 by_cases e:a+k=i
 ·subst e
  rw [List.getElem?_set_self (by rw [overlay_len (by omega)];omega),if_pos ⟨by omega,by omega⟩,show a+k-a=k by omega,List.getElem?_take,if_pos (by omega),hk]
 ·rw [List.getElem?_set_ne e,overlay_get (by omega),e1,e2]
  by_cases h1:a≤i∧i<a+k
  ·rw [if_pos ⟨h1.1,by omega⟩,if_pos h1,List.getElem?_take,List.getElem?_take,if_pos (by omega),if_pos (by omega)]
  ·rw [if_neg (by omega),if_neg h1]
end Rn
/-- The value of a store that is done. -/
def onI:Value:=.iface 218 (.agg #[])
theorem byte_of (X:Int) (k m:Nat) (hm:m=8 * k) (h0:0≤X) (h1:X<4294967296):bits .and .u32 (X / 2 ^ m) 255=X / 256 ^ k % 256:=by
 have e:=Wd.mask_and (n:=8) (x:=X / 2 ^ m) ⟨by decide,by decide⟩ (Int.ediv_nonneg h0 (Int.le_of_lt (Int.pow_pos (by decide)))) (Int.lt_of_le_of_lt (Int.ediv_le_self _ h0) h1)
 rw [Rn.pow_256 k m hm]
 exact e
def RowIs (bj:Nat) (l:List Int) (w:World):Prop:=∃ cur:Array Value,w.heap[bj]?=some (.cells cur 3 (0,0))∧∀ (i:Nat) (z:Int),l[i]?=some z→cur[i]?=some (.int .i64 z)
theorem RowIs.cell {bj:Nat} {l:List Int} {w:World} (h:RowIs bj l w) {i:Nat} {z:Int} (hz:l[i]?=some z):w.cell? ⟨bj,i,none⟩=some (.int .i64 z):=by
 obtain ⟨cur,h1,h2⟩:=h
 exact (cell_of_row _ _ i _ _ _ h1).trans (h2 i z hz)
theorem RowIs.free {bj:Nat} {l:List Int} {w:World} (h:RowIs bj l w) (i:Nat):w.frozen? ⟨bj,i,none⟩=false:=by
 obtain ⟨cur,h1,h2⟩:=h
 unfold World.frozen?
 simp [h1]
theorem RowIs.set {bj:Nat} {l:List Int} {w:World} (h:RowIs bj l w) {i:Nat} (hi:i<l.length) (y:Int):RowIs bj (l.set i y) (w.setCell ⟨bj,i,none⟩ (.int .i64 y)):=by
 obtain ⟨cur,h1,h2⟩:=h
 refine ⟨_,heap_setCell_at _ h1,fun j z hj=>?_⟩
 have hci:i<cur.size:=by
  have:=h2 i l[i] (List.getElem?_eq_getElem hi)
  exact (Array.getElem?_eq_some_iff.1 this).1
 by_cases e:i=j
 ·subst e
  rw [List.getElem?_set_self hi] at hj
  injection hj with hj
  subst hj
  rw [Array.getElem?_setIfInBounds_self_of_lt hci]
 ·rw [List.getElem?_set_ne e] at hj
  rw [Array.getElem?_setIfInBounds_ne e]
  exact h2 j z hj
theorem RowIs.gr {bj:Nat} {l:List Int} {w w':World} (h:RowIs bj l w) (g:Gr w w'):RowIs bj l w':=by
 obtain ⟨cur,h1,h2⟩:=h
 exact ⟨cur,(g.heap _ (lt_of_heap h1)).trans h1,h2⟩
def StoreP (c:Cfg) (w:World) (s:Rn.St) (b frm:Int) (vt:Value) (p x:Rn.V) (n:Nat) (e:Ending) (w':World):Prop :=
 match Rn.store s.mem p x n with
 | none=>e=.returned undI∧Gr w w'
 | some m=>e=.returned onI∧PS c w' { s with mem:=m } b frm vt∧FrS (Mut c) w w'
set_option maxRecDepth 100000 in
set_option maxHeartbeats 4000000 in
theorem rstore_any {c:Cfg} {w:World} {s:Rn.St} {b frm:Int} {vt:Value} (h:PS c w s b frm vt) (hf:VFn c.f) (hi:Rn.Inv c.f s) (p x:Rn.V) (hp:Rn.VOK c.f 33 p) (n:Nat) (hn1:1≤n) (hn:n≤4) (hx:0≤x.n∧x.n<4294967296) :
  Calls Tryz.prog 160 #[.pointer (some ⟨c.Bs,0,none⟩),vv p,vv x,.int .i64 n] w (StoreP c w s b frm vt p x n):=by
 obtain ⟨W,hW⟩:∃ W,(w.alloc (.cells #[.bool p.p,.int .i64 p.s,.int .u32 p.n] 37)).alloc (.cells #[.bool x.p,.int .i64 x.s,.int .u32 x.n] 37)=W:=⟨_,rfl⟩
 have hB0:Gr w W:=by rw [← hW];exact ((Gr.refl w).alloc _).alloc _
 have HB:=Lib.hid hB0
 have g1:Gr (w.alloc (.cells #[.bool p.p,.int .i64 p.s,.int .u32 p.n] 37)) W:=by rw [← hW];exact (Gr.refl _).alloc _
 have g2:Gr ((w.alloc (.cells #[.bool p.p,.int .i64 p.s,.int .u32 p.n] 37)).alloc (.cells #[.bool x.p,.int .i64 x.s,.int .u32 x.n] 37)) W:=by rw [hW];exact Gr.refl _
 have hWs:W.heap.size=w.heap.size+2:=by rw [← hW];exact two_size _ _ _
 have a0:W.cell? ⟨w.heap.size,0,none⟩=some (.bool p.p):=cell_box _ _ 0 g1 rfl
 have a1:W.cell? ⟨w.heap.size,1,none⟩=some (.int .i64 p.s):=cell_box _ _ 1 g1 rfl
 have a2:W.cell? ⟨w.heap.size,2,none⟩=some (.int .u32 p.n):=cell_box _ _ 2 g1 rfl
 have x0:W.cell? ⟨w.heap.size+1,0,none⟩=some (.bool x.p):=cell_box _ _ 0 g2 (by simp)
 have x2:W.cell? ⟨w.heap.size+1,2,none⟩=some (.int .u32 x.n):=cell_box _ _ 2 g2 (by simp)
 have HX:Hid (∀ w',FrS (fun k=>k<w.heap.size) W w'→w'.cell? ⟨w.heap.size+1,0,none⟩=some (.bool x.p)∧w'.cell? ⟨w.heap.size+1,2,none⟩=some (.int .u32 x.n)):=fun w' q=>by
  have e:=q.block (w.heap.size+1) (by omega) (by omega)
  exact ⟨(World.cell?_of_block (a:=⟨w.heap.size+1,0,none⟩) e).trans x0,(World.cell?_of_block (a:=⟨w.heap.size+1,2,none⟩) e).trans x2⟩
 have HWS:=Lib.hid hWs
 by_cases hb:Rn.bytesAt s.mem p n=none
 ·have CN:=Lib.hid (rbytes_none (h.gr hB0) hf hi p hp n hn hb)
  have HR:Hid (Rn.store s.mem p x n=none):=by
   show _=_
   unfold Rn.bytesAt at hb
   unfold Rn.store
   split at hb
   next q=>rw [if_pos q]
   next q=>cases hb
  clear h hi hp hb hB0 g1 g2 hWs x0 x2
  unfold vv at CN ⊢
  go_enter Tryz.func160, Tryz.ntmps160
  go_wp2_with (first
    | (go_at_call 181;(with_reducible refine CN.out.mono ?_);rintro e w1 ⟨rfl,g1⟩)
    | (go_at_call 158;(with_reducible refine (undef_any _).mono ?_);rintro e w2 ⟨rfl,rfl⟩))
  go_ret
  unfold StoreP
  rw [HR.out]
  exact ⟨rfl,HB.out.trans g1⟩
 ·obtain ⟨bj,cp,hus,hcap,hcp,CS⟩:=rbytes_some (h.gr hB0) hf hi p hp n hn1 hn hb
  have hpp:p.p=false:=by
   cases q:p.p with
   | false=>rfl
   | true=>exact absurd (by unfold Rn.bytesAt;rw [if_pos (.inl q)]) hb
  obtain ⟨p1,p2,p3,p4⟩:=hp.ptr hpp
  obtain ⟨bj',cp',l,hus',hlm,hl,-,-,-,-,-,-,-,-,cur,hcur,hcells⟩:=h.slot hf hi p1 p2
  rw [hus] at hus'
  injection hus' with hus'
  injection hus' with e1 e2
  subst e1;subst e2
  have hin:p.n.toNat+n≤l.length:=by
   rcases Nat.lt_or_ge l.length (p.n.toNat+n) with q | q
   ·exact absurd (by unfold Rn.bytesAt;rw [hl,if_pos (.inr q)]) hb
   ·exact q
  obtain ⟨bs,hbs⟩:∃ bs,Rn.bytesOf x n x.n=bs:=⟨_,rfl⟩
  have hbl:bs.length=n:=by rw [← hbs];exact Rn.bytesOf_len _ _ _
  have HBG:Hid (∀ k,k<n→bs[k]?=some (if x.p=true then -1 else x.n / 256 ^ k % 256)):=fun k hk=>by rw [← hbs];exact Rn.bytesOf_get x n k x.n hk
  have HST:Hid (Rn.store s.mem p x n=some (s.mem.set (p.s-1).toNat (Rn.overlay l p.n.toNat bs))):=by
   show _=_
   unfold Rn.store
   rw [if_neg (by rw [hl,hpp];simp;omega),hl,hbs]
  have HEND:Hid (∀ w',RowIs bj (Rn.overlay l p.n.toNat bs) w'→FrS (·=bj) W w'→PS c w' { s with mem:=s.mem.set (p.s-1).toNat (Rn.overlay l p.n.toNat bs) } b frm vt∧FrS (Mut c) w w'):=fun w' hr hfr=>by
   obtain ⟨cur',r1,r2⟩:=hr
   exact ⟨(h.gr hB0).memSet hus hlm (Rn.overlay_len (by omega)) hfr r1 r2,(FrS.of_gr hB0).trans (hfr.mono fun k hk=>by rw [hk];exact .inr (.inr (.inr ⟨_,cp,hus⟩)))⟩
  have HROW:Hid (RowIs bj l W):=(RowIs.gr ⟨cur,hcur,hcells⟩ hB0:RowIs bj l W)
  have hbj:=lt_of_heap hcur
  have HBJ:=Lib.hid hbj
  have CSS:=Lib.hid CS
  obtain ⟨N,hN⟩:∃ N,p.n.toNat=N:=⟨_,rfl⟩
  rw [hN] at hcap CSS HST HEND hin
  have HIN:=Lib.hid hin
  have hxx:=hx.1
  have hxy:=hx.2
  have HBY:=Lib.hid fun k m hm=>byte_of x.n k m hm hx.1 hx.2
  clear hb CS hbs hp hi h hus hl hcells hcur hB0 hN p1 p2 p3 p4 hpp g1 g2 hWs hbj hlm x0 x2
  unfold vv at CSS ⊢
  go_enter Tryz.func160, Tryz.ntmps160
  go_wp2_with (first
    | (go_at_call 181;(with_reducible refine CSS.out.mono ?_);rintro e w1 ⟨rfl,g1⟩;have HG1:=Lib.hid g1))
  have HR1:=Lib.hid (HROW.out.gr HG1.out)
  go_loopw [24] (fun s24 wr=>∃ k:Nat,k≤n∧s24=.int .i64 (k:Int)∧Hid (RowIs bj (Rn.overlay l N (bs.take k)) wr)∧Hid (FrS (·=bj) W wr)) (fun s24 _=>n-(intOf s24).toNat)
  case atStart=>exact ⟨0,Nat.zero_le _,rfl,by (show RowIs _ _ _);rw [List.take_zero,Rn.overlay_zero];exact HR1.out,FrS.of_gr HG1.out⟩
  case round =>
   obtain ⟨k,hk,rfl,hrow,hfr⟩:=hrel
   by_cases hlt:k<n
   ·have hol:(Rn.overlay l N (bs.take k)).length=l.length:=Rn.overlay_len (by rw [List.length_take];have:=HIN.out;omega)
    have hNk:N+k<(Rn.overlay l N (bs.take k)).length:=by have:=HIN.out;omega
    obtain ⟨old,hold⟩:∃ v:Int,(Rn.overlay l N (bs.take k))[N+k]?=some v:=⟨_,List.getElem?_eq_getElem hNk⟩
    have hc:=hrow.out.cell hold
    have hfz:=hrow.out.free (N+k)
    obtain ⟨y0,y2⟩:=HX.out wr (hfr.out.mono fun q hq=>by have:=HBJ.out;omega)
    have y3:∀ v,(wr.setCell ⟨bj,N+k,none⟩ v).cell? ⟨w.heap.size+1,0,none⟩=some (.bool x.p):=fun v=>(World.cell?_setCell_far _ ⟨bj,N+k,none⟩ ⟨w.heap.size+1,0,none⟩ v (by show bj≠w.heap.size+1;have:=HBJ.out;omega)).trans y0
    obtain ⟨m,hm⟩:∃ m,m=8 * k:=⟨_,rfl⟩
    have hm8:8 * (k:Int)=(m:Int):=by omega
    have hm32:m<32:=by omega
    have HM:=Lib.hid hm
    have hbk:=HBG.out k hlt
    have hst:=Rn.overlay_step (l:=l) (a:=N) (by rw [hbl];exact HIN.out) hbk
    have HST2:=Lib.hid hst
    have HNK:=Lib.hid hNk
    have hby:bits .and .u32 (x.n / 2 ^ m) 255=x.n / 256 ^ k % 256:=HBY.out k m hm
    obtain ⟨yb,hyb⟩:∃ yb,x.n / 256 ^ k % 256=yb:=⟨_,rfl⟩
    have hyr:0≤yb∧yb<256:=by rw [← hyb];exact ⟨Int.emod_nonneg _ (by decide),Int.emod_lt_of_pos _ (by decide)⟩
    obtain ⟨yr0,yr1⟩:=hyr
    rw [hyb] at hby HST2
    clear hm hbk hst hyb hold hNk hol
    cases hxp:x.p with
    | true =>
     rw [hxp,if_pos rfl] at HST2
     rw [hxp] at y0
     simp only [hxp] at y3
     clear hxp
     go_wp2
     refine ⟨⟨k+1,by omega,by go_num,?_,?_⟩,by simp [intOf];omega⟩
     ·show RowIs _ _ _
      rw [HST2.out]
      have r1:=hrow.out.set HNK.out yb
      have r2:=r1.set (i:=N+k) (by rw [List.length_set];exact HNK.out) (-1)
      rwa [List.set_set] at r2
     ·exact (hfr.out.setCell (p:=⟨bj,N+k,none⟩) rfl _).setCell (p:=⟨bj,N+k,none⟩) rfl _
    | false =>
     rw [hxp,if_neg (by decide)] at HST2
     rw [hxp] at y0
     simp only [hxp] at y3
     clear hxp
     go_wp2
     refine ⟨⟨k+1,by omega,by go_num,?_,?_⟩,by simp [intOf];omega⟩
     ·show RowIs _ _ _
      rw [HST2.out]
      exact hrow.out.set HNK.out yb
     ·exact hfr.out.setCell (p:=⟨bj,N+k,none⟩) rfl _
   ·have hkn:k=n:=by omega
    subst hkn
    go_wp2
    go_ret
    unfold StoreP
    rw [HST.out]
    have e:bs.take k=bs:=List.take_of_length_le (by omega)
    rw [e] at hrow
    obtain ⟨r1,r2⟩:=HEND.out _ hrow.out hfr.out
    exact ⟨rfl,r1,r2⟩
end Go.Proofs.YthfhamagopbgcaaGreat
namespace Go.Proofs.YthfhamagopbgcaaGreat
set_option linter.unusedSimpArgs false
set_option linter.unusedVariables false
open Go.RowKit

/-- vl reads as values. -/
def LAt (w:World) (vl:Value) (l:List Rn.V):Prop:=∃ bl,vl=.slice (some ⟨bl,0,none⟩) l.length l.length∧w.heap[bl]?=some (.cells (encVs l).toArray 37 (0,0))
theorem LAt.gr {w w':World} {vl:Value} {l:List Rn.V} (h:LAt w vl l) (g:Gr w w'):LAt w' vl l:=by
 obtain ⟨bl,e,h⟩:=h
 exact ⟨bl,e,(g.heap _ (lt_of_heap h)).trans h⟩
theorem LAt.cells {w:World} {bl:Nat} {l:List Rn.V} (h:w.heap[bl]?=some (.cells (encVs l).toArray 37 (0,0))) {k:Nat} {v:Rn.V} (hv:l[k]?=some v) :
  w.cell? ⟨bl,3 * k,none⟩=some (.bool v.p)∧w.cell? ⟨bl,3 * k+1,none⟩=some (.int .i64 v.s)∧w.cell? ⟨bl,3 * k+2,none⟩=some (.int .u32 v.n):=by
 obtain ⟨h0,h1,h2⟩:=encVs_get l k v hv
 refine ⟨?_,?_,?_⟩
 ·rw [cell_of_row _ _ _ _ _ _ h];simpa using h0
 ·rw [cell_of_row _ _ _ _ _ _ h];simpa using h1
 ·rw [cell_of_row _ _ _ _ _ _ h];simpa using h2
/-- The box of an instruction. -/
def xbox (w:World) (x:Ins) (va vt:Value):World:=w.alloc (.cells #[.int .i64 x.op,.int .i64 x.width,.int .i64 x.flags,va,.int .u32 x.imm,vt] 67)
theorem xbox_cells {w:World} {x:Ins} {va vt:Value} {w':World} (g:Gr (xbox w x va vt) w') :
  w'.cell? ⟨w.heap.size,0,none⟩=some (.int .i64 x.op)∧w'.cell? ⟨w.heap.size,1,none⟩=some (.int .i64 x.width)∧w'.cell? ⟨w.heap.size,2,none⟩=some (.int .i64 x.flags)∧w'.cell? ⟨w.heap.size,3,none⟩=some va∧w'.cell? ⟨w.heap.size,4,none⟩=some (.int .u32 x.imm)∧w'.cell? ⟨w.heap.size,5,none⟩=some vt :=
 ⟨cell_box _ _ 0 g rfl,cell_box _ _ 1 g rfl,cell_box _ _ 2 g rfl,cell_box _ _ 3 g rfl,cell_box _ _ 4 g rfl,cell_box _ _ 5 g rfl⟩
section
variable {c:Cfg} {w:World} {s:Rn.St} {b frm:Int} {vt:Value}
set_option maxRecDepth 100000 in
set_option maxHeartbeats 4000000 in
theorem plain_cmp (h:PS c w s b frm vt) (hf:VFn c.f) (x:Ins) (va vt':Value) (hx:IntsAt c.n₀ w va x.args) (vl:Value) (l0 l1:Rn.V) (hl:LAt w vl [l0,l1]) (o:x.op=14) (a d:Int) (ha:x.args=[a,d]) (hk:Wd.Wid (Ref.kind c.f a)) (hi:0≤x.imm∧x.imm≤9) (h0:Wd.Word (Ref.kind c.f a) l0.n) (h1:Wd.Word (Ref.kind c.f a) l1.n) :
  Calls Tryz.prog 164 #[.pointer (some ⟨c.Bs,0,none⟩),insVal x va vt',vl] w fun e w'=>e=.returned (vI (Rn.truth (Wd.cmp x.imm (Ref.kind c.f a) l0.n l1.n)))∧Gr w w':=by
 obtain ⟨W,hW⟩:∃ W,xbox w x va vt'=W:=⟨_,rfl⟩
 have hB0:Gr w W:=by rw [← hW];exact (Gr.refl w).alloc _
 have g0:Gr (xbox w x va vt') W:=by rw [hW];exact Gr.refl _
 have hca:=Rn.kind_pos (f:=c.f) (v:=a) (by have:=hk.1;omega)
 have CK:=Lib.hid fun (u:GrW W)=>rkind_any (h.gr (hB0.trans u.gr)) hf a hca.1 hca.2
 obtain ⟨k,hke⟩:∃ k,Ref.kind c.f a=k:=⟨_,rfl⟩
 rw [hke] at CK hk h0 h1 ⊢
 have CC:=Lib.hid fun (w1:World)=>bCompare_any x.imm k l0.n l1.n w1 hi hk h0 h1
 obtain ⟨t,ht⟩:∃ t,Wd.cmp x.imm k l0.n l1.n=t:=⟨_,rfl⟩
 rw [ht] at CC ⊢
 have m0:=hi.1
 have m1:x.imm<4294967296:=by omega
 obtain ⟨bl,rfl,hbl⟩:=hl
 obtain ⟨Aa,ca,rfl,a1,a2,a3⟩:=hx
 rw [ha] at a1 a3
 obtain ⟨ba,oa,rfl,hba,a4⟩:=a3 (by simp)
 have hbaw:ba<w.heap.size:=by have:=h.n₀;omega
 have c0:=a4 0 a rfl
 have c1:=a4 1 d rfl
 have X:=fun (u:GrW W)=>xbox_cells (g0.trans u.gr)
 have V0:∀ u:GrW W,u.val.cell? ⟨w.heap.size,0,none⟩=some (.int .i64 14):=fun u=>by rw [← o];exact (X u).1
 have V0':W.cell? ⟨w.heap.size,0,none⟩=some (.int .i64 14):=V0 ⟨W,Gr.refl _⟩
 have V1:∀ u:GrW W,u.val.cell? ⟨w.heap.size,1,none⟩=some (.int .i64 x.width):=fun u=>(X u).2.1
 have V2:∀ u:GrW W,u.val.cell? ⟨w.heap.size,2,none⟩=some (.int .i64 x.flags):=fun u=>(X u).2.2.1
 have V3:∀ u:GrW W,u.val.cell? ⟨w.heap.size,3,none⟩=some (.slice (some ⟨ba,oa,none⟩) 2 ca):=fun u=>by have:=(X u).2.2.2.1;rw [ha] at this;exact this
 have V4:∀ u:GrW W,u.val.cell? ⟨w.heap.size,4,none⟩=some (.int .u32 x.imm):=fun u=>(X u).2.2.2.2.1
 have A0:∀ u:GrW W,u.val.cell? ⟨ba,oa,none⟩=some (.int .i64 a):=fun u=>((hB0.trans u.gr).cell _ _ hbaw).trans c0
 have A1:∀ u:GrW W,u.val.cell? ⟨ba,oa+1,none⟩=some (.int .i64 d):=fun u=>((hB0.trans u.gr).cell _ _ hbaw).trans c1
 have L0:∀ u:GrW W,u.val.cell? ⟨bl,2,none⟩=some (.int .u32 l0.n):=fun u=>(LAt.cells (((hB0.trans u.gr).heap _ (lt_of_heap hbl)).trans hbl) (k:=0) rfl).2.2
 have M0:∀ u:GrW W,u.val.cell? ⟨bl,1,none⟩=some (.int .i64 l0.s):=fun u=>(LAt.cells (((hB0.trans u.gr).heap _ (lt_of_heap hbl)).trans hbl) (k:=0) rfl).2.1
 have L1:∀ u:GrW W,u.val.cell? ⟨bl,5,none⟩=some (.int .u32 l1.n):=fun u=>(LAt.cells (((hB0.trans u.gr).heap _ (lt_of_heap hbl)).trans hbl) (k:=1) rfl).2.2
 have M1:∀ u:GrW W,u.val.cell? ⟨bl,4,none⟩=some (.int .i64 l1.s):=fun u=>(LAt.cells (((hB0.trans u.gr).heap _ (lt_of_heap hbl)).trans hbl) (k:=1) rfl).2.1
 have HG:=Lib.hid hB0
 unfold xbox at hW
 rw [ha,show ([a,d]:List Int).length=2 from rfl] at hW ⊢
 unfold insVal
 rw [o] at hW ⊢
 clear h hf hke hk h0 h1 ht a3 a4 c0 c1 hbl X g0 hB0 hi
 go_enter Tryz.func164, Tryz.ntmps164
 go_wp2
 refine wp_region_quietGr (by kernel_rfl) (by kernel_rfl) ?_
 repeat (go_big_quiet_step ((rename_i u;first | (go_at_call 161;exact grW_call u (CK.out u)) | (go_at_call 186;exact grW_call u (CC.out u.val)))))
 refine wpQuiet_nil ?_
 intro w9 hw9
 obtain ⟨u9,rfl⟩:=hw9
 clear V0 V1 V2 V3 V4 A0 A1 L0 L1 M0 M1
 have TT:=Lib.hid fun w1=>rtruth_any t w1
 obtain ⟨z,hz⟩:∃ z:Int,(if t=true then 1 else 0)=z:=⟨_,rfl⟩
 rw [hz] at TT
 have HZ:=Lib.hid hz
 clear hz
 go_wp2_with (go_at_call 187;(with_reducible refine (TT.out _).mono ?_);rintro e w8 ⟨rfl,g8⟩)
 go_ret
 exact ⟨by unfold Rn.truth;rw [HZ.out];rfl,(HG.out.trans u9.gr).trans g8⟩
set_option maxRecDepth 100000 in
set_option maxHeartbeats 4000000 in
theorem plain_ext16 (h:PS c w s b frm vt) (hf:VFn c.f) (x:Ins) (va vt':Value) (hx:IntsAt c.n₀ w va x.args) (vl:Value) (l0:Rn.V) (hl:LAt w vl [l0]) (o:x.op=16) (a:Int) (ha:x.args=[a]) (hk:Wd.Wid (Ref.kind c.f a)) (hw:Wd.Wid x.width) (hd:Ref.kind c.f a<x.width) (h0:Wd.Word (Ref.kind c.f a) l0.n) :
  Calls Tryz.prog 164 #[.pointer (some ⟨c.Bs,0,none⟩),insVal x va vt',vl] w fun e w'=>e=.returned (vI (Rn.word (Wd.ext 16 (Ref.kind c.f a) x.width l0.n)))∧Gr w w':=by
 obtain ⟨W,hW⟩:∃ W,xbox w x va vt'=W:=⟨_,rfl⟩
 have hB0:Gr w W:=by rw [← hW];exact (Gr.refl w).alloc _
 have g0:Gr (xbox w x va vt') W:=by rw [hW];exact Gr.refl _
 have hca:=Rn.kind_pos (f:=c.f) (v:=a) (by have:=hk.1;omega)
 have CK:=Lib.hid fun (u:GrW W)=>rkind_any (h.gr (hB0.trans u.gr)) hf a hca.1 hca.2
 obtain ⟨k,hke⟩:∃ k,Ref.kind c.f a=k:=⟨_,rfl⟩
 rw [hke] at CK hk h0 hd ⊢
 have CC:=Lib.hid fun (w1:World)=>bExtend_any 16 k x.width l0.n w1 (by decide) hk hw h0 (by rw [if_neg (by decide)];exact hd)
 obtain ⟨t,ht⟩:∃ t,Wd.ext 16 k x.width l0.n=t:=⟨_,rfl⟩
 rw [ht] at CC ⊢
 obtain ⟨bl,rfl,hbl⟩:=hl
 obtain ⟨Aa,ca,rfl,a1,a2,a3⟩:=hx
 rw [ha] at a1 a3
 obtain ⟨ba,oa,rfl,hba,a4⟩:=a3 (by simp)
 have hbaw:ba<w.heap.size:=by have:=h.n₀;omega
 have c0:=a4 0 a rfl
 have X:=fun (u:GrW W)=>xbox_cells (g0.trans u.gr)
 have V0:∀ u:GrW W,u.val.cell? ⟨w.heap.size,0,none⟩=some (.int .i64 16):=fun u=>by rw [← o];exact (X u).1
 have V0':W.cell? ⟨w.heap.size,0,none⟩=some (.int .i64 16):=V0 ⟨W,Gr.refl _⟩
 have V1:∀ u:GrW W,u.val.cell? ⟨w.heap.size,1,none⟩=some (.int .i64 x.width):=fun u=>(X u).2.1
 have V2:∀ u:GrW W,u.val.cell? ⟨w.heap.size,2,none⟩=some (.int .i64 x.flags):=fun u=>(X u).2.2.1
 have V3:∀ u:GrW W,u.val.cell? ⟨w.heap.size,3,none⟩=some (.slice (some ⟨ba,oa,none⟩) 1 ca):=fun u=>by have:=(X u).2.2.2.1;rw [ha] at this;exact this
 have V4:∀ u:GrW W,u.val.cell? ⟨w.heap.size,4,none⟩=some (.int .u32 x.imm):=fun u=>(X u).2.2.2.2.1
 have A0:∀ u:GrW W,u.val.cell? ⟨ba,oa,none⟩=some (.int .i64 a):=fun u=>((hB0.trans u.gr).cell _ _ hbaw).trans c0
 have L0:∀ u:GrW W,u.val.cell? ⟨bl,2,none⟩=some (.int .u32 l0.n):=fun u=>(LAt.cells (((hB0.trans u.gr).heap _ (lt_of_heap hbl)).trans hbl) (k:=0) rfl).2.2
 have M0:∀ u:GrW W,u.val.cell? ⟨bl,1,none⟩=some (.int .i64 l0.s):=fun u=>(LAt.cells (((hB0.trans u.gr).heap _ (lt_of_heap hbl)).trans hbl) (k:=0) rfl).2.1
 have HG:=Lib.hid hB0
 unfold xbox at hW
 rw [ha,show ([a]:List Int).length=1 from rfl] at hW ⊢
 unfold insVal
 rw [o] at hW ⊢
 clear h hf hke hk h0 hw hd ht a3 a4 c0 hbl X g0 hB0
 go_enter Tryz.func164, Tryz.ntmps164
 go_wp2
 refine wp_region_quietGr (by kernel_rfl) (by kernel_rfl) ?_
 repeat (go_big_quiet_step ((rename_i u;first | (go_at_call 161;exact grW_call u (CK.out u)) | (go_at_call 188;exact grW_call u (CC.out u.val)))))
 refine wpQuiet_nil ?_
 intro w9 hw9
 obtain ⟨u9,rfl⟩:=hw9
 clear V0 V1 V2 V3 V4 A0 L0 M0
 go_wp2
 go_ret
 exact ⟨rfl,HG.out.trans u9.gr⟩
set_option maxRecDepth 100000 in
set_option maxHeartbeats 4000000 in
theorem plain_ext17 (h:PS c w s b frm vt) (hf:VFn c.f) (x:Ins) (va vt':Value) (hx:IntsAt c.n₀ w va x.args) (vl:Value) (l0:Rn.V) (hl:LAt w vl [l0]) (o:x.op=17) (a:Int) (ha:x.args=[a]) (hk:Wd.Wid (Ref.kind c.f a)) (hw:Wd.Wid x.width) (hd:Ref.kind c.f a<x.width) (h0:Wd.Word (Ref.kind c.f a) l0.n) :
  Calls Tryz.prog 164 #[.pointer (some ⟨c.Bs,0,none⟩),insVal x va vt',vl] w fun e w'=>e=.returned (vI (Rn.word (Wd.ext 17 (Ref.kind c.f a) x.width l0.n)))∧Gr w w':=by
 obtain ⟨W,hW⟩:∃ W,xbox w x va vt'=W:=⟨_,rfl⟩
 have hB0:Gr w W:=by rw [← hW];exact (Gr.refl w).alloc _
 have g0:Gr (xbox w x va vt') W:=by rw [hW];exact Gr.refl _
 have hca:=Rn.kind_pos (f:=c.f) (v:=a) (by have:=hk.1;omega)
 have CK:=Lib.hid fun (u:GrW W)=>rkind_any (h.gr (hB0.trans u.gr)) hf a hca.1 hca.2
 obtain ⟨k,hke⟩:∃ k,Ref.kind c.f a=k:=⟨_,rfl⟩
 rw [hke] at CK hk h0 hd ⊢
 have CC:=Lib.hid fun (w1:World)=>bExtend_any 17 k x.width l0.n w1 (by decide) hk hw h0 (by rw [if_neg (by decide)];exact hd)
 obtain ⟨t,ht⟩:∃ t,Wd.ext 17 k x.width l0.n=t:=⟨_,rfl⟩
 rw [ht] at CC ⊢
 obtain ⟨bl,rfl,hbl⟩:=hl
 obtain ⟨Aa,ca,rfl,a1,a2,a3⟩:=hx
 rw [ha] at a1 a3
 obtain ⟨ba,oa,rfl,hba,a4⟩:=a3 (by simp)
 have hbaw:ba<w.heap.size:=by have:=h.n₀;omega
 have c0:=a4 0 a rfl
 have X:=fun (u:GrW W)=>xbox_cells (g0.trans u.gr)
 have V0:∀ u:GrW W,u.val.cell? ⟨w.heap.size,0,none⟩=some (.int .i64 17):=fun u=>by rw [← o];exact (X u).1
 have V0':W.cell? ⟨w.heap.size,0,none⟩=some (.int .i64 17):=V0 ⟨W,Gr.refl _⟩
 have V1:∀ u:GrW W,u.val.cell? ⟨w.heap.size,1,none⟩=some (.int .i64 x.width):=fun u=>(X u).2.1
 have V2:∀ u:GrW W,u.val.cell? ⟨w.heap.size,2,none⟩=some (.int .i64 x.flags):=fun u=>(X u).2.2.1
 have V3:∀ u:GrW W,u.val.cell? ⟨w.heap.size,3,none⟩=some (.slice (some ⟨ba,oa,none⟩) 1 ca):=fun u=>by have:=(X u).2.2.2.1;rw [ha] at this;exact this
 have V4:∀ u:GrW W,u.val.cell? ⟨w.heap.size,4,none⟩=some (.int .u32 x.imm):=fun u=>(X u).2.2.2.2.1
 have A0:∀ u:GrW W,u.val.cell? ⟨ba,oa,none⟩=some (.int .i64 a):=fun u=>((hB0.trans u.gr).cell _ _ hbaw).trans c0
 have L0:∀ u:GrW W,u.val.cell? ⟨bl,2,none⟩=some (.int .u32 l0.n):=fun u=>(LAt.cells (((hB0.trans u.gr).heap _ (lt_of_heap hbl)).trans hbl) (k:=0) rfl).2.2
 have M0:∀ u:GrW W,u.val.cell? ⟨bl,1,none⟩=some (.int .i64 l0.s):=fun u=>(LAt.cells (((hB0.trans u.gr).heap _ (lt_of_heap hbl)).trans hbl) (k:=0) rfl).2.1
 have HG:=Lib.hid hB0
 unfold xbox at hW
 rw [ha,show ([a]:List Int).length=1 from rfl] at hW ⊢
 unfold insVal
 rw [o] at hW ⊢
 clear h hf hke hk h0 hw hd ht a3 a4 c0 hbl X g0 hB0
 go_enter Tryz.func164, Tryz.ntmps164
 go_wp2
 refine wp_region_quietGr (by kernel_rfl) (by kernel_rfl) ?_
 repeat (go_big_quiet_step ((rename_i u;first | (go_at_call 161;exact grW_call u (CK.out u)) | (go_at_call 188;exact grW_call u (CC.out u.val)))))
 refine wpQuiet_nil ?_
 intro w9 hw9
 obtain ⟨u9,rfl⟩:=hw9
 clear V0 V1 V2 V3 V4 A0 L0 M0
 go_wp2
 go_ret
 exact ⟨rfl,HG.out.trans u9.gr⟩
set_option maxRecDepth 100000 in
set_option maxHeartbeats 4000000 in
theorem plain_ext18 (h:PS c w s b frm vt) (hf:VFn c.f) (x:Ins) (va vt':Value) (hx:IntsAt c.n₀ w va x.args) (vl:Value) (l0:Rn.V) (hl:LAt w vl [l0]) (o:x.op=18) (a:Int) (ha:x.args=[a]) (hk:Wd.Wid (Ref.kind c.f a)) (hw:Wd.Wid x.width) (hd:x.width<Ref.kind c.f a) (h0:Wd.Word (Ref.kind c.f a) l0.n) :
  Calls Tryz.prog 164 #[.pointer (some ⟨c.Bs,0,none⟩),insVal x va vt',vl] w fun e w'=>e=.returned (vI (Rn.word (Wd.ext 18 (Ref.kind c.f a) x.width l0.n)))∧Gr w w':=by
 obtain ⟨W,hW⟩:∃ W,xbox w x va vt'=W:=⟨_,rfl⟩
 have hB0:Gr w W:=by rw [← hW];exact (Gr.refl w).alloc _
 have g0:Gr (xbox w x va vt') W:=by rw [hW];exact Gr.refl _
 have hca:=Rn.kind_pos (f:=c.f) (v:=a) (by have:=hk.1;omega)
 have CK:=Lib.hid fun (u:GrW W)=>rkind_any (h.gr (hB0.trans u.gr)) hf a hca.1 hca.2
 obtain ⟨k,hke⟩:∃ k,Ref.kind c.f a=k:=⟨_,rfl⟩
 rw [hke] at CK hk h0 hd ⊢
 have CC:=Lib.hid fun (w1:World)=>bExtend_any 18 k x.width l0.n w1 (by decide) hk hw h0 (by rw [if_pos rfl];exact hd)
 obtain ⟨t,ht⟩:∃ t,Wd.ext 18 k x.width l0.n=t:=⟨_,rfl⟩
 rw [ht] at CC ⊢
 obtain ⟨bl,rfl,hbl⟩:=hl
 obtain ⟨Aa,ca,rfl,a1,a2,a3⟩:=hx
 rw [ha] at a1 a3
 obtain ⟨ba,oa,rfl,hba,a4⟩:=a3 (by simp)
 have hbaw:ba<w.heap.size:=by have:=h.n₀;omega
 have c0:=a4 0 a rfl
 have X:=fun (u:GrW W)=>xbox_cells (g0.trans u.gr)
 have V0:∀ u:GrW W,u.val.cell? ⟨w.heap.size,0,none⟩=some (.int .i64 18):=fun u=>by rw [← o];exact (X u).1
 have V0':W.cell? ⟨w.heap.size,0,none⟩=some (.int .i64 18):=V0 ⟨W,Gr.refl _⟩
 have V1:∀ u:GrW W,u.val.cell? ⟨w.heap.size,1,none⟩=some (.int .i64 x.width):=fun u=>(X u).2.1
 have V2:∀ u:GrW W,u.val.cell? ⟨w.heap.size,2,none⟩=some (.int .i64 x.flags):=fun u=>(X u).2.2.1
 have V3:∀ u:GrW W,u.val.cell? ⟨w.heap.size,3,none⟩=some (.slice (some ⟨ba,oa,none⟩) 1 ca):=fun u=>by have:=(X u).2.2.2.1;rw [ha] at this;exact this
 have V4:∀ u:GrW W,u.val.cell? ⟨w.heap.size,4,none⟩=some (.int .u32 x.imm):=fun u=>(X u).2.2.2.2.1
 have A0:∀ u:GrW W,u.val.cell? ⟨ba,oa,none⟩=some (.int .i64 a):=fun u=>((hB0.trans u.gr).cell _ _ hbaw).trans c0
 have L0:∀ u:GrW W,u.val.cell? ⟨bl,2,none⟩=some (.int .u32 l0.n):=fun u=>(LAt.cells (((hB0.trans u.gr).heap _ (lt_of_heap hbl)).trans hbl) (k:=0) rfl).2.2
 have M0:∀ u:GrW W,u.val.cell? ⟨bl,1,none⟩=some (.int .i64 l0.s):=fun u=>(LAt.cells (((hB0.trans u.gr).heap _ (lt_of_heap hbl)).trans hbl) (k:=0) rfl).2.1
 have HG:=Lib.hid hB0
 unfold xbox at hW
 rw [ha,show ([a]:List Int).length=1 from rfl] at hW ⊢
 unfold insVal
 rw [o] at hW ⊢
 clear h hf hke hk h0 hw hd ht a3 a4 c0 hbl X g0 hB0
 go_enter Tryz.func164, Tryz.ntmps164
 go_wp2
 refine wp_region_quietGr (by kernel_rfl) (by kernel_rfl) ?_
 repeat (go_big_quiet_step ((rename_i u;first | (go_at_call 161;exact grW_call u (CK.out u)) | (go_at_call 188;exact grW_call u (CC.out u.val)))))
 refine wpQuiet_nil ?_
 intro w9 hw9
 obtain ⟨u9,rfl⟩:=hw9
 clear V0 V1 V2 V3 V4 A0 L0 M0
 go_wp2
 go_ret
 exact ⟨rfl,HG.out.trans u9.gr⟩
set_option maxRecDepth 100000 in
set_option maxHeartbeats 4000000 in
theorem plain_lanes19 (h:PS c w s b frm vt) (hf:VFn c.f) (x:Ins) (va vt':Value) (hx:IntsAt c.n₀ w va x.args) (vl:Value) (l0 l1:Rn.V) (hl:LAt w vl [l0,l1]) (o:x.op=19) (a d:Int) (ha:x.args=[a,d]) (hw:Wd.Wid x.width) (h0:Wd.Word x.width l0.n) (h1:Wd.Word x.width l1.n) (i1:1≤x.imm) (i2:x.imm<x.width) (i3:x.width % x.imm=0) :
  Calls Tryz.prog 164 #[.pointer (some ⟨c.Bs,0,none⟩),insVal x va vt',vl] w fun e w'=>e=.returned (vI (Rn.word (Wd.lanes 19 x.imm (x.width / x.imm).toNat l0.n l1.n)))∧Gr w w':=by
 obtain ⟨W,hW⟩:∃ W,xbox w x va vt'=W:=⟨_,rfl⟩
 have hB0:Gr w W:=by rw [← hW];exact (Gr.refl w).alloc _
 have g0:Gr (xbox w x va vt') W:=by rw [hW];exact Gr.refl _
 have CC:=Lib.hid fun (w1:World)=>bLanes_any 19 x.width x.imm l0.n l1.n w1 (by decide) hw h0 h1 i1 i2 i3
 obtain ⟨t,ht⟩:∃ t,Wd.lanes 19 x.imm (x.width / x.imm).toNat l0.n l1.n=t:=⟨_,rfl⟩
 rw [ht] at CC ⊢
 have m0:0≤x.imm:=by omega
 have m1:x.imm<4294967296:=by have:=hw.2;omega
 obtain ⟨bl,rfl,hbl⟩:=hl
 obtain ⟨Aa,ca,rfl,a1,a2,a3⟩:=hx
 rw [ha] at a1 a3
 obtain ⟨ba,oa,rfl,hba,a4⟩:=a3 (by simp)
 have hbaw:ba<w.heap.size:=by have:=h.n₀;omega
 have c0:=a4 0 a rfl
 have c1:=a4 1 d rfl
 have X:=fun (u:GrW W)=>xbox_cells (g0.trans u.gr)
 have V0:∀ u:GrW W,u.val.cell? ⟨w.heap.size,0,none⟩=some (.int .i64 19):=fun u=>by rw [← o];exact (X u).1
 have V0':W.cell? ⟨w.heap.size,0,none⟩=some (.int .i64 19):=V0 ⟨W,Gr.refl _⟩
 have V1:∀ u:GrW W,u.val.cell? ⟨w.heap.size,1,none⟩=some (.int .i64 x.width):=fun u=>(X u).2.1
 have V2:∀ u:GrW W,u.val.cell? ⟨w.heap.size,2,none⟩=some (.int .i64 x.flags):=fun u=>(X u).2.2.1
 have V3:∀ u:GrW W,u.val.cell? ⟨w.heap.size,3,none⟩=some (.slice (some ⟨ba,oa,none⟩) 2 ca):=fun u=>by have:=(X u).2.2.2.1;rw [ha] at this;exact this
 have V4:∀ u:GrW W,u.val.cell? ⟨w.heap.size,4,none⟩=some (.int .u32 x.imm):=fun u=>(X u).2.2.2.2.1
 have A0:∀ u:GrW W,u.val.cell? ⟨ba,oa,none⟩=some (.int .i64 a):=fun u=>((hB0.trans u.gr).cell _ _ hbaw).trans c0
 have A1:∀ u:GrW W,u.val.cell? ⟨ba,oa+1,none⟩=some (.int .i64 d):=fun u=>((hB0.trans u.gr).cell _ _ hbaw).trans c1
 have L0:∀ u:GrW W,u.val.cell? ⟨bl,2,none⟩=some (.int .u32 l0.n):=fun u=>(LAt.cells (((hB0.trans u.gr).heap _ (lt_of_heap hbl)).trans hbl) (k:=0) rfl).2.2
 have M0:∀ u:GrW W,u.val.cell? ⟨bl,1,none⟩=some (.int .i64 l0.s):=fun u=>(LAt.cells (((hB0.trans u.gr).heap _ (lt_of_heap hbl)).trans hbl) (k:=0) rfl).2.1
 have L1:∀ u:GrW W,u.val.cell? ⟨bl,5,none⟩=some (.int .u32 l1.n):=fun u=>(LAt.cells (((hB0.trans u.gr).heap _ (lt_of_heap hbl)).trans hbl) (k:=1) rfl).2.2
 have M1:∀ u:GrW W,u.val.cell? ⟨bl,4,none⟩=some (.int .i64 l1.s):=fun u=>(LAt.cells (((hB0.trans u.gr).heap _ (lt_of_heap hbl)).trans hbl) (k:=1) rfl).2.1
 have HG:=Lib.hid hB0
 unfold xbox at hW
 rw [ha,show ([a,d]:List Int).length=2 from rfl] at hW ⊢
 unfold insVal
 rw [o] at hW ⊢
 clear h hf h0 h1 hw i1 i2 i3 ht a3 a4 c0 c1 hbl X g0 hB0
 go_enter Tryz.func164, Tryz.ntmps164
 go_wp2
 refine wp_region_quietGr (by kernel_rfl) (by kernel_rfl) ?_
 repeat (go_big_quiet_step ((rename_i u;(go_at_call 189;exact grW_call u (CC.out u.val)))))
 refine wpQuiet_nil ?_
 intro w9 hw9
 obtain ⟨u9,rfl⟩:=hw9
 clear V0 V1 V2 V3 V4 A0 A1 L0 L1 M0 M1
 go_wp2
 go_ret
 exact ⟨rfl,HG.out.trans u9.gr⟩
set_option maxRecDepth 100000 in
set_option maxHeartbeats 4000000 in
theorem plain_lanes20 (h:PS c w s b frm vt) (hf:VFn c.f) (x:Ins) (va vt':Value) (hx:IntsAt c.n₀ w va x.args) (vl:Value) (l0 l1:Rn.V) (hl:LAt w vl [l0,l1]) (o:x.op=20) (a d:Int) (ha:x.args=[a,d]) (hw:Wd.Wid x.width) (h0:Wd.Word x.width l0.n) (h1:Wd.Word x.width l1.n) (i1:1≤x.imm) (i2:x.imm<x.width) (i3:x.width % x.imm=0) :
  Calls Tryz.prog 164 #[.pointer (some ⟨c.Bs,0,none⟩),insVal x va vt',vl] w fun e w'=>e=.returned (vI (Rn.word (Wd.lanes 20 x.imm (x.width / x.imm).toNat l0.n l1.n)))∧Gr w w':=by
 obtain ⟨W,hW⟩:∃ W,xbox w x va vt'=W:=⟨_,rfl⟩
 have hB0:Gr w W:=by rw [← hW];exact (Gr.refl w).alloc _
 have g0:Gr (xbox w x va vt') W:=by rw [hW];exact Gr.refl _
 have CC:=Lib.hid fun (w1:World)=>bLanes_any 20 x.width x.imm l0.n l1.n w1 (by decide) hw h0 h1 i1 i2 i3
 obtain ⟨t,ht⟩:∃ t,Wd.lanes 20 x.imm (x.width / x.imm).toNat l0.n l1.n=t:=⟨_,rfl⟩
 rw [ht] at CC ⊢
 have m0:0≤x.imm:=by omega
 have m1:x.imm<4294967296:=by have:=hw.2;omega
 obtain ⟨bl,rfl,hbl⟩:=hl
 obtain ⟨Aa,ca,rfl,a1,a2,a3⟩:=hx
 rw [ha] at a1 a3
 obtain ⟨ba,oa,rfl,hba,a4⟩:=a3 (by simp)
 have hbaw:ba<w.heap.size:=by have:=h.n₀;omega
 have c0:=a4 0 a rfl
 have c1:=a4 1 d rfl
 have X:=fun (u:GrW W)=>xbox_cells (g0.trans u.gr)
 have V0:∀ u:GrW W,u.val.cell? ⟨w.heap.size,0,none⟩=some (.int .i64 20):=fun u=>by rw [← o];exact (X u).1
 have V0':W.cell? ⟨w.heap.size,0,none⟩=some (.int .i64 20):=V0 ⟨W,Gr.refl _⟩
 have V1:∀ u:GrW W,u.val.cell? ⟨w.heap.size,1,none⟩=some (.int .i64 x.width):=fun u=>(X u).2.1
 have V2:∀ u:GrW W,u.val.cell? ⟨w.heap.size,2,none⟩=some (.int .i64 x.flags):=fun u=>(X u).2.2.1
 have V3:∀ u:GrW W,u.val.cell? ⟨w.heap.size,3,none⟩=some (.slice (some ⟨ba,oa,none⟩) 2 ca):=fun u=>by have:=(X u).2.2.2.1;rw [ha] at this;exact this
 have V4:∀ u:GrW W,u.val.cell? ⟨w.heap.size,4,none⟩=some (.int .u32 x.imm):=fun u=>(X u).2.2.2.2.1
 have A0:∀ u:GrW W,u.val.cell? ⟨ba,oa,none⟩=some (.int .i64 a):=fun u=>((hB0.trans u.gr).cell _ _ hbaw).trans c0
 have A1:∀ u:GrW W,u.val.cell? ⟨ba,oa+1,none⟩=some (.int .i64 d):=fun u=>((hB0.trans u.gr).cell _ _ hbaw).trans c1
 have L0:∀ u:GrW W,u.val.cell? ⟨bl,2,none⟩=some (.int .u32 l0.n):=fun u=>(LAt.cells (((hB0.trans u.gr).heap _ (lt_of_heap hbl)).trans hbl) (k:=0) rfl).2.2
 have M0:∀ u:GrW W,u.val.cell? ⟨bl,1,none⟩=some (.int .i64 l0.s):=fun u=>(LAt.cells (((hB0.trans u.gr).heap _ (lt_of_heap hbl)).trans hbl) (k:=0) rfl).2.1
 have L1:∀ u:GrW W,u.val.cell? ⟨bl,5,none⟩=some (.int .u32 l1.n):=fun u=>(LAt.cells (((hB0.trans u.gr).heap _ (lt_of_heap hbl)).trans hbl) (k:=1) rfl).2.2
 have M1:∀ u:GrW W,u.val.cell? ⟨bl,4,none⟩=some (.int .i64 l1.s):=fun u=>(LAt.cells (((hB0.trans u.gr).heap _ (lt_of_heap hbl)).trans hbl) (k:=1) rfl).2.1
 have HG:=Lib.hid hB0
 unfold xbox at hW
 rw [ha,show ([a,d]:List Int).length=2 from rfl] at hW ⊢
 unfold insVal
 rw [o] at hW ⊢
 clear h hf h0 h1 hw i1 i2 i3 ht a3 a4 c0 c1 hbl X g0 hB0
 go_enter Tryz.func164, Tryz.ntmps164
 go_wp2
 refine wp_region_quietGr (by kernel_rfl) (by kernel_rfl) ?_
 repeat (go_big_quiet_step ((rename_i u;(go_at_call 189;exact grW_call u (CC.out u.val)))))
 refine wpQuiet_nil ?_
 intro w9 hw9
 obtain ⟨u9,rfl⟩:=hw9
 clear V0 V1 V2 V3 V4 A0 A1 L0 L1 M0 M1
 go_wp2
 go_ret
 exact ⟨rfl,HG.out.trans u9.gr⟩
end
end Go.Proofs.YthfhamagopbgcaaGreat

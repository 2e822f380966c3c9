/- Parts: Rq Ta Rr. -/
import Derived.Test.YthfhamagopbgcaaGreatG39
import Derived.Test.YthfhamagopbgcaaGreatG32
import Derived.Test.YthfhamagopbgcaaGreatG36
import Derived.Test.YthfhamagopbgcaaGreatG21
namespace Go.Proofs.YthfhamagopbgcaaGreat
set_option linter.unusedSimpArgs false
set_option linter.unusedVariables false
open Go.RowKit

section
variable {c:Cfg} {w w':World} {s s':Rn.St} {b frm b' frm':Int} {vt vt':Value}
/-- The state's own row is another one. -/
theorem PS.stSet (h:PS c w s b frm vt) (hv:s'.vals=s.vals) (hh:s'.had=s.had) (hm:s'.mem=s.mem) (hF:FrS (·=c.Bs) w w') (hst:w'.heap[c.Bs]?=some (.cells (stRow c s.vals.length b' frm' s'.steps vt') 100 (0,0))):PS c w' s' b' frm' vt':=by
 have keep:∀ {k:Nat} {cur:Array Value} {t:TypeId} {fr:Nat × Nat},w.heap[k]?=some (.cells cur t fr)→t≠100→w'.heap[k]?=some (.cells cur t fr):=fun hk h1 =>
  (hF.block _ (lt_of_heap hk) (by rintro rfl;exact ne_of_type hk h.st h1 rfl)).trans hk
 obtain ⟨o1,o2,o3,o4,o5,o6⟩:=h.old
 exact {
   st:=by rw [hv];exact hst
   vals:=by rw [hv];exact keep h.vals (by decide)
   had:=by rw [hh];exact keep h.had (by decide)
   hlen:=by rw [hv,hh];exact h.hlen
   mem:=by
     rw [hm]
     exact ⟨h.mem.1,fun j b' cp m h1 h2=>by
       obtain ⟨r1,r2,cur,r3,r4⟩:=h.mem.2 j b' cp m h1 h2
       exact ⟨r1,r2,cur,keep r3 (by decide),r4⟩⟩
   slots:=⟨h.slots.1,h.slots.2.1,fun hm=>by
     obtain ⟨r1,cur,r2,r3⟩:=h.slots.2.2 hm
     exact ⟨r1,cur,keep r2 (by decide),r3⟩⟩
   fn:=h.fn.below (hF.below (fun k hk=>by rw [hk];exact o1) h.n₀)
   first:=by
     obtain ⟨r1,r2,cur,r3,r4⟩:=h.first
     exact ⟨r1,r2,cur,keep r3 (by decide),r4⟩
   old:=h.old
   apart:=h.apart }
/-- An instruction is counted. -/
theorem PS.tick (h:PS c w s b frm vt):PS c (w.setCell ⟨c.Bs,11,none⟩ (.int .i64 ((s.steps:Int)+1))) s.tick b frm vt:=by
 refine h.stSet (s':=s.tick) rfl rfl rfl ((FrS.refl (·=c.Bs) w).setCell (p:=⟨c.Bs,11,none⟩) rfl _) ?_
 have:=heap_setCell_at (i:=11) (.int .i64 ((s.steps:Int)+1)) h.st
 rw [this]
 rfl
end
theorem idxFrom_eq (x:Int):∀ (zs:List Int) (i:Nat),x ∈ zs→Lib.idxFrom zs x i=((i+zs.idxOf x:Nat):Int)
 | z::r,i,h=>by
  by_cases e:z=x
  ·subst e;simp [Lib.idxFrom]
  ·have hr:x ∈ r:=by
    rcases List.mem_cons.1 h with q | q
    ·exact absurd q.symm e
    ·exact q
   have hb:(z == x)=false:=by simpa using e
   rw [Lib.idxFrom,if_neg e,idxFrom_eq x r (i+1) hr,List.idxOf_cons,hb]
   show ((i+1+r.idxOf x:Nat):Int)=((i+(r.idxOf x+1):Nat):Int)
   congr 1;omega
theorem idxOf_eq {x:Int} {zs:List Int} (h:x ∈ zs):Lib.idxOf zs x=(zs.idxOf x:Nat):=by
 unfold Lib.idxOf;rw [idxFrom_eq x zs 0 h,Nat.zero_add]
/-- The cells of an outcome. -/
def outRow (c:Cfg) (o:Rn.Out):Array Value:=#[.int .i64 o.kind,.bool o.ret.p,.int .i64 o.ret.s,.int .u32 o.ret.n,if o.kind=0 then c.mv else .slice none 0 0]
def nxE (c:Cfg) (w':World) (e:Ending):Rn.Nx→Prop
 | .run t=>e=.returned (.tuple #[.int .i64 t,.pointer none])
 | .over o=>∃ (k:Nat) (T:TypeId),e=.returned (.tuple #[.int .i64 0,.pointer (some ⟨k,0,none⟩)])∧w'.heap[k]?=some (.cells (outRow c o) T (0,0))
/-- What a block leaves. -/
def ThruP {c:Cfg} {pick:Rn.Pick} {fin:List Int} (ch:Chooser c pick fin) (O:Nat→Prop) (w:World) (b frm:Int) (vt:Value) (r:Rn.Nx × Rn.St) (e:Ending) (w':World):Prop :=
 Left ch w O r.2 b frm vt w'∧nxE c w' e r.1
theorem rset_at {c:Cfg} {w:World} {s:Rn.St} {b frm:Int} {vt:Value} (h:PS c w s b frm vt) (v:Nat) (hv:v<s.vals.length) (hn:s.vals.length≤1000) (x:Rn.V) (z:Int) (hz:z=v) :
  Calls Tryz.prog 130 #[.pointer (some ⟨c.Bs,0,none⟩),.int .i64 z,vv x] w fun e w'=>e=.returned (.tuple #[])∧PS c w' (s.set v x) b frm vt∧FrS (Mut c) w w':=by
 subst hz
 exact rset_any h v hv hn x
/-- The values that the first Phis have read. -/
def readsL (rs:List Rn.V) (n k:Nat):List Rn.V:=rs.take k++List.replicate (n-k) Rn.zero
theorem readsL_len (rs:List Rn.V) (n k:Nat) (h:k≤n) (hn:n=rs.length):(readsL rs n k).length=n:=by unfold readsL;simp;omega
theorem readsL_step (rs:List Rn.V) (n k:Nat) (hn:n=rs.length) (v:Rn.V) (h:rs[k]?=some v):(readsL rs n k).set k v=readsL rs n (k+1):=by
 have hk:=(List.getElem?_eq_some_iff.1 h).1
 apply List.ext_getElem?
 intro i
 have e1:(rs.take k).length=k:=by simp;omega
 have e2:(rs.take (k+1)).length=k+1:=by simp;omega
 by_cases e:k=i
 ·subst e
  rw [List.getElem?_set_self (by rw [readsL_len _ _ _ (by omega) hn];omega)]
  unfold readsL
  rw [List.getElem?_append_left (by omega),List.getElem?_take,if_pos (by omega),h]
 ·rw [List.getElem?_set_ne e]
  unfold readsL
  by_cases h1:i<k
  ·rw [List.getElem?_append_left (by omega),List.getElem?_append_left (by omega),List.getElem?_take,List.getElem?_take,if_pos h1,if_pos (by omega)]
  ·rw [List.getElem?_append_right (by omega),List.getElem?_append_right (by omega),e1,e2,List.getElem?_replicate,List.getElem?_replicate]
   by_cases h2:i<n
   ·rw [if_pos (by omega),if_pos (by omega)]
   ·rw [if_neg (by omega),if_neg (by omega)]
theorem readsL_end (rs:List Rn.V) (n:Nat) (hn:n=rs.length):readsL rs n n=rs:=by unfold readsL;subst hn;simp
/-- What an instruction of a block does to the rest. -/
theorem runIns_over {f:Fn} {pick:Rn.Pick} {reads:List Rn.V} {x:Ins} {r:List Ins} {i v:Nat} {s:Rn.St} (h:s.steps=400):Rn.runIns f pick reads (x::r) i v s=(.over Rn.long,s):=by rw [Rn.runIns,if_pos h]
theorem runIns_phi {f:Fn} {pick:Rn.Pick} {reads:List Rn.V} {x:Ins} {r:List Ins} {i v:Nat} {s:Rn.St} (h:s.steps≠400) (hi:i<reads.length):Rn.runIns f pick reads (x::r) i v s=Rn.runIns f pick reads r (i+1) (v+1) (s.tick.set v (reads.getD i Rn.zero)):=by rw [Rn.runIns,if_neg h,if_pos hi]
def nextOf (f:Fn) (pick:Rn.Pick) (reads:List Rn.V) (r:List Ins) (i v:Nat):Rn.Res × Rn.St→Rn.Nx × Rn.St
 | (.val y,s')=>Rn.runIns f pick reads r (i+1) (v+1) (s'.set v y)
 | (.on,s')=>Rn.runIns f pick reads r (i+1) (v+1) s'
 | (.go t,s')=>(.run t,s')
 | (.fin o,s')=>(.over o,s')
theorem runIns_exec {f:Fn} {pick:Rn.Pick} {reads:List Rn.V} {x:Ins} {r:List Ins} {i v:Nat} {s:Rn.St} (h:s.steps≠400) (hi:¬ i<reads.length):Rn.runIns f pick reads (x::r) i v s=nextOf f pick reads r i v (Rn.exec f pick x s.tick):=by
 rw [Rn.runIns,if_neg h,if_neg hi]
 cases Rn.exec f pick x s.tick with
 | mk q s'=>cases q <;> rfl
end Go.Proofs.YthfhamagopbgcaaGreat
namespace Go.Proofs.YthfhamagopbgcaaGreat
open Go.RowKit

@[go_sem] theorem ta_VV (v:Value) (w:World):(Instr.typeAssert (.iface 37 v) 20 37 true).run Tryz.prog w=.ok (.tuple #[v,.bool true]) w:=by kernel_rfl
@[go_sem] theorem ta_VG (v:Value) (w:World):(Instr.typeAssert (.iface 37 v) 20 174 true).run Tryz.prog w=.ok (.tuple #[.agg #[.int .i64 0],.bool false]) w:=by kernel_rfl
@[go_sem] theorem ta_VE (v:Value) (w:World):(Instr.typeAssert (.iface 37 v) 20 176 true).run Tryz.prog w=.ok (.tuple #[.agg #[.int .i64 0,.bool false,.int .i64 0,.int .u32 0,.slice none 0 0],.bool false]) w:=by kernel_rfl
@[go_sem] theorem ta_NV (v:Value) (w:World):(Instr.typeAssert (.iface 218 v) 20 37 true).run Tryz.prog w=.ok (.tuple #[.agg #[.bool false,.int .i64 0,.int .u32 0],.bool false]) w:=by kernel_rfl
@[go_sem] theorem ta_NG (v:Value) (w:World):(Instr.typeAssert (.iface 218 v) 20 174 true).run Tryz.prog w=.ok (.tuple #[.agg #[.int .i64 0],.bool false]) w:=by kernel_rfl
@[go_sem] theorem ta_NE (v:Value) (w:World):(Instr.typeAssert (.iface 218 v) 20 176 true).run Tryz.prog w=.ok (.tuple #[.agg #[.int .i64 0,.bool false,.int .i64 0,.int .u32 0,.slice none 0 0],.bool false]) w:=by kernel_rfl
@[go_sem] theorem ta_GV (v:Value) (w:World):(Instr.typeAssert (.iface 174 v) 20 37 true).run Tryz.prog w=.ok (.tuple #[.agg #[.bool false,.int .i64 0,.int .u32 0],.bool false]) w:=by kernel_rfl
@[go_sem] theorem ta_GG (v:Value) (w:World):(Instr.typeAssert (.iface 174 v) 20 174 true).run Tryz.prog w=.ok (.tuple #[v,.bool true]) w:=by kernel_rfl
@[go_sem] theorem ta_GE (v:Value) (w:World):(Instr.typeAssert (.iface 174 v) 20 176 true).run Tryz.prog w=.ok (.tuple #[.agg #[.int .i64 0,.bool false,.int .i64 0,.int .u32 0,.slice none 0 0],.bool false]) w:=by kernel_rfl
@[go_sem] theorem ta_EV (v:Value) (w:World):(Instr.typeAssert (.iface 176 v) 20 37 true).run Tryz.prog w=.ok (.tuple #[.agg #[.bool false,.int .i64 0,.int .u32 0],.bool false]) w:=by kernel_rfl
@[go_sem] theorem ta_EG (v:Value) (w:World):(Instr.typeAssert (.iface 176 v) 20 174 true).run Tryz.prog w=.ok (.tuple #[.agg #[.int .i64 0],.bool false]) w:=by kernel_rfl
@[go_sem] theorem ta_EE (v:Value) (w:World):(Instr.typeAssert (.iface 176 v) 20 176 true).run Tryz.prog w=.ok (.tuple #[v,.bool true]) w:=by kernel_rfl
end Go.Proofs.YthfhamagopbgcaaGreat
namespace Go.Proofs.YthfhamagopbgcaaGreat
set_option linter.unusedSimpArgs false
set_option linter.unusedVariables false
open Go.RowKit

theorem shp_args {f:Fn} {x:Ins} (h:Rn.Shp f x) (ho:x.op≠28):x.args.length≤40:=by
 cases h with
 | phi q=>exact absurd q ho
 | _=>simp [*]
theorem shp_pos {f:Fn} {x:Ins} (h:Rn.Shp f x) (ho:x.op≠28):∀ v ∈ x.args,0<Ref.kind f v:=by
 intro v hv
 cases h with
 | phi q=>exact absurd q ho
 | const o ha=>simp [ha] at hv
 | arith o a b ha ka kb hw=>rw [ha] at hv;have:=hw.1;simp at hv;rcases hv with rfl | rfl <;> omega
 | cmp o a b ha kb hk=>rw [ha] at hv;have:=hk.1;simp at hv;rcases hv with rfl | rfl <;> omega
 | select o a b c ha ka kb kc hw=>rw [ha] at hv;have:0<x.width:=hw.elim (fun q=>by have:=q.1;omega) (fun q=>by omega);simp at hv;rcases hv with rfl | rfl | rfl <;> omega
 | ext o a ha hk=>rw [ha] at hv;have:=hk.1;simp at hv;subst hv;omega
 | lanes o a b ha ka kb hw=>rw [ha] at hv;have:=hw.1;simp at hv;rcases hv with rfl | rfl <;> omega
 | freeze o a ha ka hw=>rw [ha] at hv;have:=hw.1;simp at hv;subst hv;omega
 | poison o ha=>simp [ha] at hv
 | any o ha=>simp [ha] at hv
 | addr o ha=>simp [ha] at hv
 | gep o a b ha ka kb=>rw [ha] at hv;have:=kb.1;simp at hv;rcases hv with rfl | rfl <;> omega
 | load o a ha ka=>rw [ha] at hv;simp at hv;subst hv;omega
 | store o a b ha ka kb=>rw [ha] at hv;simp at hv;rcases hv with rfl | rfl <;> (try rcases kb with q | q | q) <;> omega
 | jump o ha=>simp [ha] at hv
 | branch o a ha ka=>rw [ha] at hv;simp at hv;subst hv;omega
 | ret0 o ha=>simp [ha] at hv
 | ret o a ha ka hr=>rw [ha] at hv;have:=hr.1;simp at hv;subst hv;omega
 | trap o ha=>simp [ha] at hv
theorem PS.mut_lt {c:Cfg} {w:World} {s:Rn.St} {b frm:Int} {vt:Value} (h:PS c w s b frm vt) {k:Nat} (hk:Mut c k):k<w.heap.size:=by
 rcases hk with rfl | rfl | rfl | ⟨j,cp,hj⟩
 ·exact lt_of_heap h.st
 ·exact lt_of_heap h.vals
 ·exact lt_of_heap h.had
 ·have hj2:=(List.getElem?_eq_some_iff.1 hj).1
  obtain ⟨m,hm⟩:∃ m,s.mem[j]?=some m:=⟨_,List.getElem?_eq_getElem (by have:=h.mem.1;omega)⟩
  obtain ⟨-,-,cur,q,-⟩:=h.mem.2 j k cp m hj hm
  exact lt_of_heap q
set_option maxRecDepth 100000 in
set_option maxHeartbeats 4000000 in
theorem rthrough_any {c:Cfg} {w:World} {s:Rn.St} {b:Nat} {frm:Int} {vt:Value} (h:PS c w s (b:Int) frm vt) (hf:VFn c.f) {l:List Ins} (hl:c.f.blocks[b]?=some l) {vl:Value} (hvl:BlkAt c.n₀ w vl l)
  (he:Rn.Ent c.f b frm l s) {pick:Rn.Pick} {fin:List Int} (hpk:Rn.PickOk pick) (ch:Chooser c pick fin) {O:Nat→Prop} (hA:ch.At w s.widths O) (hfin:(Rn.block c.f pick b frm s).2.widths <+: fin) (hst:s.steps≤400) :
  Calls Tryz.prog 86 #[.pointer (some ⟨c.Bs,0,none⟩),vl] w (ThruP ch O w (b:Int) frm vt (Rn.block c.f pick b frm s)):=by
 have hlm:=List.mem_of_getElem? hl
 have hnp:(Rn.phis l).length≤l.length:=Rn.phis_le l
 have hpos:0<l.length:=List.length_pos_iff.2 (Rn.val_laid hf.val hlm).1
 have hnlt:(Rn.phis l).length<l.length:=by
  rcases Nat.lt_or_ge (Rn.phis l).length l.length with q | q
  ·exact q
  ·obtain ⟨x,hx⟩:∃ x,l[l.length-1]?=some x:=⟨_,List.getElem?_eq_getElem (by omega)⟩
   have h1:=(Rn.last_iff hf.val hlm hx).2 (by omega)
   have h2:=(Rn.phi_iff hf.val hlm hx).2 (by omega)
   rw [h2] at h1
   exact absurd h1 (by decide)
 have hl40:l.length≤1000:=by
  have hc:=Ref.number_count c.f hl
  have:=hf.val.size
  have e:Ref.count c.f=c.f.params.length+Ref.total c.f.blocks:=by unfold Ref.count Ref.number;rw [List.take_length]
  omega
 have hvn:s.vals.length≤1000:=by
  have:=he.toMid.toInv.len
  have:=hf.val.size
  have e:Ref.count c.f=c.f.params.length+Ref.total c.f.blocks:=by unfold Ref.count Ref.number;rw [List.take_length]
  omega
 obtain ⟨rs,hrs⟩:∃ rs,(Rn.phis l).map (Rn.phiRead s frm)=rs:=⟨_,rfl⟩
 have hrl:rs.length=(Rn.phis l).length:=by rw [← hrs,List.length_map]
 obtain ⟨R,hR⟩:∃ R,Rn.block c.f pick b frm s=R:=⟨_,rfl⟩
 have hR0:Rn.runIns c.f pick rs l 0 (Ref.number c.f b) s=R:=by
  rw [← hR];unfold Rn.block
  rw [List.getD_eq_getElem?_getD,hl]
  show _=Rn.runIns c.f pick ((Rn.phis l).map (Rn.phiRead s frm)) l 0 _ s
  rw [hrs]
 have HPH:Hid (∀ k x,l[k]?=some x→k<(Rn.phis l).length→x.op=28∧frm ∈ x.to∧x.to.length=x.args.length∧x.to.idxOf frm<x.args.length∧∃ z:Nat,x.args[x.to.idxOf frm]?=some (z:Int)∧z<s.vals.length∧rs[k]?=some (s.get (z:Int))∧s.vals[z]?=some (s.get (z:Int))):=by
  intro k x hx hk
  have hop:=(Rn.phi_iff hf.val hlm hx).2 hk
  have hp:(Rn.phis l)[k]?=some x:=by
   have:Rn.phis l <+: l:=List.takeWhile_prefix _
   obtain ⟨t,ht⟩:=this
   rw [← ht,List.getElem?_append_left hk] at hx
   exact hx
  obtain ⟨p1,p2,⟨p3,p4⟩,-,-⟩:=he.phi x (List.mem_of_getElem? hp)
  have hil:x.to.idxOf frm<x.args.length:=by rw [p2];exact List.idxOf_lt_length_iff.2 p1
  obtain ⟨z,hz⟩:=Int.eq_ofNat_of_zero_le p3
  rw [hz] at p4
  have hzl:z<s.vals.length:=by rw [he.toMid.toInv.len];exact Int.ofNat_lt.1 p4
  refine ⟨hop,p1,p2.symm,hil,z,?_,hzl,?_,?_⟩
  ·rw [List.getD_eq_getElem?_getD,List.getElem?_eq_getElem hil] at hz
   rw [List.getElem?_eq_getElem hil];exact congrArg some hz
  ·rw [← hrs,List.getElem?_map,hp]
   show some (Rn.phiRead s frm x)=_
   unfold Rn.phiRead;rw [hz]
  ·unfold Rn.St.get
   rw [Int.toNat_natCast,List.getD_eq_getElem?_getD,List.getElem?_eq_getElem hzl];rfl
 have HNP:Hid (∀ k x,l[k]?=some x→k=(Rn.phis l).length→(x.op == 28)=false):=by
  intro k x hx hk
  have:=Rn.phi_iff hf.val hlm hx
  simp;intro q;have:=this.1 q;omega
 obtain ⟨np,hnpe⟩:∃ np,(Rn.phis l).length=np:=⟨_,rfl⟩
 rw [hnpe] at hnp hnlt hrl HPH HNP
 obtain ⟨Al,cl,rfl,l1,l2,l3⟩:=hvl
 obtain ⟨bl,ol,rfl,hbl,l4⟩:=l3 hpos
 have HINS:Hid (∀ wr,Below c.n₀ w wr→∀ k x,l[k]?=some x→InsAt c.n₀ wr bl (ol+k * 6) x):=fun wr hb k x hx=>(l4 k x hx).below hbl hb
 have HOP:Hid (∀ k x,l[k]?=some x→w.cell? ⟨bl,ol+k * 6,none⟩=some (.int .i64 x.op)):=fun k x hx=>by
  obtain ⟨va,vt,q,-⟩:=l4 k x hx
  exact q
 have hMV:=make_values w np (by omega)
 obtain ⟨W1,hW1⟩:∃ W1,w.alloc (.cells (encVs (List.replicate np Rn.zero)).toArray 37)=W1:=⟨_,rfl⟩
 rw [hW1] at hMV
 have hB1:Gr w W1:=by rw [← hW1];exact (Gr.refl w).alloc _
 have hW1s:W1.heap.size=w.heap.size+1:=by rw [← hW1];simp
 have HROW:Hid (RowV w.heap.size (readsL rs np 0) W1):=by
  show RowV _ _ _
  have e:readsL rs np 0=List.replicate np Rn.zero:=by unfold readsL;simp
  rw [e];unfold RowV;rw [← hW1];exact heap_alloc_new w _
 have HGR:Hid (∀ wr,FrS (·=w.heap.size) W1 wr→Gr w wr):=fun wr hfr=>by
  have hB:Below w.heap.size W1 wr:=hfr.below (fun k hk=>by omega) (by omega)
  exact Gr.below hB1 hB (Nat.le_refl _)
 have HH:=Lib.hid h
 have HA:=Lib.hid hA
 have HF:=Lib.hid hf
 have HE:=Lib.hid he
 have HL:=Lib.hid hl
 have HFIN:Hid (R.2.widths <+: fin):=by show _ <+: _;rw [← hR];exact hfin
 have HR0:=Lib.hid hR0
 have HRS:=Lib.hid hrs
 have HN0:=Lib.hid h.n₀
 have hvv:(Rn.block c.f pick b frm s)=R:=hR
 rw [hvv]
 clear h hA he hl hfin hR0 hrs l3 l4 hlm hR hvv hW1 hbl hf
 go_enter Tryz.func86, Tryz.ntmps86
 go_wp2
 go_loop [6] (fun s6=>∃ k:Nat,k≤np∧s6=.int .i64 (k:Int)) (fun s6=>np-(intOf s6).toNat)
 case atStart=>exact ⟨0,Nat.zero_le _,rfl⟩
 case round =>
  obtain ⟨k,hk,rfl⟩:=hrel
  obtain ⟨x,hx⟩:∃ x,l[k]?=some x:=⟨_,List.getElem?_eq_getElem (by omega)⟩
  have hco:=HOP.out k x hx
  have hkl:k<l.length:=by omega
  by_cases hlt:k<np
  ·obtain ⟨hop,-⟩:=HPH.out k x hx hlt
   rw [hop] at hco
   clear hx hop
   go_wp2
   go_round
   case rel=>exact ⟨k+1,by omega,by go_num⟩
   case measure=>simp [intOf];omega
  ·obtain rfl:np=k:=by omega
   have hn28:=HNP.out np x hx rfl
   clear hx
   go_wp2
   clear hco hn28 hkl hlt
   go_loopw [36] (fun s36 wr=>∃ k:Nat,k≤np∧s36=.int .i64 (k:Int)∧Hid (RowV w.heap.size (readsL rs np k) wr)∧Hid (FrS (·=w.heap.size) W1 wr)) (fun s36 _=>np-(intOf s36).toNat)
   case atStart=>exact ⟨0,Nat.zero_le _,rfl,HROW,FrS.refl _ _⟩
   case round =>
    obtain ⟨k,hk,rfl,hrow,hfr⟩:=hrel
    have hG:=HGR.out wr hfr.out
    by_cases hlt:k<np
    ·obtain ⟨x,hx⟩:∃ x,l[k]?=some x:=⟨_,List.getElem?_eq_getElem (by omega)⟩
     obtain ⟨hop,hto,htl,hil,z,hz,hzl,hrz,hvz⟩:=HPH.out k x hx hlt
     obtain ⟨va,vt2,i0,i1,i2,i3,i4,i5,ia,it⟩:=HINS.out wr (Below.mono hG HN0.out) k x hx
     obtain ⟨Aa,ca,rfl,a1,a2,a3⟩:=ia
     obtain ⟨ba,oa,rfl,hba,a4⟩:=a3 (by omega)
     obtain ⟨At,ct,rfl,t1,t2,t3⟩:=it
     obtain ⟨bt,ot,rfl,hbt,t4⟩:=t3 (by omega)
     obtain ⟨W2,hW2⟩:∃ W2,xbox wr x (.slice (some ⟨ba,oa,none⟩) x.args.length ca) (.slice (some ⟨bt,ot,none⟩) x.to.length ct)=W2:=⟨_,rfl⟩
     have g2:Gr wr W2:=by rw [← hW2];exact (Gr.refl wr).alloc _
     have hPS:=fun (u:GrW W2)=>HH.out.gr ((hG.trans g2).trans u.gr)
     have U5:∀ u:GrW W2,u.val.cell? ⟨c.Bs,5,none⟩=some (.slice (some ⟨c.Bv,0,none⟩) s.vals.length s.vals.length):=fun u=>(hPS u).cell 5
     have U10:∀ u:GrW W2,u.val.cell? ⟨c.Bs,10,none⟩=some (.int .i64 frm):=fun u=>(hPS u).cell 10
     have X:=fun (u:GrW W2)=>xbox_cells (w:=wr) (x:=x) (va:=.slice (some ⟨ba,oa,none⟩) x.args.length ca) (vt:=.slice (some ⟨bt,ot,none⟩) x.to.length ct) (w':=u.val) (by rw [hW2];exact u.gr)
     have U3:=fun u=>(X u).2.2.2.1
     have U6:=fun u=>(X u).2.2.2.2.2
     have hbaw:ba<wr.heap.size:=by have:=HN0.out;have:=hG.size;omega
     have hbtw:bt<wr.heap.size:=by have:=HN0.out;have:=hG.size;omega
     have U7:∀ u:GrW W2,u.val.cell? ⟨ba,oa+x.to.idxOf frm,none⟩=some (.int .i64 z):=fun u=>((g2.trans u.gr).cell _ _ hbaw).trans (a4 _ _ hz)
     have V:=fun (u:GrW W2)=>RowV.cells (hPS u).vals hvz
     have V0:=fun u=>(V u).1
     have V1:=fun u=>(V u).2.1
     have V2:=fun u=>(V u).2.2
     have CI:Hid (∀ u:GrW W2,Calls Tryz.prog 61 #[.slice (some ⟨bt,ot,none⟩) x.to.length ct,.int .i64 frm] u.val fun e w'=>e=.returned (.int .i64 (x.to.idxOf frm:Nat))∧Gr u.val w'):=fun u=>by
      refine still_gr ?_
      have:=Tryz.slices_Index_int bt ot x.to.length ct x.to frm u.val (Nat.le_refl _) (by omega) (fun j hj=>by
        rw [List.getD_eq_getElem?_getD,List.getElem?_eq_getElem hj]
        exact ((g2.trans u.gr).cell _ _ hbtw).trans (t4 j _ (List.getElem?_eq_getElem hj)))
      rwa [List.take_length,idxOf_eq hto] at this
     obtain ⟨q,hq⟩:∃ q,x.to.idxOf frm=q:=⟨_,rfl⟩
     rw [hq] at U7 CI hil
     obtain ⟨y,hy⟩:∃ y,(readsL rs np k)[k]?=some y:=⟨_,List.getElem?_eq_getElem (by rw [readsL_len _ _ _ hk hrl.symm];exact hlt)⟩
     have HROW2:Hid (∀ u:GrW W2,RowV w.heap.size (readsL rs np k) u.val):=fun u=>((g2.trans u.gr).heap _ (lt_of_heap hrow.out)).trans hrow.out
     have HNX:Hid (∀ u:GrW W2,RowV w.heap.size (readsL rs np (k+1)) (((u.val.setCell ⟨w.heap.size,k * 3,none⟩ (.bool (s.get z).p)).setCell ⟨w.heap.size,k * 3+1,none⟩ (.int .i64 (s.get z).s)).setCell ⟨w.heap.size,k * 3+2,none⟩ (.int .u32 (s.get z).n))):=fun u=>by
      rw [← readsL_step rs np k hrl.symm _ hrz]
      exact (HROW2.out u).set k _
     have HNF:Hid (∀ u:GrW W2,FrS (·=w.heap.size) W1 (((u.val.setCell ⟨w.heap.size,k * 3,none⟩ (.bool (s.get z).p)).setCell ⟨w.heap.size,k * 3+1,none⟩ (.int .i64 (s.get z).s)).setCell ⟨w.heap.size,k * 3+2,none⟩ (.int .u32 (s.get z).n))):=fun u =>
      (((hfr.out.trans (FrS.of_gr (g2.trans u.gr))).setCell (p:=⟨w.heap.size,k * 3,none⟩) rfl _).setCell (p:=⟨w.heap.size,k * 3+1,none⟩) rfl _).setCell (p:=⟨w.heap.size,k * 3+2,none⟩) rfl _
     have HD:Hid (∀ u:GrW W2,(u.val.cell? ⟨w.heap.size,k * 3,none⟩=some (.bool y.p)∧u.val.cell? ⟨w.heap.size,k * 3+1,none⟩=some (.int .i64 y.s)∧u.val.cell? ⟨w.heap.size,k * 3+2,none⟩=some (.int .u32 y.n))∧u.val.frozen? ⟨w.heap.size,k * 3,none⟩=false∧u.val.frozen? ⟨w.heap.size,k * 3+1,none⟩=false∧u.val.frozen? ⟨w.heap.size,k * 3+2,none⟩=false) :=
      fun u=>⟨(HROW2.out u).cells hy,(HROW2.out u).free _,(HROW2.out u).free _,(HROW2.out u).free _⟩
     have hkl:k<l.length:=by omega
     obtain ⟨sv,hsv⟩:∃ sv,s.get (z:Int)=sv:=⟨_,rfl⟩
     rw [hsv] at V0 V1 V2 HNX HNF
     obtain ⟨N,hN⟩:∃ N,s.vals.length=N:=⟨_,rfl⟩
     rw [hN] at U5 hzl hvn
     clear hx hto htl hz hrz hvz a3 a4 t3 t4 X V hPS hq hy hbaw hbtw hsv hN hG hba hbt g2 hop
     unfold xbox at hW2
     go_wp2
     refine wp_region_tailGr 20 (by kernel_rfl) (by kernel_rfl) ?_
     simp only [List.take_succ_cons,List.take_zero,List.drop_succ_cons,List.drop_zero]
     repeat (go_big_quiet_step ((rename_i u;go_at_call 61;exact grW_call u (CI.out u))))
     refine wpQuiet_nil ?_
     intro w9 hw9
     obtain ⟨u9,rfl⟩:=hw9
     obtain ⟨⟨d0,d1,d2⟩,f0,f1,f2⟩:=HD.out u9
     have HX9:=Lib.hid (HNX.out u9)
     have HF9:=Lib.hid (HNF.out u9)
     clear U5 U10 U3 U6 U7 V0 V1 V2
     go_wp2
     go_roundw
     case rel=>exact ⟨k+1,by omega,by go_num,HX9,HF9⟩
     case measure=>simp [intOf];omega
    ·obtain rfl:np=k:=by omega
     obtain ⟨Wb,hWb⟩:∃ Wb,Wb=wr:=⟨_,rfl⟩
     subst hWb
     rw [readsL_end rs np hrl.symm] at hrow
     have hA':ch.At Wb s.widths O:=ch.keep HA.out (FrS.of_gr (S:=fun _=>False) hG) (fun k hk=>hk.elim)
     have hP':=HH.out.gr hG
     have HL0:Hid (Left ch Wb O s (b:Int) frm vt Wb):=Left.of_gr hA' hP' (Gr.refl _)
     have hOlt:∀ k,O k→c.n₀≤k∧k<w.heap.size:=fun k hk=>⟨(ch.apart HA.out k hk).1,(ch.apart HA.out k hk).2.1⟩
     have HROWB:Hid (∀ s' wr,Left ch Wb O s' (b:Int) frm vt wr→RowV w.heap.size rs wr):=fun s' wr hl' =>
      (hl'.block (lt_of_heap hrow.out) (fun hm=>by have:=HH.out.mut_lt hm;omega) (fun ho=>by have:=(hOlt _ ho).2;omega)).trans hrow.out
     have HBEL:Hid (∀ s' wr,Left ch Wb O s' (b:Int) frm vt wr→Below c.n₀ w wr):=fun s' wr ⟨O',p,a,f,o⟩ =>
      Below.trans (Below.mono hG HN0.out) (f.below (fun k hk=>hk.elim (fun q=>hP'.mut q) (fun q=>(hOlt k q).1)) hP'.n₀)
     have HUP:Hid (∀ s' wr,Left ch Wb O s' (b:Int) frm vt wr→Left ch w O s' (b:Int) frm vt wr):=fun s' wr hl'=>left_trans (FrS.of_gr hG) (fun k hk=>.inl hk) hl'
     clear hrow hfr hA' hP' hOlt hG hlt hk
     go_wp2
     go_loopw [64] (fun s64 wr=>∃ (k:Nat) (s':Rn.St),k≤l.length∧s64=.int .i64 (k:Int)∧s'.steps≤400∧Hid (Left ch Wb O s' (b:Int) frm vt wr)∧Hid (Rn.Mid c.f b k l s')∧Hid (Rn.runIns c.f pick rs (l.drop k) k (Ref.number c.f b+k) s'=R)) (fun s64 _=>l.length-(intOf s64).toNat)
     case atStart=>exact ⟨0,s,Nat.zero_le _,rfl,hst,HL0,HE.out.toMid,by (show _=_);rw [List.drop_zero,Nat.add_zero];exact HR0.out⟩
     case round =>
      obtain ⟨k,s',hk,rfl,hst',hl',hm,hrun⟩:=hrel
      by_cases hlt:k<l.length
      ·obtain ⟨x,hx⟩:∃ x,l[k]?=some x:=⟨_,List.getElem?_eq_getElem hlt⟩
       have hdr:l.drop k=x::l.drop (k+1):=by rw [List.drop_eq_getElem_cons hlt];congr 1;rw [List.getElem?_eq_getElem hlt] at hx;injection hx
       obtain ⟨O',hP,hA,hF,hO⟩:=hl'.out
       obtain ⟨va,vt2,i0,i1,i2,i3,i4,i5,ia,it⟩:=HINS.out wr (HBEL.out _ _ hl'.out) k x hx
       obtain ⟨W2,hW2⟩:∃ W2,xbox wr x va vt2=W2:=⟨_,rfl⟩
       have g2:Gr wr W2:=by rw [← hW2];exact (Gr.refl wr).alloc _
       have hP2:=hP.gr g2
       have c11:W2.cell? ⟨c.Bs,11,none⟩=some (.int .i64 (s'.steps:Int)):=hP2.cell 11
       by_cases h400:s'.steps=400
       ·have HRE:Hid (R=(.over Rn.long,s')):=by (show _=_);rw [← hrun.out,hdr,runIns_over h400]
        rw [show (s'.steps:Int)=400 by omega] at c11
        have HL2:=Lib.hid fun (w9:World) (g:Gr W2 w9)=>HUP.out _ _ (hl'.out.gr (g2.trans g))
        obtain ⟨Aa,ca,rfl,-,-,-⟩:=ia
        obtain ⟨At,ct,rfl,-,-,-⟩:=it
        clear hx hdr hP hA hF hO hP2 hm hrun g2 hl'
        unfold xbox at hW2
        go_wp2
        go_ret2
        unfold ThruP
        rw [HRE.out]
        exact ⟨HL2.out _ ((Gr.refl _).alloc _),_,_,rfl,heap_alloc_new _ _⟩
       ·have hne:(s'.steps:Int)≠400:=by omega
        obtain ⟨W3,hW3⟩:∃ W3,W2.setCell ⟨c.Bs,11,none⟩ (.int .i64 ((s'.steps:Int)+1))=W3:=⟨_,rfl⟩
        have hP3:PS c W3 s'.tick (b:Int) frm vt:=by rw [← hW3];exact hP2.tick
        have f11:W2.frozen? ⟨c.Bs,11,none⟩=false:=frozen_of_row _ _ 11 _ _ hP2.st
        have hF3:FrS (Mut c) wr W3:=by rw [← hW3];exact ((FrS.of_gr g2).setCell (p:=⟨c.Bs,11,none⟩) (.inl rfl) _)
        have hA3:ch.At W3 s'.tick.widths O':=ch.keep hA hF3 (fun k hk=>⟨hP.mut hk,fun q=>(ch.apart hA k q).2.2 (.inl hk)⟩)
        have hL3:Left ch Wb O s'.tick (b:Int) frm vt W3:=left_trans hF hO (Left.of_mut (s:=s') hA hP3 rfl hF3 (fun k hk=>hP.mut hk))
        have c7:W3.cell? ⟨c.Bs,7,none⟩=some (.slice (some ⟨c.Bf,0,none⟩) c.f.blocks.length c.cf):=hP3.cell 7
        have c9:W3.cell? ⟨c.Bs,9,none⟩=some (.int .i64 (b:Int)):=hP3.cell 9
        have hbl:=(List.getElem?_eq_some_iff.1 HL.out).1
        have cf:=hP3.firstAt b hbl
        obtain ⟨fl1,fl2,-⟩:=hP3.first
        have hnc:=Ref.number_count c.f HL.out
        have hcn:s'.vals.length≤1000∧Ref.count c.f=s'.vals.length:=by
         have h1:=hm.out.toInv.len
         have h2:=HE.out.toMid.toInv.len
         omega
        obtain ⟨hcn1,hcn2⟩:=hcn
        have XC:=xbox_cells (w:=wr) (x:=x) (va:=va) (vt:=vt2) (w':=W2) (by rw [hW2];exact Gr.refl _)
        have hbs:c.Bs≠wr.heap.size:=by have:=lt_of_heap hP.st;omega
        have far:∀ i,W3.cell? ⟨wr.heap.size,i,none⟩=W2.cell? ⟨wr.heap.size,i,none⟩:=fun i=>by rw [← hW3];exact World.cell?_setCell_far _ ⟨c.Bs,11,none⟩ ⟨wr.heap.size,i,none⟩ _ hbs
        have X0:=(far 0).trans XC.1
        have X1:=(far 1).trans XC.2.1
        have X2:=(far 2).trans XC.2.2.1
        have X3:=(far 3).trans XC.2.2.2.1
        have X4:=(far 4).trans XC.2.2.2.2.1
        have X5:=(far 5).trans XC.2.2.2.2.2
        have hnb:(Ref.number c.f b:Int)+(k:Int)<1000:=by omega
        have hnk:Ref.number c.f b+k<s'.tick.vals.length:=by show _<s'.vals.length;omega
        have hm':Rn.Mid c.f b k l s'.tick:=hm.out.like (Rn.like_tick s')
        have HM3:=Lib.hid hm'
        have HL3:=Lib.hid hL3
        have HSET:Hid (∀ (w4 w6:World) (s2:Rn.St) (y:Rn.V),Gr W3 w4→Left ch w4 O' s2 (b:Int) frm vt w6→s2.vals.length=s'.vals.length →
            Calls Tryz.prog 130 #[.pointer (some ⟨c.Bs,0,none⟩),.int .i64 ((Ref.number c.f b:Int)+(k:Int)),vv y] w6 fun e w'=>e=.returned (.tuple #[])∧Left ch Wb O (s2.set (Ref.number c.f b+k) y) (b:Int) frm vt w'):=by
         intro w4 w6 s2 y g4 hl6 hlen
         have hl6':=hl6
         obtain ⟨O6,p6,a6,f6,o6⟩:=hl6
         refine (rset_at p6 (Ref.number c.f b+k) (by rw [hlen];exact hnk) (by rw [hlen];exact hcn1) y _ (by simp)).mono fun e w' h=>⟨h.1,?_⟩
         have s1:Left ch w6 O6 (s2.set (Ref.number c.f b+k) y) (b:Int) frm vt w':=Left.of_mut (s:=s2) a6 h.2.1 rfl h.2.2 (fun k hk=>p6.mut hk)
         have s2':Left ch w4 O' (s2.set (Ref.number c.f b+k) y) (b:Int) frm vt w':=left_trans f6 o6 s1
         have s3:Left ch wr O' (s2.set (Ref.number c.f b+k) y) (b:Int) frm vt w':=left_trans ((hF3.mono fun k hk=>.inl hk).trans (FrS.of_gr g4)) (fun k hk=>.inl hk) s2'
         exact left_trans hF hO s3
        by_cases hph:k<np
        ·obtain ⟨hop,-⟩:=HPH.out k x hx hph
         obtain ⟨y,hy⟩:∃ y,rs[k]?=some y:=⟨_,List.getElem?_eq_getElem (by omega)⟩
         have hrow3:=HROWB.out _ _ hL3
         obtain ⟨d0,d1,d2⟩:=RowV.cells hrow3 hy
         have HRUN:Hid (Rn.runIns c.f pick rs (l.drop (k+1)) (k+1) (Ref.number c.f b+(k+1)) (s'.tick.set (Ref.number c.f b+k) y)=R):=by
          show _=_
          rw [← hrun.out,hdr,runIns_phi h400 (by omega),List.getD_eq_getElem?_getD,hy];rfl
         have HMID:Hid (Rn.Mid c.f b (k+1) l (s'.tick.set (Ref.number c.f b+k) y)):=by
          have:=Rn.phi_set HF.out.val HE.out hm' HL.out hx (by rw [hnpe];exact hph)
          rw [HRS.out,List.getD_eq_getElem?_getD,hy] at this
          exact this
         have CS:=Lib.hid fun (w4:World) (g:Gr W3 w4)=>HSET.out w4 w4 s'.tick y g (Left.of_gr (s:=s'.tick) (ch.keep hA3 (FrS.of_gr (S:=fun _=>False) g) (fun k hk=>hk.elim)) (hP3.gr g) (Gr.refl _)) rfl
         unfold vv at CS
         obtain ⟨nb,hnbe⟩:∃ nb,Ref.number c.f b=nb:=⟨_,rfl⟩
         have HNB:=Lib.hid hnbe
         rw [hnbe] at cf hnb CS HRUN HMID
         obtain ⟨Aa,ca,rfl,-,-,-⟩:=ia
         obtain ⟨At,ct,rfl,-,-,-⟩:=it
         have hst2:(s'.tick.set (nb+k) y).steps≤400:=by show s'.steps+1≤400;omega
         clear hx hdr hP hA hF hO hP2 hm hrun hP3 hF3 hA3 hL3 hm' far XC hrow3 hy hnbe hnk hnc hcn2 g2 hl' hop
         unfold xbox at hW2
         go_wp2
         go_quiet ((fail))
         go_wp2_with (go_at_call 130;(with_reducible refine (CS.out _ ((Gr.refl _).drewN _)).mono ?_);rintro e w5 ⟨rfl,hl5⟩;have HL5:=Lib.hid hl5;clear hl5)
         go_roundw
         case rel=>exact ⟨k+1,_,by omega,by go_num,hst2,HL5,HMID,by (show _=_);rw [HNB.out];exact HRUN.out⟩
         case measure=>simp [intOf];omega
        ·have hxm:=List.mem_of_getElem? hx
         have hlm:=List.mem_of_getElem? HL.out
         have ho:x.op≠28:=fun q=>hph (by rw [← hnpe];exact (Rn.phi_iff HF.out.val hlm hx).1 q)
         have hshp:=Rn.shp HF.out.val HF.out.im hlm hxm
         have hex:=Rn.exec_ok HF.out.val HF.out.im hpk hm' HL.out hx ho
         have hnrun:nextOf c.f pick rs (l.drop (k+1)) k (Ref.number c.f b+k) (Rn.exec c.f pick x s'.tick)=R:=by
          rw [← hrun.out,hdr,runIns_exec h400 (by omega)]
         have hfin4:(Rn.exec c.f pick x s'.tick).2.widths <+: fin:=by
          have h1:=Rn.step_prefix c.f pick rs x (l.drop (k+1)) k (Ref.number c.f b+k) s' h400 (by omega)
          rw [← hdr,hrun.out] at h1
          exact h1.trans HFIN.out
         have hst4:=Rn.exec_steps c.f pick x s'.tick
         have hbn:Below c.n₀ wr W3:=hF3.below (fun k hk=>hP.mut hk) hP.n₀
         have CST:Hid (∀ w4,Gr W3 w4→Calls Tryz.prog 131 #[.pointer (some ⟨c.Bs,0,none⟩),insVal x va vt2] w4 (StepP ch O' w4 (b:Int) frm vt (Rn.exec c.f pick x s'.tick))):=fun w4 g =>
          rstep_any (hP3.gr g) HF.out x va vt2 (ia.below (hbn.trans (Below.mono g hP3.n₀))) (it.below (hbn.trans (Below.mono g hP3.n₀))) (shp_args hshp ho)
           (fun v hv=>by have:=Rn.kind_pos (shp_pos hshp ho v hv);rw [hcn2] at this;exact this) hcn1 hm'.toInv ch (ch.keep hA3 (FrS.of_gr (S:=fun _=>False) g) (fun k hk=>hk.elim)) hfin4 hshp ho (fun v hv hk=>Rn.arg_there HF.out.val hm' HL.out hx ho hv hk)
         have HUP2:Hid (∀ (w4 w6:World) (s2:Rn.St),Gr W3 w4→Left ch w4 O' s2 (b:Int) frm vt w6→Left ch Wb O s2 (b:Int) frm vt w6):=fun w4 w6 s2 g4 hl6 =>
          left_trans hF hO (left_trans ((hF3.mono fun k hk=>.inl hk).trans (FrS.of_gr g4)) (fun k hk=>.inl hk) hl6)
         unfold insVal at CST
         obtain ⟨nb,hnbe⟩:∃ nb,Ref.number c.f b=nb:=⟨_,rfl⟩
         have HNB:=Lib.hid hnbe
         rw [hnbe] at cf hnb HSET hnrun
         obtain ⟨Aa,ca,rfl,-,-,-⟩:=ia
         obtain ⟨At,ct,rfl,-,-,-⟩:=it
         have hvl:(Rn.exec c.f pick x s'.tick).2.vals.length=s'.vals.length∨∃ o,(Rn.exec c.f pick x s'.tick).1=.fin o:=by
          exact Rn.exec_ways c.f pick x s'.tick (fun r=>r.2.vals.length=s'.vals.length∨∃ o,r.1=.fin o) (fun _=>.inl rfl) (.inr ⟨_,rfl⟩) (fun _=>.inr ⟨_,rfl⟩) (fun _=>.inl rfl) (fun _=>.inl rfl) (fun _=>.inl rfl)
         have hxx:Hid (l[k]?=some x):=hx
         clear hx hdr hP hA hF hO hP2 hm hrun hP3 hF3 hA3 hL3 hm' far XC hnbe hnk hnc hcn2 g2 hl' ho hshp hfin4 hbn hxm hlm hbs
         unfold xbox at hW2
         cases hq:Rn.exec c.f pick x s'.tick with
         | mk r s2 =>
          rw [hq] at CST hnrun hex hvl hst4
          have hst5:s2.steps≤400:=by have e:s2.steps=s'.steps+1:=hst4;omega
          clear hq hst4
          cases r with
          | val y =>
           obtain ⟨e1,e2,e3⟩:=hex
           have hlen:s2.vals.length=s'.vals.length:=hvl.elim (fun q=>q) (fun ⟨o,q⟩=>by cases q)
           have HRUN:Hid (Rn.runIns c.f pick rs (l.drop (k+1)) (k+1) (nb+(k+1)) (s2.set (nb+k) y)=R):=hnrun
           have HMID:Hid (Rn.Mid c.f b (k+1) l (s2.set (nb+k) y)):=by
            have:=e3.set HL.out hxx.out e1 e2
            rw [HNB.out] at this
            exact this
           have CS:=Lib.hid fun (w4 w6:World) (g:Gr W3 w4) (hl6:Left ch w4 O' s2 (b:Int) frm vt w6)=>HSET.out w4 w6 s2 y g hl6 hlen
           unfold vv at CS
           have hst6:(s2.set (nb+k) y).steps≤400:=hst5
           have HCV:Hid (∀ w4,Gr W3 w4→Calls Tryz.prog 131 #[.pointer (some ⟨c.Bs,0,none⟩),.agg #[.int .i64 x.op,.int .i64 x.width,.int .i64 x.flags,.slice Aa x.args.length ca,.int .u32 x.imm,.slice At x.to.length ct]] w4 fun e w'=>e=.returned (.iface 37 (.agg #[.bool y.p,.int .i64 y.s,.int .u32 y.n]))∧Left ch w4 O' s2 (b:Int) frm vt w'):=CST.out
           clear e1 e2 e3 hlen hnrun hvl CST
           go_wp2
           go_quiet ((fail))
           go_wp2_with (first
             | (go_at_call 131;(with_reducible refine (HCV.out _ ((Gr.refl _).drewN _)).mono ?_);rintro e w5 ⟨rfl,hl5⟩;have HL5:=Lib.hid hl5;clear hl5)
             | (go_at_call 130;(with_reducible refine (CS.out _ _ ((Gr.refl _).drewN _) (HL5.out.gr ((Gr.refl _).alloc _))).mono ?_);rintro e w6 ⟨rfl,hl6⟩;have HL6:=Lib.hid hl6;clear hl6))
           refine ⟨⟨k+1,_,by omega,by go_num,hst6,HL6,HMID,by (show _=_);rw [HNB.out];exact HRUN.out⟩,by simp [intOf];omega⟩
          | on =>
           obtain ⟨e1,e3⟩:=hex
           have HRUN:Hid (Rn.runIns c.f pick rs (l.drop (k+1)) (k+1) (nb+(k+1)) s2=R):=hnrun
           have HMID:Hid (Rn.Mid c.f b (k+1) l s2):=e3.skip hxx.out e1
           have HCV:Hid (∀ w4,Gr W3 w4→Calls Tryz.prog 131 #[.pointer (some ⟨c.Bs,0,none⟩),.agg #[.int .i64 x.op,.int .i64 x.width,.int .i64 x.flags,.slice Aa x.args.length ca,.int .u32 x.imm,.slice At x.to.length ct]] w4 fun e w'=>e=.returned (.iface 218 (.agg #[]))∧Left ch w4 O' s2 (b:Int) frm vt w'):=CST.out
           clear e1 e3 hnrun hvl CST
           go_wp2
           go_quiet ((fail))
           go_wp2_with (go_at_call 131;(with_reducible refine (HCV.out _ ((Gr.refl _).drewN _)).mono ?_);rintro e w5 ⟨rfl,hl5⟩;have HL5:=Lib.hid (HUP2.out _ _ _ ((Gr.refl _).drewN _) hl5);clear hl5)
           refine ⟨⟨k+1,_,by omega,by go_num,hst5,HL5,HMID,by (show _=_);rw [HNB.out];exact HRUN.out⟩,by simp [intOf];omega⟩
          | go t =>
           have HRE:Hid (R=(.run t,s2)):=hnrun.symm
           have HCV:Hid (∀ w4,Gr W3 w4→Calls Tryz.prog 131 #[.pointer (some ⟨c.Bs,0,none⟩),.agg #[.int .i64 x.op,.int .i64 x.width,.int .i64 x.flags,.slice Aa x.args.length ca,.int .u32 x.imm,.slice At x.to.length ct]] w4 fun e w'=>e=.returned (.iface 174 (.agg #[.int .i64 t]))∧Left ch w4 O' s2 (b:Int) frm vt w'):=CST.out
           clear hnrun hvl CST hex
           go_wp2
           go_quiet ((fail))
           go_wp2_with (go_at_call 131;(with_reducible refine (HCV.out _ ((Gr.refl _).drewN _)).mono ?_);rintro e w5 ⟨rfl,hl5⟩;have HL5:=Lib.hid (HUP2.out _ _ _ ((Gr.refl _).drewN _) hl5);clear hl5)
           go_ret2
           unfold ThruP
           rw [HRE.out]
           exact ⟨HUP.out _ _ (HL5.out.gr ((Gr.refl _).alloc _)),rfl⟩
          | fin o =>
           have HRE:Hid (R=(.over o,s2)):=hnrun.symm
           obtain ⟨A,n,cp,hM⟩:∃ A n cp,(if o.kind=0 then c.mv else Value.slice none 0 0)=.slice A n cp:=by
            split
            ·exact ⟨_,_,_,rfl⟩
            ·exact ⟨_,_,_,rfl⟩
           have HM:=Lib.hid hM
           have HCV:Hid (∀ w4,Gr W3 w4→Calls Tryz.prog 131 #[.pointer (some ⟨c.Bs,0,none⟩),.agg #[.int .i64 x.op,.int .i64 x.width,.int .i64 x.flags,.slice Aa x.args.length ca,.int .u32 x.imm,.slice At x.to.length ct]] w4 fun e w'=>e=.returned (.iface 176 (.agg #[.int .i64 o.kind,.bool o.ret.p,.int .i64 o.ret.s,.int .u32 o.ret.n,.slice A n cp]))∧Left ch w4 O' s2 (b:Int) frm vt w'):=by
            have:=CST.out
            unfold StepP resI at this
            simp only [hM] at this
            exact this
           clear hnrun hvl CST hex hM
           go_wp2
           go_quiet ((fail))
           go_wp2_with (go_at_call 131;(with_reducible refine (HCV.out _ ((Gr.refl _).drewN _)).mono ?_);rintro e w5 ⟨rfl,hl5⟩;have HL5:=Lib.hid (HUP2.out _ _ _ ((Gr.refl _).drewN _) hl5);clear hl5)
           go_ret2
           unfold ThruP
           rw [HRE.out]
           refine ⟨HUP.out _ _ (HL5.out.gr ((Gr.refl _).alloc _)),_,176,rfl,?_⟩
           unfold outRow
           rw [HM.out]
           exact heap_alloc_new _ _
      ·obtain rfl:k=l.length:=by omega
       have HRE:Hid (R=(.over Rn.undefd,s')):=by (show _=_);rw [← hrun.out,List.drop_eq_nil_of_le (Nat.le_refl l.length)];rfl
       have HL2:=Lib.hid fun (w9:World) (g:Gr wr w9)=>HUP.out _ _ (hl'.out.gr g)
       clear hm hrun hl'
       go_wp2
       go_ret2
       unfold ThruP
       rw [HRE.out]
       exact ⟨HL2.out _ ((Gr.refl _).alloc _),_,_,rfl,heap_alloc_new _ _⟩
end Go.Proofs.YthfhamagopbgcaaGreat

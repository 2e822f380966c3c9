/- The program's run: one instruction: the front. -/
import Derived.Test.YthfhamagopbgcaaGreatG38
import Derived.Test.YthfhamagopbgcaaGreatG32
import Derived.Test.YthfhamagopbgcaaGreatG34
namespace Go.Proofs.YthfhamagopbgcaaGreat
set_option linter.unusedSimpArgs false
set_option linter.unusedVariables false
open Go.RowKit

def RowV (bl:Nat) (l:List Rn.V) (w:World):Prop:=w.heap[bl]?=some (.cells (encVs l).toArray 37 (0,0))
theorem RowV.cells {bl:Nat} {l:List Rn.V} {w:World} (h:RowV bl l w) {k:Nat} {v:Rn.V} (hv:l[k]?=some v) :
  w.cell? ⟨bl,k * 3,none⟩=some (.bool v.p)∧w.cell? ⟨bl,k * 3+1,none⟩=some (.int .i64 v.s)∧w.cell? ⟨bl,k * 3+2,none⟩=some (.int .u32 v.n):=by
 have:=LAt.cells h hv
 rwa [Nat.mul_comm] at this
theorem RowV.free {bl:Nat} {l:List Rn.V} {w:World} (h:RowV bl l w) (i:Nat):w.frozen? ⟨bl,i,none⟩=false:=by
 unfold World.frozen?;unfold RowV at h;simp [h]
theorem RowV.set {bl:Nat} {l:List Rn.V} {w:World} (h:RowV bl l w) (k:Nat) (v:Rn.V):RowV bl (l.set k v) (((w.setCell ⟨bl,k * 3,none⟩ (.bool v.p)).setCell ⟨bl,k * 3+1,none⟩ (.int .i64 v.s)).setCell ⟨bl,k * 3+2,none⟩ (.int .u32 v.n)):=by
 have h3:=heap_setCell_at (i:=k * 3+2) (.int .u32 v.n) (heap_setCell_at (i:=k * 3+1) (.int .i64 v.s) (heap_setCell_at (i:=k * 3) (.bool v.p) h))
 rw [row_vals] at h3
 exact h3
/-- The values of the first args. -/
def argsL (s:Rn.St) (args:List Int) (k:Nat):List Rn.V:=(args.take k).map s.get++List.replicate (args.length-k) Rn.zero
theorem argsL_len (s:Rn.St) (args:List Int) (k:Nat) (h:k≤args.length):(argsL s args k).length=args.length:=by unfold argsL;simp;omega
theorem argsL_step (s:Rn.St) (args:List Int) (k:Nat) (z:Int) (h:args[k]?=some z):(argsL s args k).set k (s.get z)=argsL s args (k+1):=by
 have hk:=(List.getElem?_eq_some_iff.1 h).1
 apply List.ext_getElem?
 intro i
 have e1:((args.take k).map s.get).length=k:=by simp;omega
 have e2:((args.take (k+1)).map s.get).length=k+1:=by simp;omega
 by_cases e:k=i
 ·subst e
  rw [List.getElem?_set_self (by rw [argsL_len _ _ _ (by omega)];exact hk)]
  unfold argsL
  rw [List.getElem?_append_left (by omega),List.getElem?_map,List.getElem?_take,if_pos (by omega),h];rfl
 ·rw [List.getElem?_set_ne e]
  unfold argsL
  by_cases h1:i<k
  ·rw [List.getElem?_append_left (by omega),List.getElem?_append_left (by omega),List.getElem?_map,List.getElem?_map,List.getElem?_take,List.getElem?_take,if_pos h1,if_pos (by omega)]
  ·rw [List.getElem?_append_right (by omega),List.getElem?_append_right (by omega),e1,e2,List.getElem?_replicate,List.getElem?_replicate]
   by_cases h2:i<args.length
   ·rw [if_pos (by omega),if_pos (by omega)]
   ·rw [if_neg (by omega),if_neg (by omega)]
theorem argsL_end (s:Rn.St) (args:List Int):argsL s args args.length=args.map s.get:=by unfold argsL;simp
theorem argsL_zero (s:Rn.St) (args:List Int):argsL s args 0=List.replicate args.length Rn.zero:=by unfold argsL;simp
def anyP (s:Rn.St) (args:List Int) (k:Nat):Bool:=((args.take k).map s.get).any (·.p)
theorem anyP_step (s:Rn.St) (args:List Int) (k:Nat) (z:Int) (h:args[k]?=some z):anyP s args (k+1)=(anyP s args k || (s.get z).p):=by
 unfold anyP
 rw [List.take_add_one,h];simp
def resI (c:Cfg):Rn.Res→Value
 | .val v=>vI v
 | .on=>onI
 | .go t=>.iface 174 (.agg #[.int .i64 t])
 | .fin o=>.iface 176 (.agg #[.int .i64 o.kind,.bool o.ret.p,.int .i64 o.ret.s,.int .u32 o.ret.n,if o.kind=0 then c.mv else .slice none 0 0])
/-- What a step leaves. -/
def StepP {c:Cfg} {pick:Rn.Pick} {fin:List Int} (ch:Chooser c pick fin) (O:Nat→Prop) (w:World) (b frm:Int) (vt:Value) (r:Rn.Res × Rn.St) (e:Ending) (w':World):Prop :=
 e=.returned (resI c r.1)∧Left ch w O r.2 b frm vt w'
def optRes (s:Rn.St):Option Rn.V→Rn.Res × Rn.St
 | none=>(.fin Rn.undefd,s)
 | some v=>(.val v,s)
def optI:Option Rn.V→Value
 | none=>undI
 | some v=>vI v
theorem opt_step {c:Cfg} {pick:Rn.Pick} {fin:List Int} {ch:Chooser c pick fin} {O:Nat→Prop} {w w':World} {s:Rn.St} {b frm:Int} {vt:Value} {R:Value} (r:Option Rn.V) (e:R=optI r) (h:Left ch w O s b frm vt w'):StepP ch O w b frm vt (optRes s r) (.returned R) w':=by
 subst e
 cases r with
 | none=>exact ⟨rfl,h⟩
 | some v=>exact ⟨rfl,h⟩
set_option maxRecDepth 100000 in
set_option maxHeartbeats 4000000 in
theorem rstep_any {c:Cfg} {w:World} {s:Rn.St} {b frm:Int} {vt:Value} (h:PS c w s b frm vt) (hf:VFn c.f) (x:Ins) (va vt':Value) (hx:IntsAt c.n₀ w va x.args) (ht:IntsAt c.n₀ w vt' x.to) (hl:x.args.length≤40) (hin:∀ v ∈ x.args,0≤v∧v<s.vals.length) (hn:s.vals.length≤1000)
  (hi:Rn.Inv c.f s) {pick:Rn.Pick} {fin:List Int} (ch:Chooser c pick fin) {O:Nat→Prop} (hA:ch.At w s.widths O) (hfin:(Rn.exec c.f pick x s).2.widths <+: fin) (hs:Rn.Shp c.f x) (ho:x.op≠28) (hv:∀ v ∈ x.args,0<Ref.kind c.f v→Rn.VOK c.f (Ref.kind c.f v) (s.get v)) :
  Calls Tryz.prog 131 #[.pointer (some ⟨c.Bs,0,none⟩),insVal x va vt'] w (StepP ch O w b frm vt (Rn.exec c.f pick x s)):=by
 obtain ⟨W,hW⟩:∃ W,xbox w x va vt'=W:=⟨_,rfl⟩
 have hB0:Gr w W:=by rw [← hW];exact (Gr.refl w).alloc _
 have g0:Gr (xbox w x va vt') W:=by rw [hW];exact Gr.refl _
 have hMV:=make_values W x.args.length (by omega)
 have hWs:W.heap.size=w.heap.size+1:=by rw [← hW];unfold xbox;simp
 obtain ⟨W1,hW1⟩:∃ W1,W.alloc (.cells (encVs (List.replicate x.args.length Rn.zero)).toArray 37)=W1:=⟨_,rfl⟩
 rw [hW1] at hMV
 have hB1:Gr W W1:=by rw [← hW1];exact (Gr.refl W).alloc _
 have hrow:RowV (w.heap.size+1) (argsL s x.args 0) W1:=by
  rw [argsL_zero];unfold RowV;rw [← hWs,← hW1];exact heap_alloc_new W _
 have HROW:=Lib.hid hrow
 have X0:=xbox_cells g0
 have hxx:=hx
 obtain ⟨Aa,ca,hva,a1,a2,a3⟩:=hx
 subst hva
 have HGR:Hid (∀ wr,FrS (·=w.heap.size+1) W1 wr→Gr w wr∧Gr W wr):=fun wr hfr=>by
  have hB:Below (w.heap.size+1) W1 wr:=hfr.below (fun k hk=>by omega) (by have:=hB1.size;omega)
  have g:Gr W wr:=Gr.below hB1 hB (by omega)
  exact ⟨hB0.trans g,g⟩
 have HARG:Hid (∀ (wr:World) (k:Nat) (z:Int),Gr w wr→x.args[k]?=some z→∃ ba oa,Aa=some ⟨ba,oa,none⟩∧wr.cell? ⟨ba,oa+k,none⟩=some (.int .i64 z)):=fun wr k z g hz=>by
  obtain ⟨ba,oa,e,hba,a4⟩:=a3 (by have:=(List.getElem?_eq_some_iff.1 hz).1;omega)
  exact ⟨ba,oa,e,(g.cell _ _ (by have:=h.n₀;omega)).trans (a4 k z hz)⟩
 have HVAL:Hid (∀ (wr:World) (z:Int),Gr w wr→z ∈ x.args→∃ zn:Nat,z=(zn:Int)∧zn<s.vals.length∧wr.cell? ⟨c.Bv,zn * 3,none⟩=some (.bool (s.get z).p)∧wr.cell? ⟨c.Bv,zn * 3+1,none⟩=some (.int .i64 (s.get z).s)∧wr.cell? ⟨c.Bv,zn * 3+2,none⟩=some (.int .u32 (s.get z).n)∧wr.cell? ⟨c.Bs,5,none⟩=some (.slice (some ⟨c.Bv,0,none⟩) s.vals.length s.vals.length)):=fun wr z g hz=>by
  obtain ⟨z0,z1⟩:=hin z hz
  obtain ⟨zn,rfl⟩:=Int.eq_ofNat_of_zero_le z0
  have hzn:zn<s.vals.length:=by omega
  have hp:=h.gr g
  have e:s.vals[zn]?=some (s.get (zn:Int)):=by
   unfold Rn.St.get
   rw [Int.toNat_natCast,List.getD_eq_getElem?_getD,List.getElem?_eq_getElem hzn];rfl
  obtain ⟨q0,q1,q2⟩:=RowV.cells hp.vals e
  exact ⟨zn,rfl,hzn,q0,q1,q2,hp.cell 5⟩
 have k3:W.cell? ⟨w.heap.size,3,none⟩=some (.slice Aa x.args.length ca):=X0.2.2.2.1
 have k3':W1.cell? ⟨w.heap.size,3,none⟩=some (.slice Aa x.args.length ca):=(hB1.cell _ _ (by omega)).trans k3
 rw [hWs] at hMV
 have HW1:=Lib.hid hW1
 have HH:=Lib.hid h
 have HA:=Lib.hid hA
 have HFIN:=Lib.hid hfin
 clear hA hfin
 have HB0:=Lib.hid hB0
 have HG0:=Lib.hid g0
 unfold xbox at hW
 unfold insVal
 have HX0:=Lib.hid hxx
 have HN0:=Lib.hid h.n₀
 clear h hxx a3 hrow X0 hB0 hB1 g0 hWs hin hW1
 go_enter Tryz.func131, Tryz.ntmps131
 go_wp2
 go_loopw [6,17] (fun s6 s17 wr=>∃ k:Nat,k≤x.args.length∧s17=.int .i64 (k:Int)∧s6=.bool (anyP s x.args k)∧Hid (RowV (w.heap.size+1) (argsL s x.args k) wr)∧Hid (FrS (·=w.heap.size+1) W1 wr)) (fun _ s17 _=>x.args.length-(intOf s17).toNat)
 case atStart=>exact ⟨0,Nat.zero_le _,rfl,rfl,HROW,FrS.refl _ _⟩
 case round =>
  obtain ⟨k,hk,rfl,rfl,hrow,hfr⟩:=hrel
  obtain ⟨g1,g2⟩:=HGR.out wr hfr.out
  by_cases hlt:k<x.args.length
  ·obtain ⟨z,hz⟩:∃ z,x.args[k]?=some z:=⟨_,List.getElem?_eq_getElem hlt⟩
   obtain ⟨ba,oa,rfl,hc⟩:=HARG.out wr k z g1 hz
   obtain ⟨zn,rfl,hzn,v0,v1,v2,cv⟩:=HVAL.out wr z g1 (List.mem_of_getElem? hz)
   obtain ⟨y,hy⟩:∃ y,(argsL s x.args k)[k]?=some y:=⟨_,List.getElem?_eq_getElem (by rw [argsL_len _ _ _ hk];exact hlt)⟩
   obtain ⟨d0,d1,d2⟩:=hrow.out.cells hy
   have f0:=hrow.out.free (k * 3)
   have f1:=hrow.out.free (k * 3+1)
   have f2:=hrow.out.free (k * 3+2)
   have HNX:Hid (RowV (w.heap.size+1) (argsL s x.args (k+1)) (((wr.setCell ⟨w.heap.size+1,k * 3,none⟩ (.bool (s.get zn).p)).setCell ⟨w.heap.size+1,k * 3+1,none⟩ (.int .i64 (s.get zn).s)).setCell ⟨w.heap.size+1,k * 3+2,none⟩ (.int .u32 (s.get zn).n))):=by
    show RowV _ _ _
    rw [← argsL_step s x.args k zn hz]
    exact hrow.out.set k _
   have HNF:=Lib.hid (((hfr.out.setCell (p:=⟨w.heap.size+1,k * 3,none⟩) rfl (.bool (s.get zn).p)).setCell (p:=⟨w.heap.size+1,k * 3+1,none⟩) rfl (.int .i64 (s.get zn).s)).setCell (p:=⟨w.heap.size+1,k * 3+2,none⟩) rfl (.int .u32 (s.get zn).n))
   have HAP:=Lib.hid (anyP_step s x.args k zn hz)
   obtain ⟨q,hq⟩:∃ q,s.get (zn:Int)=q:=⟨_,rfl⟩
   rw [hq] at v0 v1 v2 HNX HNF HAP
   obtain ⟨ap,hap⟩:∃ ap,anyP s x.args k=ap:=⟨_,rfl⟩
   rw [hap] at HAP ⊢
   clear hz hy hq hap g1 g2
   cases ap
   all_goals
    go_wp2
    go_roundw
    case rel=>exact ⟨k+1,by omega,by go_num,by rw [HAP.out];rfl,HNX,HNF⟩
    case measure=>simp [intOf];omega
  ·obtain rfl:k=x.args.length:=by omega
   have hP:=HH.out.gr g1
   obtain ⟨q0,q1,q2,q3,q4,q5⟩:=xbox_cells (HG0.out.trans g2)
   rw [argsL_end] at hrow
   have HAN:Hid (anyP s x.args x.args.length=(x.args.map s.get).any (·.p)):=by show _=_;unfold anyP;rw [List.take_length]
   obtain ⟨sm,hsm⟩:∃ sm,anyP s x.args x.args.length=sm:=⟨_,rfl⟩
   rw [hsm] at HAN ⊢
   have HP:=Lib.hid hP
   have G1:=Lib.hid g1
   have hPS:=hP
   have HTO:=Lib.hid (ht.below (Below.mono g1 HN0.out))
   have hxr:IntsAt c.n₀ wr (.slice Aa x.args.length ca) x.args:=HX0.out.below (Below.mono g1 HN0.out)
   have HEND:Hid (∀ w',Gr wr w'→Left ch w O s b frm vt w'):=fun w' g=>Left.of_gr HA.out HH.out (g1.trans g)
   clear hsm hP HVAL HARG HROW hfr HGR k3 k3' hMV HW1 hW
   cases hs with
   | const o ha hw him =>
    have hlen:x.args.length=0:=by rw [ha];rfl
    have HR:Hid (Rn.exec c.f pick x s=(.val (Rn.word x.imm),s)):=by show _=_;simp [Rn.exec,o,ha,Rn.plain]
    have hsm0:sm=false:=by have:=HAN.out;rw [ha] at this;simpa using this
    subst hsm0
    rw [o] at q0
    have CP:=Lib.hid (plain_const (w:=wr) x (.slice Aa x.args.length ca) vt' (.slice (some ⟨w.heap.size+1,0,none⟩) x.args.length x.args.length) o (.pointer (some ⟨c.Bs,0,none⟩)))
    unfold insVal at CP
    rw [o,hlen] at CP
    clear ha hw
    go_wp2_with (go_at_call 164;(with_reducible refine CP.out.mono ?_);rintro e w3 ⟨rfl,g3⟩)
    go_ret
    unfold StepP
    rw [HR.out]
    exact ⟨rfl,HEND.out _ g3⟩
   | addr o ha hw him =>
    have hlen:x.args.length=0:=by rw [ha];rfl
    have HR:Hid (Rn.exec c.f pick x s=(.val ⟨false,x.imm+1,0⟩,s)):=by show _=_;simp [Rn.exec,o,ha,Rn.plain]
    have hsm0:sm=false:=by have:=HAN.out;rw [ha] at this;simpa using this
    subst hsm0
    have hsl:x.imm≤1000000:=by have:=hf.val.size;omega
    rw [o] at q0
    have CP:=Lib.hid (plain_addr (w:=wr) x (.slice Aa x.args.length ca) vt' (.slice (some ⟨w.heap.size+1,0,none⟩) x.args.length x.args.length) o (.pointer (some ⟨c.Bs,0,none⟩)) him.1 hsl)
    unfold insVal at CP
    rw [o,hlen] at CP
    clear ha hw
    go_wp2_with (go_at_call 164;(with_reducible refine CP.out.mono ?_);rintro e w3 ⟨rfl,g3⟩)
    go_ret
    unfold StepP
    rw [HR.out]
    exact ⟨rfl,HEND.out _ g3⟩
   | poison o ha hw =>
    have hlen:x.args.length=0:=by rw [ha];rfl
    have HR:Hid (Rn.exec c.f pick x s=(.val Rn.poison,s)):=by show _=_;simp [Rn.exec,o,ha]
    have hsm0:sm=false:=by have:=HAN.out;rw [ha] at this;simpa using this
    subst hsm0
    rw [o] at q0
    clear ha
    go_wp2_with (go_at_call 162;(with_reducible refine (rpoison_any _).mono ?_);rintro e w3 ⟨rfl,g3⟩)
    go_ret
    unfold StepP
    rw [HR.out]
    exact ⟨rfl,HEND.out _ g3⟩
   | cmp o a d ha kd hk hw him =>
    have hlen:x.args.length=2:=by rw [ha];rfl
    cases sm with
    | true =>
     have HR:Hid (Rn.exec c.f pick x s=(.val Rn.poison,s)):=by
      show _=_
      have e:=HAN.out
      unfold Rn.exec
      dsimp only
      repeat rw [if_neg (by omega)]
      rw [if_pos (.inr e.symm)]
     rw [o] at q0
     clear ha
     go_wp2_with (go_at_call 162;(with_reducible refine (rpoison_any _).mono ?_);rintro e w3 ⟨rfl,g3⟩)
     go_ret
     unfold StepP
     rw [HR.out]
     exact ⟨rfl,HEND.out _ g3⟩
    | false =>
     have hpp:(s.get a).p=false∧(s.get d).p=false:=by have:=HAN.out;rw [ha] at this;simpa using this.symm
     have HR:Hid (Rn.exec c.f pick x s=(.val (Rn.truth (Wd.cmp x.imm (Ref.kind c.f a) (s.get a).n (s.get d).n)),s)):=by show _=_;simp [Rn.exec,o,ha,Rn.plain,hpp]
     have e1:=hv a (by simp [ha]) (by have:=hk.1;omega)
     have e2:=hv d (by simp [ha]) (by rw [kd];have:=hk.1;omega)
     rw [kd] at e2
     rw [o] at q0
     have CP:=Lib.hid (plain_cmp hPS hf x (.slice Aa x.args.length ca) vt' hxr (.slice (some ⟨w.heap.size+1,0,none⟩) x.args.length x.args.length) (s.get a) (s.get d) ⟨_,by rw [ha];rfl,by rw [ha] at hrow;exact hrow.out⟩ o a d ha hk him (e1.num hk).2 (e2.num hk).2)
     unfold insVal at CP
     rw [o,hlen] at CP
     clear ha hw
     go_wp2_with (go_at_call 164;(with_reducible refine CP.out.mono ?_);rintro e w3 ⟨rfl,g3⟩)
     go_ret
     unfold StepP
     rw [HR.out]
     exact ⟨rfl,HEND.out _ g3⟩
   | ext o a ha hk hw hd =>
    have hlen:x.args.length=1:=by rw [ha];rfl
    have e1:=hv a (by simp [ha]) (by have:=hk.1;omega)
    cases sm with
    | true =>
     have HR:Hid (Rn.exec c.f pick x s=(.val Rn.poison,s)):=by
      show _=_
      have e:=HAN.out
      unfold Rn.exec
      dsimp only
      repeat rw [if_neg (by omega)]
      rw [if_pos (.inr e.symm)]
     clear ha
     rcases o with o | o | o
     all_goals
      rw [o] at q0
      go_wp2_with (go_at_call 162;(with_reducible refine (rpoison_any _).mono ?_);rintro e w3 ⟨rfl,g3⟩)
      go_ret
      unfold StepP
      rw [HR.out]
      exact ⟨rfl,HEND.out _ g3⟩
    | false =>
     have hpp:(s.get a).p=false:=by have:=HAN.out;rw [ha] at this;simpa using this.symm
     rcases o with o | o | o
     ·have HR:Hid (Rn.exec c.f pick x s=(.val (Rn.word (Wd.ext 16 (Ref.kind c.f a) x.width (s.get a).n)),s)):=by show _=_;simp [Rn.exec,o,ha,Rn.plain,hpp]
      rw [o] at q0
      have CP:=Lib.hid (plain_ext16 hPS hf x (.slice Aa x.args.length ca) vt' hxr (.slice (some ⟨w.heap.size+1,0,none⟩) x.args.length x.args.length) (s.get a) ⟨_,by rw [ha];rfl,by rw [ha] at hrow;exact hrow.out⟩ o a ha hk hw (by rwa [if_neg (by omega)] at hd) (e1.num hk).2)
      unfold insVal at CP
      rw [o,hlen] at CP
      clear ha hw
      go_wp2_with (go_at_call 164;(with_reducible refine CP.out.mono ?_);rintro e w3 ⟨rfl,g3⟩)
      go_ret
      unfold StepP
      rw [HR.out]
      exact ⟨rfl,HEND.out _ g3⟩
     ·have HR:Hid (Rn.exec c.f pick x s=(.val (Rn.word (Wd.ext 17 (Ref.kind c.f a) x.width (s.get a).n)),s)):=by show _=_;simp [Rn.exec,o,ha,Rn.plain,hpp]
      rw [o] at q0
      have CP:=Lib.hid (plain_ext17 hPS hf x (.slice Aa x.args.length ca) vt' hxr (.slice (some ⟨w.heap.size+1,0,none⟩) x.args.length x.args.length) (s.get a) ⟨_,by rw [ha];rfl,by rw [ha] at hrow;exact hrow.out⟩ o a ha hk hw (by rwa [if_neg (by omega)] at hd) (e1.num hk).2)
      unfold insVal at CP
      rw [o,hlen] at CP
      clear ha hw
      go_wp2_with (go_at_call 164;(with_reducible refine CP.out.mono ?_);rintro e w3 ⟨rfl,g3⟩)
      go_ret
      unfold StepP
      rw [HR.out]
      exact ⟨rfl,HEND.out _ g3⟩
     ·have HR:Hid (Rn.exec c.f pick x s=(.val (Rn.word (Wd.ext 18 (Ref.kind c.f a) x.width (s.get a).n)),s)):=by show _=_;simp [Rn.exec,o,ha,Rn.plain,hpp]
      rw [o] at q0
      have CP:=Lib.hid (plain_ext18 hPS hf x (.slice Aa x.args.length ca) vt' hxr (.slice (some ⟨w.heap.size+1,0,none⟩) x.args.length x.args.length) (s.get a) ⟨_,by rw [ha];rfl,by rw [ha] at hrow;exact hrow.out⟩ o a ha hk hw (by rwa [if_pos o] at hd) (e1.num hk).2)
      unfold insVal at CP
      rw [o,hlen] at CP
      clear ha hw
      go_wp2_with (go_at_call 164;(with_reducible refine CP.out.mono ?_);rintro e w3 ⟨rfl,g3⟩)
      go_ret
      unfold StepP
      rw [HR.out]
      exact ⟨rfl,HEND.out _ g3⟩
   | lanes o a d ha ka kd hw i1 i2 i3 =>
    have hlen:x.args.length=2:=by rw [ha];rfl
    have e1:=hv a (by simp [ha]) (by rw [ka];have:=hw.1;omega)
    have e2:=hv d (by simp [ha]) (by rw [kd];have:=hw.1;omega)
    rw [ka] at e1
    rw [kd] at e2
    cases sm with
    | true =>
     have HR:Hid (Rn.exec c.f pick x s=(.val Rn.poison,s)):=by
      show _=_
      have e:=HAN.out
      unfold Rn.exec
      dsimp only
      repeat rw [if_neg (by omega)]
      rw [if_pos (.inr e.symm)]
     clear ha
     rcases o with o | o
     all_goals
      rw [o] at q0
      go_wp2_with (go_at_call 162;(with_reducible refine (rpoison_any _).mono ?_);rintro e w3 ⟨rfl,g3⟩)
      go_ret
      unfold StepP
      rw [HR.out]
      exact ⟨rfl,HEND.out _ g3⟩
    | false =>
     have hpp:(s.get a).p=false∧(s.get d).p=false:=by have:=HAN.out;rw [ha] at this;simpa using this.symm
     rcases o with o | o
     ·have HR:Hid (Rn.exec c.f pick x s=(.val (Rn.word (Wd.lanes 19 x.imm (x.width / x.imm).toNat (s.get a).n (s.get d).n)),s)):=by show _=_;simp [Rn.exec,o,ha,Rn.plain,hpp]
      rw [o] at q0
      have CP:=Lib.hid (plain_lanes19 hPS hf x (.slice Aa x.args.length ca) vt' hxr (.slice (some ⟨w.heap.size+1,0,none⟩) x.args.length x.args.length) (s.get a) (s.get d) ⟨_,by rw [ha];rfl,by rw [ha] at hrow;exact hrow.out⟩ o a d ha hw (e1.num hw).2 (e2.num hw).2 i1 i2 i3)
      unfold insVal at CP
      rw [o,hlen] at CP
      clear ha hw
      go_wp2_with (go_at_call 164;(with_reducible refine CP.out.mono ?_);rintro e w3 ⟨rfl,g3⟩)
      go_ret
      unfold StepP
      rw [HR.out]
      exact ⟨rfl,HEND.out _ g3⟩
     ·have HR:Hid (Rn.exec c.f pick x s=(.val (Rn.word (Wd.lanes 20 x.imm (x.width / x.imm).toNat (s.get a).n (s.get d).n)),s)):=by show _=_;simp [Rn.exec,o,ha,Rn.plain,hpp]
      rw [o] at q0
      have CP:=Lib.hid (plain_lanes20 hPS hf x (.slice Aa x.args.length ca) vt' hxr (.slice (some ⟨w.heap.size+1,0,none⟩) x.args.length x.args.length) (s.get a) (s.get d) ⟨_,by rw [ha];rfl,by rw [ha] at hrow;exact hrow.out⟩ o a d ha hw (e1.num hw).2 (e2.num hw).2 i1 i2 i3)
      unfold insVal at CP
      rw [o,hlen] at CP
      clear ha hw
      go_wp2_with (go_at_call 164;(with_reducible refine CP.out.mono ?_);rintro e w3 ⟨rfl,g3⟩)
      go_ret
      unfold StepP
      rw [HR.out]
      exact ⟨rfl,HEND.out _ g3⟩
   | gep o a d ha ka kd hw hfl =>
    have hlen:x.args.length=2:=by rw [ha];rfl
    cases sm with
    | true =>
     have HR:Hid (Rn.exec c.f pick x s=(.val Rn.poison,s)):=by
      show _=_
      have e:=HAN.out
      unfold Rn.exec
      dsimp only
      repeat rw [if_neg (by omega)]
      rw [if_pos (.inr e.symm)]
     rw [o] at q0
     clear ha
     go_wp2_with (go_at_call 162;(with_reducible refine (rpoison_any _).mono ?_);rintro e w3 ⟨rfl,g3⟩)
     go_ret
     unfold StepP
     rw [HR.out]
     exact ⟨rfl,HEND.out _ g3⟩
    | false =>
     have hpp:(s.get a).p=false∧(s.get d).p=false:=by have:=HAN.out;rw [ha] at this;simpa using this.symm
     have HR:Hid (Rn.exec c.f pick x s=(.val (Rn.gep c.f.slots x.flags (Ref.kind c.f d) (s.get a) (s.get d)),s)):=by show _=_;simp [Rn.exec,o,ha,Rn.plain,hpp]
     have e1:=hv a (by simp [ha]) (by omega)
     have e2:=hv d (by simp [ha]) (by have:=kd.1;omega)
     rw [ka] at e1
     rw [o] at q0
     have CP:=Lib.hid (plain_gep hPS hf x (.slice Aa x.args.length ca) vt' hxr (.slice (some ⟨w.heap.size+1,0,none⟩) x.args.length x.args.length) (s.get a) (s.get d) ⟨_,by rw [ha];rfl,by rw [ha] at hrow;exact hrow.out⟩ o a d ha hfl kd e1 hpp.1 (e2.num kd).2)
     unfold insVal at CP
     rw [o,hlen] at CP
     clear ha hw
     go_wp2_with (go_at_call 164;(with_reducible refine CP.out.mono ?_);rintro e w3 ⟨rfl,g3⟩)
     go_ret
     unfold StepP
     rw [HR.out]
     exact ⟨rfl,HEND.out _ g3⟩
   | phi o=>exact absurd o ho
   | arith o a d ha ka kd hw hfl =>
    have hlen:x.args.length=2:=by rw [ha];rfl
    have e1:=hv a (by simp [ha]) (by rw [ka];have:=hw.1;omega)
    have e2:=hv d (by simp [ha]) (by rw [kd];have:=hw.1;omega)
    rw [ka] at e1
    rw [kd] at e2
    have HR:Hid (Rn.exec c.f pick x s=optRes s (Rn.arith x.op x.flags x.width (s.get a) (s.get d))):=by
     show _=_
     unfold Rn.exec
     dsimp only
     repeat rw [if_neg (by omega)]
     rw [if_pos o,ha]
     change (match Rn.arith x.op x.flags x.width (s.get a) (s.get d) with | none=>(Rn.Res.fin Rn.undefd,s) | some v=>(Rn.Res.val v,s))=_
     cases Rn.arith x.op x.flags x.width (s.get a) (s.get d) <;> rfl
    have CA:=Lib.hid fun w1=>rarith_any x (.slice Aa x.args.length ca) vt' (s.get a) (s.get d) w1 o hw hfl (e1.num hw).2 (e2.num hw).2
    have HI:Hid (arithI x.op x.flags x.width (s.get a) (s.get d)=optI (Rn.arith x.op x.flags x.width (s.get a) (s.get d))):=by show _=_;unfold arithI;cases Rn.arith x.op x.flags x.width (s.get a) (s.get d) <;> rfl
    unfold insVal vv at CA
    rw [hlen] at CA
    rw [ha] at hrow
    have hrow2:Hid (RowV (w.heap.size+1) [s.get a,s.get d] wr):=hrow
    obtain ⟨r0,r1,r2⟩:=hrow2.out.cells (k:=0) rfl
    obtain ⟨r3,r4,r5⟩:=hrow2.out.cells (k:=1) rfl
    have on:=Lib.hid o
    obtain ⟨o1,o2⟩:=o
    have n29:(x.op == 29)=false:=by simp;omega
    have n30:(x.op == 30)=false:=by simp;omega
    have n31:(x.op == 31)=false:=by simp;omega
    have n32:(x.op == 32)=false:=by simp;omega
    have n26:(x.op == 26)=false:=by simp;omega
    have n27:(x.op == 27)=false:=by simp;omega
    have n21:(x.op == 21)=false:=by simp;omega
    have n23:(x.op == 23)=false:=by simp;omega
    have n15:(x.op == 15)=false:=by simp;omega
    have HQ:Hid (∀ w1,Gr wr w1→(w1.cell? ⟨w.heap.size,0,none⟩=some (.int .i64 x.op)∧w1.cell? ⟨w.heap.size,1,none⟩=some (.int .i64 x.width)∧w1.cell? ⟨w.heap.size,2,none⟩=some (.int .i64 x.flags))):=fun w1 g=>⟨(xbox_cells ((HG0.out.trans g2).trans g)).1,(xbox_cells ((HG0.out.trans g2).trans g)).2.1,(xbox_cells ((HG0.out.trans g2).trans g)).2.2.1⟩
    clear ha ka kd
    go_wp2
    go_region_with (go_at_call 163;(with_reducible refine (CA.out _).mono ?_);rintro e w3 ⟨rfl,g3⟩)
    all_goals go_wp2
    all_goals go_ret
    all_goals
     rw [HR.out]
     refine opt_step _ HI.out (HEND.out _ (by repeat (first | with_reducible exact Gr.refl _ | with_reducible exact g3 | with_reducible exact ((Gr.refl _).drew).trans g3 | with_reducible refine Gr.drew ?_ | with_reducible refine Gr.drewN ?_ _)))
   | jump o ha t ht' hw =>
    have hlen:x.args.length=0:=by rw [ha];rfl
    have HR:Hid (Rn.exec c.f pick x s=(.go t,s)):=by show _=_;simp [Rn.exec,o,ha,ht']
    have HTT:=HTO.out
    rw [ht'] at HTT
    obtain ⟨At,ct,hvt,t1,t2,t3⟩:=HTT
    obtain ⟨bt,ot,rfl,-,t4⟩:=t3 (by simp)
    have c0:wr.cell? ⟨bt,ot,none⟩=some (.int .i64 t):=t4 0 t rfl
    rw [hvt] at q5
    rw [o] at q0
    clear ha ht' t3 t4
    go_wp2
    go_ret
    unfold StepP
    rw [HR.out]
    exact ⟨rfl,HEND.out _ (Gr.refl _)⟩
   | trap o ha hw =>
    have hlen:x.args.length=0:=by rw [ha];rfl
    have HR:Hid (Rn.exec c.f pick x s=(.fin Rn.undefd,s)):=by show _=_;simp [Rn.exec,o,ha]
    rw [o] at q0
    clear ha
    go_wp2_with (go_at_call 158;(with_reducible refine (undef_any _).mono ?_);rintro e w3 ⟨rfl,rfl⟩)
    go_ret
    unfold StepP
    rw [HR.out]
    exact ⟨rfl,HEND.out _ (Gr.refl _)⟩
   | load o a ha ka hw =>
    have hlen:x.args.length=1:=by rw [ha];rfl
    have e1:=hv a (by simp [ha]) (by omega)
    rw [ka] at e1
    have HR:Hid (Rn.exec c.f pick x s=optRes s (Rn.load s.mem (s.get a) (x.width / 8).toNat)):=by
     show _=_
     have q:Rn.exec c.f pick x s=match Rn.load s.mem (s.get a) (x.width / 8).toNat with | none=>(Rn.Res.fin Rn.undefd,s) | some v=>(Rn.Res.val v,s):=by
      unfold Rn.exec
      simp [o,ha]
      rfl
     rw [q]
     cases Rn.load s.mem (s.get a) (x.width / 8).toNat <;> rfl
    have hmb:=Rn.mem_bytes hw
    have CA:=Lib.hid fun (u:GrW wr)=>rload_any (hPS.gr u.gr) hf hi (s.get a) e1 (x.width / 8).toNat (by omega) (by omega)
    have HI:Hid (loadI s.mem (s.get a) (x.width / 8).toNat=optI (Rn.load s.mem (s.get a) (x.width / 8).toNat)):=by show _=_;unfold loadI;cases Rn.load s.mem (s.get a) (x.width / 8).toNat <;> rfl
    have HI2:=Lib.hid (fun w' g=>opt_step (w:=w) (w':=w') _ HI.out (HEND.out w' g))
    rw [ha] at hrow
    have hrow2:Hid (RowV (w.heap.size+1) [s.get a] wr):=hrow
    have hrw:∀ u:GrW wr,RowV (w.heap.size+1) [s.get a] u.val:=fun u=>(u.gr.heap _ (lt_of_heap hrow2.out)).trans hrow2.out
    have U0:∀ u:GrW wr,u.val.cell? ⟨w.heap.size+1,0,none⟩=some (.bool (s.get a).p):=fun u=>((hrw u).cells (k:=0) rfl).1
    have U1:∀ u:GrW wr,u.val.cell? ⟨w.heap.size+1,1,none⟩=some (.int .i64 (s.get a).s):=fun u=>((hrw u).cells (k:=0) rfl).2.1
    have U2:∀ u:GrW wr,u.val.cell? ⟨w.heap.size+1,2,none⟩=some (.int .u32 (s.get a).n):=fun u=>((hrw u).cells (k:=0) rfl).2.2
    have U3:∀ u:GrW wr,u.val.cell? ⟨w.heap.size,1,none⟩=some (.int .i64 x.width):=fun u=>(xbox_cells ((HG0.out.trans g2).trans u.gr)).2.1
    unfold vv at CA
    rw [o] at q0
    have hwr:x.width.tdiv 8=((x.width / 8).toNat:Int):=by rw [Int.tdiv_eq_ediv_of_nonneg (by have:=hmb.2.1.1;omega)];have:=hmb.2.2.1;omega
    have hwr2:x.width / 8=((x.width / 8).toNat:Int):=by have:=hmb.2.2.1;omega
    have w0:0≤x.width:=by have:=hmb.2.1.1;omega
    have w1:x.width≤32:=hmb.2.1.2
    obtain ⟨nb,hnb⟩:∃ nb,(x.width / 8).toNat=nb:=⟨_,rfl⟩
    rw [hnb] at CA HR HI HI2 hwr hwr2
    have nb4:nb≤4:=by omega
    clear ha ka hw hmb hnb hrw
    go_wp2
    refine wp_region_quietGr (by kernel_rfl) (by kernel_rfl) ?_
    repeat (go_big_quiet_step ((rename_i u;go_at_call 159;exact grW_call u (CA.out u))))
    refine wpQuiet_nil ?_
    intro w9 hw9
    obtain ⟨u9,rfl⟩:=hw9
    have g9:=u9.gr
    clear U0 U1 U2 U3
    go_wp2
    go_ret
    rw [HR.out]
    exact HI2.out _ g9
   | select o a d f ha ka kd kf hw =>
    have hlen:x.args.length=3:=by rw [ha];rfl
    have hw0:0<x.width:=hw.elim (fun q=>by have:=q.1;omega) (fun q=>by omega)
    have e1:=hv a (by simp [ha]) (by omega)
    rw [ka] at e1
    have HR:Hid (Rn.exec c.f pick x s=if (s.get a).p=true then (.val Rn.poison,s) else (.val ([s.get a,s.get d,s.get f].getD (2-(s.get a).n).toNat Rn.zero),s)):=by
     show _=_
     unfold Rn.exec
     simp [o,ha]
    obtain ⟨n1,n2⟩:=(e1.num (by unfold Wd.Wid;decide)).2
    rw [show Wd.sz 1=2 from by decide] at n2
    rw [ha] at hrow
    have hrow2:Hid (RowV (w.heap.size+1) [s.get a,s.get d,s.get f] wr):=hrow
    obtain ⟨r0,r1,r2⟩:=hrow2.out.cells (k:=0) rfl
    obtain ⟨r3,r4,r5⟩:=hrow2.out.cells (k:=1) rfl
    obtain ⟨r6,r7,r8⟩:=hrow2.out.cells (k:=2) rfl
    obtain ⟨q,hq⟩:∃ q,s.get a=q:=⟨_,rfl⟩
    obtain ⟨qd,hqd⟩:∃ q,s.get d=q:=⟨_,rfl⟩
    obtain ⟨qf,hqf⟩:∃ q,s.get f=q:=⟨_,rfl⟩
    rw [hq] at r0 r1 r2 HR n1 n2
    rw [hqd] at r3 r4 r5 HR
    rw [hqf] at r6 r7 r8 HR
    rw [o] at q0
    clear ha ka kd kf hw e1 hw0 hq hqd hqf
    obtain ⟨qp,qs,qn⟩:=q
    dsimp only at *
    cases qp with
    | true =>
     go_wp2_with (go_at_call 162;(with_reducible refine (rpoison_any _).mono ?_);rintro e w3 ⟨rfl,g3⟩)
     go_ret
     unfold StepP
     rw [HR.out]
     exact ⟨rfl,HEND.out _ g3⟩
    | false =>
     rcases (by omega:qn=0∨qn=1) with rfl | rfl
     all_goals
      go_wp2
      go_ret
      unfold StepP
      rw [HR.out]
      exact ⟨rfl,HEND.out _ (Gr.refl _)⟩
   | branch o a ha ka t u ht' hw =>
    have hlen:x.args.length=1:=by rw [ha];rfl
    have e1:=hv a (by simp [ha]) (by omega)
    rw [ka] at e1
    have HR:Hid (Rn.exec c.f pick x s=if (s.get a).p=true then (.fin Rn.undefd,s) else (.go ([t,u].getD (1-(s.get a).n).toNat 0),s)):=by
     show _=_
     unfold Rn.exec
     simp [o,ha,ht']
    have HSM:Hid (sm=(s.get a).p):=by show _=_;have:=HAN.out;rw [ha] at this;simpa using this
    obtain ⟨n1,n2⟩:=(e1.num (by unfold Wd.Wid;decide)).2
    rw [show Wd.sz 1=2 from by decide] at n2
    have HTT:=HTO.out
    rw [ht'] at HTT
    obtain ⟨At,ct,hvt,t1,t2,t3⟩:=HTT
    obtain ⟨bt,ot,rfl,-,t4⟩:=t3 (by simp)
    have c0:=t4 0 t rfl
    have c0':wr.cell? ⟨bt,ot,none⟩=some (.int .i64 t):=c0
    have c1:wr.cell? ⟨bt,ot+1,none⟩=some (.int .i64 u):=t4 1 u rfl
    rw [hvt,show [t,u].length=2 from rfl] at q5
    rw [ha] at hrow
    have hrow2:Hid (RowV (w.heap.size+1) [s.get a] wr):=hrow
    obtain ⟨r0,r1,r2⟩:=hrow2.out.cells (k:=0) rfl
    obtain ⟨q,hq⟩:∃ q,s.get a=q:=⟨_,rfl⟩
    rw [hq] at r0 r1 r2 HR n1 n2 HSM
    rw [o] at q0
    clear ha ka hw e1 hq ht' t3 t4 hvt
    obtain ⟨qp,qs,qn⟩:=q
    dsimp only at *
    obtain rfl:sm=qp:=HSM.out
    clear HSM HAN
    have s0:IntKind.u32.wrap (1-0)=1:=by decide
    have s1:IntKind.u32.wrap (1-1)=0:=by decide
    have s2:IntKind.u32.wrap 1=1:=by decide
    have s3:IntKind.u32.wrap 0=0:=by decide
    cases sm with
    | true =>
     go_wp2_with (go_at_call 158;(with_reducible refine (undef_any _).mono ?_);rintro e w3 ⟨rfl,rfl⟩)
     go_ret
     unfold StepP
     rw [HR.out]
     exact ⟨rfl,HEND.out _ (Gr.refl _)⟩
    | false =>
     rcases (by omega:qn=0∨qn=1) with rfl | rfl
     all_goals
      go_wp2
      go_quiet ((fail))
      all_goals go_wp2
      all_goals go_ret
      all_goals
       unfold StepP
       rw [HR.out]
       exact ⟨rfl,HEND.out _ ((Gr.refl _).drewN _)⟩
   | ret0 o ha hr hw =>
    have hlen:x.args.length=0:=by rw [ha];rfl
    have HR:Hid (Rn.exec c.f pick x s=(.fin ⟨0,Rn.zero,s.mem⟩,s)):=by show _=_;simp [Rn.exec,o,ha]
    have c8:wr.cell? ⟨c.Bs,8,none⟩=some (.slice c.Am c.us.length c.cm):=hPS.cell 8
    have hbs:=lt_of_heap hPS.st
    rw [o] at q0
    clear ha
    go_wp2
    go_ret
    unfold StepP
    rw [HR.out]
    exact ⟨rfl,HEND.out _ (by repeat (first | with_reducible exact Gr.refl _ | with_reducible refine Gr.alloc ?_ _ | with_reducible refine Gr.setCell ?_ (Nat.le_refl _) _))⟩
   | ret o a ha ka hr hw =>
    have hlen:x.args.length=1:=by rw [ha];rfl
    have HR:Hid (Rn.exec c.f pick x s=(.fin ⟨0,s.get a,s.mem⟩,s)):=by show _=_;simp [Rn.exec,o,ha]
    have c8:wr.cell? ⟨c.Bs,8,none⟩=some (.slice c.Am c.us.length c.cm):=hPS.cell 8
    have hbs:=lt_of_heap hPS.st
    have hbl:=lt_of_heap hrow.out
    rw [ha] at hrow
    have hrow2:Hid (RowV (w.heap.size+1) [s.get a] wr):=hrow
    obtain ⟨r0,r1,r2⟩:=hrow2.out.cells (k:=0) rfl
    rw [o] at q0
    clear ha
    go_wp2
    go_ret
    unfold StepP
    rw [HR.out]
    exact ⟨rfl,HEND.out _ (by repeat (first | with_reducible exact Gr.refl _ | with_reducible refine Gr.alloc ?_ _ | with_reducible refine Gr.setCell ?_ (Nat.le_refl _) _))⟩
   | store o a d ha ka kd hw =>
    have hlen:x.args.length=2:=by rw [ha];rfl
    have e1:=hv a (by simp [ha]) (by omega)
    have hkw:=(Rn.mem_bytes kd).2.1
    have e2:=hv d (by simp [ha]) (by have:=hkw.1;omega)
    rw [ka] at e1
    have hu:=e2.u32 (.inl hkw)
    obtain ⟨d0,d1⟩:=Rn.kind_pos (f:=c.f) (v:=d) (by have:=hkw.1;omega)
    have CK:=Lib.hid fun (w1:World) (g:Gr wr w1)=>rkind_any (hPS.gr g) hf d d0 d1
    have hmb:=Rn.mem_bytes kd
    have HR:Hid (Rn.exec c.f pick x s=match Rn.store s.mem (s.get a) (s.get d) (Ref.kind c.f d / 8).toNat with | none=>(Rn.Res.fin Rn.undefd,s) | some m=>(Rn.Res.on,{ s with mem:=m })):=by
     show _=_
     unfold Rn.exec
     simp [o,ha]
     rfl
    have CS:=Lib.hid fun (w1:World) (g:Gr wr w1)=>rstore_any (hPS.gr g) hf hi (s.get a) (s.get d) e1 (Ref.kind c.f d / 8).toNat (by omega) (by omega) hu
    have HE:Hid (∀ w1 e w',Gr wr w1→StoreP c w1 s b frm vt (s.get a) (s.get d) (Ref.kind c.f d / 8).toNat e w'→StepP ch O w b frm vt (Rn.exec c.f pick x s) e w'):=by
     intro w1 e w' g hst
     rw [HR.out]
     unfold StoreP at hst
     unfold StepP
     cases hq:Rn.store s.mem (s.get a) (s.get d) (Ref.kind c.f d / 8).toNat with
     | none =>
      rw [hq] at hst
      exact ⟨hst.1,HEND.out _ (g.trans hst.2)⟩
     | some m =>
      rw [hq] at hst
      exact ⟨hst.1,Left.of_mut HA.out hst.2.1 rfl ((FrS.of_gr (G1.out.trans g)).trans hst.2.2) (fun k hk=>HH.out.mut hk)⟩
    have hxr2:=hxr
    obtain ⟨Ax,cx,hvx,x1,x2,x3⟩:=hxr2
    injection hvx with hA hm hcx
    subst hA
    rw [ha] at x3
    obtain ⟨ba,oa,rfl,hba,x4⟩:=x3 (by simp)
    have cd1:wr.cell? ⟨ba,oa+1,none⟩=some (.int .i64 d):=x4 1 d rfl
    have hbw:ba<wr.heap.size:=by have:=hPS.n₀;omega
    rw [ha] at hrow
    have hrow2:Hid (RowV (w.heap.size+1) [s.get a,s.get d] wr):=hrow
    have hrw:∀ u:GrW wr,RowV (w.heap.size+1) [s.get a,s.get d] u.val:=fun u=>(u.gr.heap _ (lt_of_heap hrow2.out)).trans hrow2.out
    have U0:∀ u:GrW wr,u.val.cell? ⟨w.heap.size+1,0,none⟩=some (.bool (s.get a).p):=fun u=>((hrw u).cells (k:=0) rfl).1
    have U1:∀ u:GrW wr,u.val.cell? ⟨w.heap.size+1,1,none⟩=some (.int .i64 (s.get a).s):=fun u=>((hrw u).cells (k:=0) rfl).2.1
    have U2:∀ u:GrW wr,u.val.cell? ⟨w.heap.size+1,2,none⟩=some (.int .u32 (s.get a).n):=fun u=>((hrw u).cells (k:=0) rfl).2.2
    have U3:∀ u:GrW wr,u.val.cell? ⟨w.heap.size+1,3,none⟩=some (.bool (s.get d).p):=fun u=>((hrw u).cells (k:=1) rfl).1
    have U4:∀ u:GrW wr,u.val.cell? ⟨w.heap.size+1,4,none⟩=some (.int .i64 (s.get d).s):=fun u=>((hrw u).cells (k:=1) rfl).2.1
    have U5:∀ u:GrW wr,u.val.cell? ⟨w.heap.size+1,5,none⟩=some (.int .u32 (s.get d).n):=fun u=>((hrw u).cells (k:=1) rfl).2.2
    have U6:∀ u:GrW wr,u.val.cell? ⟨w.heap.size,3,none⟩=some (.slice (some ⟨ba,oa,none⟩) 2 ca):=fun u=>by have:=(xbox_cells ((HG0.out.trans g2).trans u.gr)).2.2.2.1;rw [hlen] at this;exact this
    have U7:∀ u:GrW wr,u.val.cell? ⟨ba,oa+1,none⟩=some (.int .i64 d):=fun u=>(u.gr.cell _ _ hbw).trans cd1
    unfold vv at CS
    have k1:=hmb.2.2.1
    have k2:=hmb.2.2.2
    have kw0:=hkw.1
    have kw1:=hkw.2
    obtain ⟨kd_,hkd⟩:∃ k,Ref.kind c.f d=k:=⟨_,rfl⟩
    rw [hkd] at CK CS HE k1 k2 kw0 kw1
    obtain ⟨nb,hnb⟩:∃ nb:Nat,(kd_ / 8).toNat=nb:=⟨_,rfl⟩
    rw [hnb] at CS HE
    have hq8:kd_ / 8=(nb:Int):=by omega
    have hq9:kd_.tdiv 8=(nb:Int):=by rw [Int.tdiv_eq_ediv_of_nonneg (by omega)];exact hq8
    rw [o] at q0
    have nb4:nb≤4:=by omega
    clear ha ka kd hw e1 e2 hu d0 d1 hkd hnb hmb hkw x3 x4 HR hxr hrw hba hbw
    go_wp2
    refine wp_region_tailGr 14 (by kernel_rfl) (by kernel_rfl) ?_
    simp only [List.take_succ_cons,List.take_zero,List.drop_succ_cons,List.drop_zero]
    repeat (go_big_quiet_step ((rename_i u;go_at_call 161;exact grW_call u (CK.out u.val u.gr))))
    refine wpQuiet_nil ?_
    intro w9 hw9
    obtain ⟨u9,rfl⟩:=hw9
    have G9:=Lib.hid u9.gr
    clear U0 U1 U2 U3 U4 U5 U6 U7
    go_wp2_with (go_at_call 160;(with_reducible refine (CS.out _ G9.out).mono ?_);intro e w5 hst;obtain ⟨rfl,hst2⟩:=HE.out _ _ _ G9.out hst;clear hst;have HST2:=Lib.hid hst2;clear hst2)
    go_ret
    exact ⟨rfl,HST2.out⟩
   | any o ha hw =>
    have hlen:x.args.length=0:=by rw [ha];rfl
    have HR:Hid (Rn.exec c.f pick x s=(.val (Rn.chosen pick s x.width),s.chose x.width)):=by show _=_;simp [Rn.exec,o,ha]
    have hfx:s.widths++[x.width] <+: fin:=by have:=HFIN.out;rw [HR.out] at this;exact this
    have hAw:∀ w1:World,Gr wr w1→ch.At w1 s.widths O:=fun w1 g=>ch.keep HA.out (FrS.of_gr (S:=fun _=>False) (G1.out.trans g)) (fun k hk=>hk.elim)
    have CC:=Lib.hid (fun (w1:World) (g:Gr wr w1)=>ch.call x.width (hAw w1 g) hw hfx)
    have HL:Hid (∀ (w1 w':World) (O':Nat→Prop),Gr wr w1→FrS O w1 w'→ch.At w' (s.widths++[x.width]) O'→(∀ k,O' k→O k∨w1.heap.size≤k)→Left ch w O (s.chose x.width) b frm vt w') :=
     fun w1 w' O' g hF hA' hO=>left_trans (FrS.of_gr (G1.out.trans g)) (fun k hk=>.inl hk) (Left.chosen (hAw w1 g) (HH.out.gr (G1.out.trans g)) hF hA' hO)
    have HI:=ch.inv
    have HJ:=ch.ent
    have hce:c.ch=.iface ch.ty ch.ptr:=ch.ech
    have U4:∀ u:GrW wr,u.val.cell? ⟨c.Bs,4,none⟩=some (.iface ch.ty ch.ptr):=fun u=>by have:u.val.cell? ⟨c.Bs,4,none⟩=some c.ch:=(hPS.gr u.gr).cell 4;rw [this,hce]
    have U1:∀ u:GrW wr,u.val.cell? ⟨w.heap.size,1,none⟩=some (.int .i64 x.width):=fun u=>(xbox_cells ((HG0.out.trans g2).trans u.gr)).2.1
    obtain ⟨T,hT⟩:∃ T,ch.ty=T:=⟨_,rfl⟩
    obtain ⟨p,hp⟩:∃ p,ch.ptr=p:=⟨_,rfl⟩
    obtain ⟨G,hG⟩:∃ G,ch.fnum=G:=⟨_,rfl⟩
    obtain ⟨Z,hZ⟩:∃ Z,pick s.widths.length x.width=Z:=⟨_,rfl⟩
    rw [hT,hp,hG] at HI
    rw [hp,hG] at HJ
    rw [hT,hp] at U4
    rw [hp,hG,hZ] at CC
    have HZ:Hid (Rn.chosen pick s x.width=Rn.word Z):=by show _=_;unfold Rn.chosen;rw [hZ]
    rw [o] at q0
    clear ha hw hfx hAw hce hT hp hG hZ
    go_wp2
    refine wp_region_tailGr 6 (by kernel_rfl) (by kernel_rfl) ?_
    simp only [List.take_succ_cons,List.take_zero,List.drop_succ_cons,List.drop_zero]
    repeat (go_big_quiet_step (fail))
    refine wpQuiet_nil ?_
    intro w9 hw9
    obtain ⟨u9,rfl⟩:=hw9
    have G9:=Lib.hid u9.gr
    clear U4 U1
    go_wp2_with (go_at_fn G;(with_reducible refine (CC.out _ G9.out).mono ?_);rintro e w5 ⟨rfl,hF5,O5,hA5,hO5⟩;have HX5:=Lib.hid (HL.out _ _ _ G9.out hF5 hA5 hO5);clear hF5 hA5 hO5)
    go_ret
    unfold StepP
    rw [HR.out]
    exact ⟨by show _=Ending.returned (vI (Rn.chosen pick s x.width));rw [HZ.out];rfl,HX5.out⟩
   | freeze o a ha ka hw =>
    have hlen:x.args.length=1:=by rw [ha];rfl
    have HSM:Hid (sm=(s.get a).p):=by show _=_;have:=HAN.out;rw [ha] at this;simpa using this
    cases sm with
    | true =>
     have hpp:(s.get a).p=true:=HSM.out.symm
     have HR:Hid (Rn.exec c.f pick x s=(.val (Rn.chosen pick s x.width),s.chose x.width)):=by show _=_;simp [Rn.exec,o,ha,hpp]
     have hfx:s.widths++[x.width] <+: fin:=by have:=HFIN.out;rw [HR.out] at this;exact this
     have hAw:∀ w1:World,Gr wr w1→ch.At w1 s.widths O:=fun w1 g=>ch.keep HA.out (FrS.of_gr (S:=fun _=>False) (G1.out.trans g)) (fun k hk=>hk.elim)
     have CC:=Lib.hid (fun (w1:World) (g:Gr wr w1)=>ch.call x.width (hAw w1 g) hw hfx)
     have HL:Hid (∀ (w1 w':World) (O':Nat→Prop),Gr wr w1→FrS O w1 w'→ch.At w' (s.widths++[x.width]) O'→(∀ k,O' k→O k∨w1.heap.size≤k)→Left ch w O (s.chose x.width) b frm vt w') :=
      fun w1 w' O' g hF hA' hO=>left_trans (FrS.of_gr (G1.out.trans g)) (fun k hk=>.inl hk) (Left.chosen (hAw w1 g) (HH.out.gr (G1.out.trans g)) hF hA' hO)
     have HI:=ch.inv
     have HJ:=ch.ent
     have hce:c.ch=.iface ch.ty ch.ptr:=ch.ech
     have U4:∀ u:GrW wr,u.val.cell? ⟨c.Bs,4,none⟩=some (.iface ch.ty ch.ptr):=fun u=>by have:u.val.cell? ⟨c.Bs,4,none⟩=some c.ch:=(hPS.gr u.gr).cell 4;rw [this,hce]
     have U1:∀ u:GrW wr,u.val.cell? ⟨w.heap.size,1,none⟩=some (.int .i64 x.width):=fun u=>(xbox_cells ((HG0.out.trans g2).trans u.gr)).2.1
     obtain ⟨T,hT⟩:∃ T,ch.ty=T:=⟨_,rfl⟩
     obtain ⟨p,hp⟩:∃ p,ch.ptr=p:=⟨_,rfl⟩
     obtain ⟨G,hG⟩:∃ G,ch.fnum=G:=⟨_,rfl⟩
     obtain ⟨Z,hZ⟩:∃ Z,pick s.widths.length x.width=Z:=⟨_,rfl⟩
     rw [hT,hp,hG] at HI
     rw [hp,hG] at HJ
     rw [hT,hp] at U4
     rw [hp,hG,hZ] at CC
     have HZ:Hid (Rn.chosen pick s x.width=Rn.word Z):=by show _=_;unfold Rn.chosen;rw [hZ]
     rw [o] at q0
     clear ha hw hpp ka hfx hAw hce hT hp hG hZ
     go_wp2
     refine wp_region_tailGr 6 (by kernel_rfl) (by kernel_rfl) ?_
     simp only [List.take_succ_cons,List.take_zero,List.drop_succ_cons,List.drop_zero]
     repeat (go_big_quiet_step (fail))
     refine wpQuiet_nil ?_
     intro w9 hw9
     obtain ⟨u9,rfl⟩:=hw9
     have G9:=Lib.hid u9.gr
     clear U4 U1
     go_wp2_with (go_at_fn G;(with_reducible refine (CC.out _ G9.out).mono ?_);rintro e w5 ⟨rfl,hF5,O5,hA5,hO5⟩;have HX5:=Lib.hid (HL.out _ _ _ G9.out hF5 hA5 hO5);clear hF5 hA5 hO5)
     go_ret
     unfold StepP
     rw [HR.out]
     exact ⟨by show _=Ending.returned (vI (Rn.chosen pick s x.width));rw [HZ.out];rfl,HX5.out⟩
    | false =>
     have hpp:(s.get a).p=false:=HSM.out.symm
     have HR:Hid (Rn.exec c.f pick x s=(.val (s.get a),s)):=by show _=_;simp [Rn.exec,o,ha,hpp]
     rw [ha] at hrow
     have hrow2:Hid (RowV (w.heap.size+1) [s.get a] wr):=hrow
     obtain ⟨r0,r1,r2⟩:=hrow2.out.cells (k:=0) rfl
     rw [o] at q0
     clear ha hw hpp ka HSM
     go_wp2
     go_ret
     unfold StepP
     rw [HR.out]
     exact ⟨rfl,HEND.out _ (Gr.refl _)⟩
end Go.Proofs.YthfhamagopbgcaaGreat

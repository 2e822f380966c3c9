/- Parts: Al An Ao Kn. -/
import Derived.Test.YthfhamagopbgcaaGreatG42
import Derived.Test.YthfhamagopbgcaaGreatG43
import Derived.Test.YthfhamagopbgcaaGreatG44
import Derived.Test.YthfhamagopbgcaaGreatG21
namespace Go.Proofs.YthfhamagopbgcaaGreat
set_option linter.unusedSimpArgs false
set_option linter.unusedVariables false
open Go.RowKit

theorem gr_frs {S:Nat→Prop} {w a b:World} (g:Gr w a) (h:FrS S a b) (hS:∀ k,S k→w.heap.size≤k):Gr w b :=
 ⟨h.os.trans g.os,h.tape.trans g.tape,h.output.trans g.output,Nat.le_trans g.size h.size,fun k hk=>(h.block k (by have:=g.size;omega) (fun q=>by have:=hS k q;omega)).trans (g.heap k hk)⟩
theorem U32At.below {B:Nat} {w w':World} {v:Value} {zs:List Int} (h:U32At B w v zs) (hb:Below B w w'):U32At B w' v zs :=
 SlAt.imp h fun b off hlt hR j z hz=>(hb.cell (p:=⟨b,off+j,none⟩) hlt).trans (hR j z hz)
theorem next_ws {f:Fn} {i:Rn.Inp} {p:List Int} (h:Rn.Good f i p) {k:Nat} (hk:Rn.nextK (Rn.padded p (Rn.wids f i p).length) (Rn.wids f i p) (Rn.wids f i p).length=some k) :
  Rn.Good f i (Rn.bump (Rn.padded p (Rn.wids f i p).length) k)∧(Rn.wids f i (Rn.bump (Rn.padded p (Rn.wids f i p).length) k)).take (Rn.bump (Rn.padded p (Rn.wids f i p).length) k).length=(Rn.wids f i p).take (k+1):=by
 obtain ⟨h1,t,h2⟩:=Rn.good_next h hk
 have h3:=(Rn.nextK_some _ _ _ _ hk).1
 refine ⟨h1,?_⟩
 rw [Rn.bump_len (by rw [Rn.padded_len h.1];exact h3),← h2,List.take_append_of_le_length (by rw [List.length_take];omega),List.take_take,Nat.min_self]
/-- What is true at the head of a round. -/
def RoundI (f:Fn) (i:Rn.Inp) (B Bg:Nat) (R:Option (List Rn.Out)) (n:Nat) (v:Value) (w:World):Prop :=
 ∃ (D:Nat→Prop) (vp vw:Value) (vms:List Value) (p:List Int) (outs:List Rn.Out),Rd D B Bg w v vp vw vms p ((Rn.wids f i p).take p.length) 0 outs∧Rn.Good f i p∧Rn.Asc outs∧outs.length+1≤n∧Rn.explore f i (257-n) p outs=R
/-- The end of a round. -/
theorem round_end {f:Fn} {i:Rn.Inp} {B Bg n:Nat} {R:Option (List Rn.Out)} {v vp vw:Value} {w:World} {D:Nat→Prop} {vms:List Value} {p:List Int} {outs:List Rn.Out}
  (hRA:Ref.RcAll) (hf:VFn f) (hin:Rn.validInput f i=0) (ha:∀ a ∈ i.args,0≤a) (hg:Rn.Good f i p) (ho:Rn.Asc outs) (hn:outs.length+1≤n) (hn2:n<257) (he:Rn.explore f i (257-n) p outs=R)
  (h:Rd D B Bg w v vp vw vms (Rn.padded p (Rn.wids f i p).length) (Rn.wids f i p) (Rn.wids f i p).length (Rn.insert (Rn.run f (Rn.given p) i).1 outs)) {N:Option Nat} (hN:Rn.nextK (Rn.padded p (Rn.wids f i p).length) (Rn.wids f i p) (Rn.wids f i p).length=N) :
  Calls Tryz.prog 52 #[.pointer (some ⟨Bg,0,none⟩)] w fun e w'=>e=.returned (.bool N.isSome)∧FrS (fun k=>B≤k) w w' ∧
   (N=none→∃ outs',R=some outs'∧outs'.length≤256∧Rn.Asc outs'∧OutsAt D B w' v outs' vms)∧(N.isSome=true→RoundI f i B Bg R (n+1) v w'):=by
 obtain ⟨q1,q2,q3,q4⟩:=Rn.run_ok hRA hf.val hf.im hin ha p
 have hpl:(Rn.padded p (Rn.wids f i p).length).length=(Rn.wids f i p).length:=Rn.padded_len hg.1
 have hil:=Rn.insert_len (Rn.run f (Rn.given p) i).1 outs
 have hia:=Rn.insert_asc (Rn.run f (Rn.given p) i).1 outs ho
 obtain ⟨m,hm⟩:∃ m,257-n=m+1:=⟨256-n,by omega⟩
 rw [hm] at he
 obtain ⟨e1,e2⟩:=Rn.explore_round he
 refine (exnext_any h.ex hpl.symm (by omega) q2 (Rn.good_words hg q2) (R:=N) (by rw [hpl];exact hN)).mono ?_
 rintro e w' ⟨rfl,hF,h1,h2⟩
 refine ⟨rfl,hF.mono fun k hk=>(exO_lt h.ex hk).1,fun hn0=>⟨_,e1 (by rw [hN];exact hn0),by omega,hia,h.at_.frs hF (fun k hk q=>(h.dlt k hk).2.2.1 q) (fun k hk q=>h.vo k hk q)⟩,fun hs=>?_⟩
 obtain ⟨k,rfl⟩:∃ k,N=some k:=Option.isSome_iff_exists.1 hs
 obtain ⟨vp',vw',r1,r2⟩:=h2 k rfl
 obtain ⟨s1,s2⟩:=next_ws hg hN
 refine ⟨D,vp',vw',vms,_,_,?_,s1,hia,by omega,by rw [show 257-(n+1)=m by omega];exact e2 k hN⟩
 rw [s2]
 exact h.next r1 hF r2
/-- What All hands back. -/
def AllP (f:Fn) (i:Rn.Inp) (B:Nat) (e:Ending) (w':World):Prop :=
 (Rn.validInput f i≠0∧e=.returned (.tuple #[.slice none 0 0,.int .i64 (Rn.validInput f i)])) ∨
 (Rn.validInput f i=0∧Rn.all f i=none∧e=.returned (.tuple #[.slice none 0 0,.int .i64 3])) ∨
 (Rn.validInput f i=0∧∃ outs,Rn.all f i=some outs∧outs.length≤256∧Rn.Asc outs∧∃ (v:Value) (D:Nat→Prop) (vms:List Value),e=.returned (.tuple #[v,.int .i64 0])∧OutsAt D B w' v outs vms)
set_option maxRecDepth 100000 in
set_option maxHeartbeats 4000000 in
theorem all_any {w:World} {f:Fn} {vf:Value} (hfn:FnAt w.heap.size w vf f) (hnice:Nice f) (him:Rn.Im f) {i:Rn.Inp} {va vm:Value} (ha:U32At w.heap.size w va i.args) (hm:TabAt w.heap.size w vm i.mem) (hnn:∀ a ∈ i.args,0≤a) :
  Calls Tryz.prog 20 #[vf,.agg #[va,vm]] w fun e w'=>AllP f i (w.heap.size+2) e w'∧Gr w w':=by
 obtain ⟨vp,vs,vb,rfl,hp,hs,hb⟩:=hfn
 have HFN:Hid (FnAt w.heap.size w (.agg #[vp,.int .i64 f.ret,vs,vb]) f):=⟨vp,vs,vb,rfl,hp,hs,hb⟩
 have HA:=Lib.hid ha
 have HM:=Lib.hid hm
 have HNN:=Lib.hid hnn
 obtain ⟨W,hW⟩:∃ W,(w.alloc (.cells #[vp,.int .i64 f.ret,vs,vb] 25)).alloc (.cells #[va,vm] 29)=W:=⟨_,rfl⟩
 have g0:Gr w W:=by rw [← hW];exact ((Gr.refl w).alloc _).alloc _
 have hs1:(w.alloc (.cells #[vp,.int .i64 f.ret,vs,vb] 25)).heap.size=w.heap.size+1:=by simp
 have hWs:W.heap.size=w.heap.size+2:=by rw [← hW];simp
 have hfb:W.heap[w.heap.size]?=some (.cells #[vp,.int .i64 f.ret,vs,vb] 25 (0,0)):=by
  rw [← hW]
  exact (((Gr.refl (w.alloc (.cells #[vp,.int .i64 f.ret,vs,vb] 25))).alloc _).heap _ (by simp)).trans (heap_alloc_new w _)
 have hib:W.heap[w.heap.size+1]?=some (.cells #[va,vm] 29 (0,0)):=by rw [← hW,← hs1];exact heap_alloc_new _ _
 have CV:=Lib.hid (vinput_any (w:=W) (f:=f) (vf:=.agg #[vp,.int .i64 f.ret,vs,vb]) (i:=i) (va:=va) (vm:=vm) ⟨vp,vs,vb,rfl,(hp.below g0).mono g0.size,(hs.below g0).mono g0.size,(hb.below g0).mono g0.size⟩ hnice (SlAt.mono (U32At.below ha g0) g0.size) ((hm.below g0).mono g0.size))
 have HB:Hid (∀ wr,Gr W wr→wr.heap[w.heap.size]?=some (.cells #[vp,.int .i64 f.ret,vs,vb] 25 (0,0))∧wr.heap[w.heap.size+1]?=some (.cells #[va,vm] 29 (0,0))):=fun wr g=>⟨(g.heap _ (lt_of_heap hfb)).trans hfb,(g.heap _ (lt_of_heap hib)).trans hib⟩
 have hc0:∀ wr,Gr W wr→wr.cell? ⟨w.heap.size,0,none⟩=some vp∧wr.cell? ⟨w.heap.size,1,none⟩=some (.int .i64 f.ret)∧wr.cell? ⟨w.heap.size,2,none⟩=some vs∧wr.cell? ⟨w.heap.size,3,none⟩=some vb∧wr.cell? ⟨w.heap.size+1,0,none⟩=some va∧wr.cell? ⟨w.heap.size+1,1,none⟩=some vm:=fun wr g=>by
  obtain ⟨q1,q2⟩:=HB.out wr g
  exact ⟨cell_of_row _ _ 0 _ _ _ q1,cell_of_row _ _ 1 _ _ _ q1,cell_of_row _ _ 2 _ _ _ q1,cell_of_row _ _ 3 _ _ _ q1,cell_of_row _ _ 0 _ _ _ q2,cell_of_row _ _ 1 _ _ _ q2⟩
 have HC:=Lib.hid hc0
 obtain ⟨k0,k1,k2,k3,k4,k5⟩:=hc0 W (Gr.refl _)
 have HG0:=Lib.hid g0
 have HWS:=Lib.hid hWs
 obtain ⟨Ap,cp,rfl,-⟩:=id hp
 obtain ⟨As,cs,rfl,-⟩:=id hs
 obtain ⟨Ab,cb,rfl,-⟩:=id hb
 obtain ⟨Aa,ca,rfl,-⟩:=id ha
 obtain ⟨Am,cm,rfl,-⟩:=id hm
 obtain ⟨V,hV⟩:∃ V,Rn.validInput f i=V:=⟨_,rfl⟩
 rw [hV] at CV
 have HV:=Lib.hid hV
 clear g0 hfb hib hV hc0 hs1 hp hs hb hWs ha hm hnn
 by_cases hv0:V=0
 ·subst hv0
  have hf:VFn f:=⟨(Rn.valid_input HV.out).1,him⟩
  go_enter Tryz.func20, Tryz.ntmps20
  go_wp2_with (go_at_call 13;(with_reducible refine CV.out.mono ?_);rintro e w1 ⟨rfl,g1⟩;obtain ⟨j0,j1,j2,j3,j4,j5⟩:=HC.out w1 g1;have HG1:=Lib.hid g1)
  obtain ⟨W3,hW3⟩:∃ W3,w1.alloc (.cells #[.slice none 0 0,.slice none 0 0,.int .i64 0] 86)=W3:=⟨_,rfl⟩
  obtain ⟨R,hR⟩:∃ R,Rn.all f i=R:=⟨_,rfl⟩
  have g3:Gr w1 W3:=by rw [← hW3];exact (Gr.refl w1).alloc _
  have hex:W3.heap[w1.heap.size]?=some (.cells #[.slice none 0 0,.slice none 0 0,.int .i64 0] 86 (0,0)):=by rw [← hW3];exact heap_alloc_new _ _
  have hB2:w.heap.size+2≤w1.heap.size:=by have:=g1.size;have:=HWS.out;omega
  have HI0:Hid (RoundI f i (w.heap.size+2) w1.heap.size R 1 (.slice none 0 0) W3) :=
   ⟨fun _=>False,.slice none 0 0,.slice none 0 0,[],[],[],⟨⟨hex,Own1.nil _ _ _,Own1.nil _ _ _,hB2⟩,⟨rfl,⟨rfl,.inl ⟨rfl,rfl⟩⟩,fun j o vm h=>by simp at h⟩,fun k hk=>hk.elim,fun k hk=>by cases hk⟩,Rn.good_nil f i,by unfold Rn.Asc;exact List.Pairwise.nil,Nat.le_refl _,hR⟩
  have HR:=Lib.hid hR
  have HG3:=Lib.hid (g1.trans g3)
  have HB2:=Lib.hid hB2
  have HC3:Hid (∀ wr,FrS (fun k=>w.heap.size+2≤k) W3 wr→wr.cell? ⟨w.heap.size,0,none⟩=some (.slice Ap f.params.length cp)∧wr.cell? ⟨w.heap.size,1,none⟩=some (.int .i64 f.ret)∧wr.cell? ⟨w.heap.size,2,none⟩=some (.slice As f.slots.length cs)∧wr.cell? ⟨w.heap.size,3,none⟩=some (.slice Ab f.blocks.length cb)∧wr.cell? ⟨w.heap.size+1,0,none⟩=some (.slice Aa i.args.length ca)∧wr.cell? ⟨w.heap.size+1,1,none⟩=some (.slice Am i.mem.length cm)):=fun wr hF=>by
   obtain ⟨q1,q2⟩:=HB.out W3 HG3.out
   have r1:=(hF.block _ (lt_of_heap q1) (by omega)).trans q1
   have r2:=(hF.block _ (lt_of_heap q2) (by omega)).trans q2
   exact ⟨cell_of_row _ _ 0 _ _ _ r1,cell_of_row _ _ 1 _ _ _ r1,cell_of_row _ _ 2 _ _ _ r1,cell_of_row _ _ 3 _ _ _ r1,cell_of_row _ _ 0 _ _ _ r2,cell_of_row _ _ 1 _ _ _ r2⟩
  clear hex hB2 g3 hR g1 j0 j1 j2 j3 j4 j5 k0 k1 k2 k3 k4 k5
  go_wp2
  go_loopw [8,9] (fun s8 s9 wr=>∃ n:Nat,1≤n∧n≤257∧s9=.int .i64 (n:Int)∧Hid (RoundI f i (w.heap.size+2) w1.heap.size R n s8 wr)∧Hid (FrS (fun k=>w.heap.size+2≤k) W3 wr)) (fun _ s9 _=>257-(intOf s9).toNat)
  case atStart=>rw [hW3];exact ⟨1,Nat.le_refl _,by decide,rfl,HI0,FrS.refl _ _⟩
  case round =>
   obtain ⟨n,hn1,hn2,rfl,hI,hF⟩:=hrel
   by_cases hlt:n=257
   ·subst hlt
    have HE:Hid (R=none):=by
     obtain ⟨D,vp',vw',vms,p,outs,-,-,-,-,h⟩:=hI.out
     exact h.symm
    have HGE:Hid (Gr w wr):=gr_frs (HG0.out.trans HG3.out) hF.out (fun k hk=>by omega)
    clear hI hF
    go_wp2
    go_ret2
    exact ⟨.inr (.inl ⟨HV.out,HR.out.trans HE.out,rfl⟩),HGE.out⟩
   ·have hlt2:n<257:=by omega
    have hnw:(n:Int)≤256:=by omega
    obtain ⟨D,vp',vw',vms,p,outs,hI1,hI2,hI3,hI4,hI5⟩:=hI.out
    have HI1:=Lib.hid hI1
    have HI2:=Lib.hid hI2
    have HI3:=Lib.hid hI3
    have HI4:=Lib.hid hI4
    have HI5:=Lib.hid hI5
    clear hI1 hI2 hI3 hI4 hI5 hlt
    have hFd:FrS (fun k=>w.heap.size+2≤k) W3 wr.drew:=hF.out.drew
    have HFW:Hid (Below w.heap.size w wr):=gr_frs (HG0.out.trans HG3.out) hF.out (fun k hk=>by omega)
    obtain ⟨X,hX⟩:∃ X,(Rn.run f (Rn.given p) i).1=X:=⟨_,rfl⟩
    obtain ⟨Nx,hNx⟩:∃ Nx,Rn.nextK (Rn.padded p (Rn.wids f i p).length) (Rn.wids f i p) (Rn.wids f i p).length=Nx:=⟨_,rfl⟩
    have HX:=Lib.hid hX
    have HNX:=Lib.hid hNx
    have CS:Hid (∀ u:World,Gr wr u→Calls Tryz.prog 47 #[.agg #[.slice Ap f.params.length cp,.int .i64 f.ret,.slice As f.slots.length cs,.slice Ab f.blocks.length cb],.agg #[.slice Aa i.args.length ca,.slice Am i.mem.length cm],.iface 84 (.pointer (some ⟨w1.heap.size,0,none⟩))] u fun e w4=>∃ c:Cfg,e=.returned (.pointer (some ⟨c.Bs,0,none⟩))∧∀ u2,Gr w4 u2 →
        Calls Tryz.prog 48 #[.pointer (some ⟨c.Bs,0,none⟩)] u2 fun e w'=>∃ vx,e=.returned (outV X vx)∧∃ (D':Nat→Prop) (vp2 vw2:Value),Rd D' (w.heap.size+2) w1.heap.size w' u8 vp2 vw2 vms (Rn.padded p (Rn.wids f i p).length) (Rn.wids f i p) (Rn.wids f i p).length outs∧Keeps D' w' vx X.mem∧FrS (fun k=>w.heap.size+2≤k) wr w'):=fun u gu=>by
     have hwu:Below w.heap.size w u:=HFW.out.trans (Below.mono gu (by have:=HFW.out.size;omega))
     refine (rstart_any (B0:=w.heap.size+2) (f:=f) (i:=i) ((HFN.out.below hwu).mono (by omega)) (by have:=gu.size;have:=hF.out.size;have:=HG3.out.size;have:=HWS.out;omega) hf (SlAt.mono (U32At.below HA.out hwu) (by omega)) ((HM.out.below hwu).mono (by omega)) HV.out _ _).mono ?_
     rintro e w4 ⟨c,cn,cf,cch,rfl,hps,g4,hK,hBm⟩
     refine ⟨c,rfl,fun u2 g2=>?_⟩
     rw [← hX]
     refine (orun_any HI1.out HI2.out rcAll hf HV.out HNN.out ((gu.trans g4).trans g2) cn cf cch (hps.gr g2) (fun k hk=>by have:=hK k hk;have:=gu.size;omega) (by have:=g2.size;omega)).mono ?_
     rintro e w' ⟨vx,rfl,D',vp2,vw2,r1,r2,r3⟩
     exact ⟨vx,rfl,D',vp2,vw2,r1,r2,(FrS.of_gr ((gu.trans g4).trans g2)).trans r3⟩
    obtain ⟨Bl,hBl⟩:∃ Bl,Rn.below X outs=Bl:=⟨_,rfl⟩
    obtain ⟨F,hF2⟩:∃ F,decide (outs[Bl]?=some X)=F:=⟨_,rfl⟩
    have HBL:=Lib.hid hBl
    have HF2:=Lib.hid hF2
    have HBLE:Hid (Bl≤outs.length):=by show _≤_;rw [← hBl];exact Rn.below_le X outs
    obtain ⟨j0,j1,j2,j3,j4,j5⟩:=HC3.out wr hF.out
    clear hFd hX hNx hBl hF2
    unfold outV at CS
    cases F
    all_goals cases Nx
    all_goals
     go_wp2_with (first
       | (go_at_call 47;(with_reducible refine (CS.out _ (by first | exact (Gr.refl wr).drew | exact Gr.refl wr)).mono ?_);rintro e w4 ⟨c,rfl,hco⟩;have CO:=Lib.hid hco;clear hco)
       | (go_at_call 48;(with_reducible refine (CO.out _ (Gr.refl w4)).mono ?_);rintro e w5 ⟨vx,rfl,D',vp2,vw2,hrd,hkp,hfr⟩;obtain ⟨Ax,cx,rfl⟩:=hkp.2.1;have RD:=Lib.hid hrd;have KP:=Lib.hid hkp;have FR:=Lib.hid hfr;clear hrd hkp hfr)
       | (go_at_call 49
          obtain ⟨W6,hW6⟩:∃ W6,w5.alloc (.cells #[.int .i64 X.kind,.bool X.ret.p,.int .i64 X.ret.s,.int .u32 X.ret.n,.slice Ax X.mem.length cx] 39)=W6:=⟨_,rfl⟩
          have G6:Hid (Gr w5 W6):=by show Gr _ _;rw [← hW6];exact (Gr.refl w5).alloc _
          have BX:Hid (∀ u,Gr W6 u→_):=fun u gu=>obox_cells (w:=w5) (o:=X) (vm:=.slice Ax X.mem.length cx) (w':=u) (by show Gr (w5.alloc _) u;rw [hW6];exact gu)
          rw [hW6]
          have BS:=Lib.hid (bsearch_any ((RD.out.gr G6.out).at_) (by have:=HI4.out;omega) HI3.out (KP.out.gr G6.out))
          rw [HBL.out,HF2.out] at BS
          unfold outV at BS
          (with_reducible refine BS.out.mono ?_)
          rintro e w7 ⟨rfl,g7⟩
          have G7:Hid (Gr w5 w7):=G6.out.trans g7
          obtain ⟨b0,b1,b2,b3,b4⟩:=BX.out w7 g7
          have b0':=fun o=>(BX.out (w7.alloc o) (g7.alloc o)).1
          have b1':=fun o=>(BX.out (w7.alloc o) (g7.alloc o)).2.1
          have b2':=fun o=>(BX.out (w7.alloc o) (g7.alloc o)).2.2.1
          have b3':=fun o=>(BX.out (w7.alloc o) (g7.alloc o)).2.2.2.1
          have b4':=fun o=>(BX.out (w7.alloc o) (g7.alloc o)).2.2.2.2
          clear g7 BS hW6)
       | (go_at_call 51
          obtain ⟨W8,hW8⟩:∃ W8,w7.alloc (.cells #[.int .i64 X.kind,.bool X.ret.p,.int .i64 X.ret.s,.int .u32 X.ret.n,.slice Ax X.mem.length cx] 39)=W8:=⟨_,rfl⟩
          have G8:Hid (Gr w5 W8):=by show Gr _ _;rw [← hW8];exact G7.out.alloc _
          have hyb:W8.heap[w7.heap.size]?=some (.cells (outC X (.slice Ax X.mem.length cx)).toArray 39 (0,0)):=by rw [← hW8];exact heap_alloc_new _ _
          have hs7:w5.heap.size≤w7.heap.size:=G7.out.size
          rw [hW8]
          have RD8:=RD.out.gr G8.out
          have hB8:w.heap.size+2≤W8.heap.size:=by have:=exO_lt RD8.ex (k:=w1.heap.size) (Or.inl rfl);omega
          have CI:=Lib.hid (insO_any RD8.at_ hB8 (by have:=HI4.out;omega) HBLE.out (KP.out.gr G8.out) hyb (fun q=>by have:=(own_block_lt RD.out.at_.own _ q).2;omega) (fun k hk=>(RD8.dlt k hk).2.2.2))
          (with_reducible refine CI.out.mono ?_)
          rintro e w9 ⟨A9,c9,rfl,ho9,hf9,hv9⟩
          have RD9:=RD8.insert ho9 hf9 hv9
          rw [← HBL.out,← Rn.insert_new X outs HI3.out (by have:=HF2.out;rw [← HBL.out] at this;simpa using this),← HX.out] at RD9
          have RDN:=Lib.hid RD9
          have FRN:Hid (FrS (fun k=>w.heap.size+2≤k) wr w9):=(FR.out.trans (FrS.of_gr G8.out)).trans (hf9.mono fun k hk=>(own_block_lt RD8.at_.own k hk).1)
          clear RD9 RD8 ho9 hf9 hv9 hyb hs7 hW8 CI hB8)
       | (go_at_call 52
          have CN:=Lib.hid (round_end rcAll hf HV.out HNN.out HI2.out HI3.out HI4.out hlt2 HI5.out RDN.out HNX.out)
          (with_reducible refine CN.out.mono ?_)
          rintro e w10 ⟨he,hfN,hnone,hsome⟩
          simp only [Option.isSome_none,Option.isSome_some] at he
          subst he
          have EN:=Lib.hid hnone
          have ES:=Lib.hid hsome
          have FRT:Hid (FrS (fun k=>w.heap.size+2≤k) W3 w10):=hF.out.trans (FRN.out.trans hfN)
          clear hfN hnone hsome)
       | (go_at_call 52
          have RD9:=RD.out.gr G7.out
          rw [← Rn.insert_found X outs HI3.out (by have:=HF2.out;rw [← HBL.out] at this;simpa using this),← HX.out] at RD9
          have FRN:Hid (FrS (fun k=>w.heap.size+2≤k) wr w7):=FR.out.trans (FrS.of_gr G7.out)
          have CN:=Lib.hid (round_end rcAll hf HV.out HNN.out HI2.out HI3.out HI4.out hlt2 HI5.out RD9 HNX.out)
          (with_reducible refine CN.out.mono ?_)
          rintro e w10 ⟨he,hfN,hnone,hsome⟩
          simp only [Option.isSome_none,Option.isSome_some] at he
          subst he
          have EN:=Lib.hid hnone
          have ES:=Lib.hid hsome
          have FRT:Hid (FrS (fun k=>w.heap.size+2≤k) W3 w10):=hF.out.trans (FRN.out.trans hfN)
          clear hfN hnone hsome RD9))
    ·go_ret2
     obtain ⟨outs',e1,e2,e3,e4⟩:=EN.out trivial
     exact ⟨.inr (.inr ⟨HV.out,outs',HR.out.trans e1,e2,e3,_,_,_,rfl,e4⟩),gr_frs (HG0.out.trans HG3.out) FRT.out (fun k hk=>by omega)⟩
    ·exact ⟨⟨n+1,by omega,by omega,by go_num,ES.out rfl,FRT⟩,by simp [intOf];omega⟩
    ·go_ret2
     obtain ⟨outs',e1,e2,e3,e4⟩:=EN.out trivial
     exact ⟨.inr (.inr ⟨HV.out,outs',HR.out.trans e1,e2,e3,_,_,_,rfl,e4⟩),gr_frs (HG0.out.trans HG3.out) FRT.out (fun k hk=>by omega)⟩
    ·exact ⟨⟨n+1,by omega,by omega,by go_num,ES.out rfl,FRT⟩,by simp [intOf];omega⟩
 ·go_enter Tryz.func20, Tryz.ntmps20
  go_wp2_with (go_at_call 13;(with_reducible refine CV.out.mono ?_);rintro e w1 ⟨rfl,g1⟩)
  go_ret2
  exact ⟨.inl ⟨by rw [HV.out];exact hv0,by rw [HV.out];rfl⟩,HG0.out.trans g1⟩
end Go.Proofs.YthfhamagopbgcaaGreat
namespace Go.Proofs.YthfhamagopbgcaaGreat
set_option linter.unusedSimpArgs false
set_option linter.unusedVariables false
open Go.RowKit

theorem grun_any {B Bg:Nat} {f:Fn} {i:Rn.Inp} {w:World} {picks:List Int} {vpk:Value} (hRA:Ref.RcAll) (hf:VFn f) (hin:Rn.validInput f i=0) (ha:∀ a ∈ i.args,0≤a) {c:Cfg} (cn:c.n₀=B) (cf:c.f=f) (cch:c.ch=.iface 118 (.pointer (some ⟨Bg,0,none⟩)))
  (hp:PS c w (Rn.start f i) 0 (-1) (.slice none 0 0)) (hBm:c.Bm<w.heap.size) (hg:w.heap[Bg]?=some (.cells #[vpk,.int .i64 0] 120 (0,0))) (hv:U32At B w vpk picks) (hBg:B≤Bg∧¬ Kept c Bg) (hr:∀ z ∈ picks,0≤z∧z<4294967296) :
  Calls Tryz.prog 48 #[.pointer (some ⟨c.Bs,0,none⟩)] w fun e w'=>∃ vx,e=.returned (outV (Rn.run f (Rn.given picks) i).1 vx)∧∃ (b frm:Int) (vq:Value),PS c w' (Rn.run f (Rn.given picks) i).2.1 b frm vq∧w'.heap[Bg]?=some (.cells #[vpk,.int .i64 (Rn.wids f i picks).length] 120 (0,0)) ∧
   Own1 B 3 w' vq ((Rn.run f (Rn.given picks) i).2.2.map (Value.int .i64))∧Keeps (Dc c) w' vx (Rn.run f (Rn.given picks) i).1.mem∧FrS (fun k=>Mut c k∨k=Bg) w w':=by
 subst cn
 subst cf
 obtain ⟨q1,q2,q3,q4⟩:=Rn.run_ok hRA hf.val hf.im hin ha picks
 obtain ⟨l,hl,he⟩:=Rn.start_ent hRA hin ha
 let ch:=givenCh c Bg vpk picks (Rn.wids c.f i picks) cch hr hBg (by omega)
 have hA:ch.At w (Rn.start c.f i).widths (fun k=>k=Bg):=⟨hg,hv,rfl⟩
 refine (routcome_any (pick:=Rn.given picks) (fin:=Rn.wids c.f i picks) (b:=0) hp hBm hf hRA hl he (Rn.given_ok picks) ch hA (Nat.zero_le _) (List.prefix_refl _)).mono ?_
 rintro e w' ⟨rfl,b,frm,vq,O',r1,r2,r3,r4,r5⟩
 obtain ⟨r6,r7,rfl⟩:=r2
 have hrun:Rn.from_ c.f (Rn.given picks) 401 0 (-1) (Rn.start c.f i)=Rn.run c.f (Rn.given picks) i:=rfl
 rw [hrun] at r1 r3 r6 ⊢
 have hBm':c.Bm<w'.heap.size:=by have:=r4.size;omega
 refine ⟨outM c _,rfl,b,frm,vq,r1,r6,own_mono r3 hp.n₀,out_keeps r1 hBm' hf.val q3 q4,r4⟩
/-- What one hands back; B: behind it lies what it has made. -/
def OneP (f:Fn) (i:Rn.Inp) (picks:List Int) (B:Nat) (e:Ending) (w':World):Prop :=
 ∃ (c:Cfg) (vx vq:Value) (b frm:Int),e=.returned (.tuple #[.pointer (some ⟨c.Bs,0,none⟩),outV (Rn.run f (Rn.given picks) i).1 vx,.int .i64 (Rn.wids f i picks).length])∧c.f=f∧PS c w' (Rn.run f (Rn.given picks) i).2.1 b frm vq ∧
  Own1 B 3 w' vq ((Rn.run f (Rn.given picks) i).2.2.map (Value.int .i64))∧Keeps (Dc c) w' vx (Rn.run f (Rn.given picks) i).1.mem∧∀ k,Kept c k→B≤k
set_option maxRecDepth 100000 in
set_option maxHeartbeats 4000000 in
theorem one_any {w:World} {f:Fn} {vf:Value} (hfn:FnAt w.heap.size w vf f) (hf:VFn f) {i:Rn.Inp} (hin:Rn.validInput f i=0) {va vm:Value} (ha:U32At w.heap.size w va i.args) (hm:TabAt w.heap.size w vm i.mem) (hnn:∀ a ∈ i.args,0≤a)
  {vpk:Value} {picks:List Int} (hpk:U32At w.heap.size w vpk picks) (hr:∀ z ∈ picks,0≤z∧z<4294967296) :
  Calls Tryz.prog 44 #[vf,.agg #[va,vm],vpk] w fun e w'=>OneP f i picks w.heap.size e w'∧Gr w w':=by
 obtain ⟨vp,vs,vb,rfl,hp,hs,hb⟩:=hfn
 have HFN:Hid (FnAt w.heap.size w (.agg #[vp,.int .i64 f.ret,vs,vb]) f):=⟨vp,vs,vb,rfl,hp,hs,hb⟩
 have HA:=Lib.hid ha
 have HM:=Lib.hid hm
 have HNN:=Lib.hid hnn
 have HPK:=Lib.hid hpk
 have HRR:=Lib.hid hr
 obtain ⟨W,hW⟩:∃ W,((w.alloc (.cells #[vp,.int .i64 f.ret,vs,vb] 25)).alloc (.cells #[va,vm] 29)).alloc (.cells #[.int .i64 0,.bool false,.int .i64 0,.int .u32 0,.slice none 0 0] 39)=W:=⟨_,rfl⟩
 have g0:Gr w W:=by rw [← hW];exact (((Gr.refl w).alloc _).alloc _).alloc _
 have hWs:W.heap.size=w.heap.size+3:=by rw [← hW];simp
 obtain ⟨W0,hW0⟩:∃ W0,w.alloc (.cells #[vp,.int .i64 f.ret,vs,vb] 25)=W0:=⟨_,rfl⟩
 obtain ⟨W1,hW1⟩:∃ W1,W0.alloc (.cells #[va,vm] 29)=W1:=⟨_,rfl⟩
 have s0:W0.heap.size=w.heap.size+1:=by rw [← hW0];simp
 have s1:W1.heap.size=w.heap.size+2:=by rw [← hW1];simp [s0]
 have hW':=hW
 rw [hW0,hW1] at hW'
 have t0:Gr W0 W1:=by rw [← hW1];exact (Gr.refl _).alloc _
 have t1:Gr W1 W:=by rw [← hW'];exact (Gr.refl _).alloc _
 have hfb:W.heap[w.heap.size]?=some (.cells #[vp,.int .i64 f.ret,vs,vb] 25 (0,0)):=(t1.heap _ (by omega)).trans ((t0.heap _ (by omega)).trans (by rw [← hW0];exact heap_alloc_new _ _))
 have hib:W.heap[w.heap.size+1]?=some (.cells #[va,vm] 29 (0,0)):=(t1.heap _ (by omega)).trans (by rw [← hW1,← s0];exact heap_alloc_new _ _)
 have hrb:W.heap[w.heap.size+2]?=some (.cells #[.int .i64 0,.bool false,.int .i64 0,.int .u32 0,.slice none 0 0] 39 (0,0)):=by rw [← hW',← s1];exact heap_alloc_new _ _
 obtain ⟨W4,hW4⟩:∃ W4,W.alloc (.cells #[vpk,.int .i64 0] 120)=W4:=⟨_,rfl⟩
 have g4:Gr W W4:=by rw [← hW4];exact (Gr.refl W).alloc _
 have hgb:W4.heap[W.heap.size]?=some (.cells #[vpk,.int .i64 0] 120 (0,0)):=by rw [← hW4];exact heap_alloc_new _ _
 have hW4s:W4.heap.size=w.heap.size+4:=by rw [← hW4];simp [hWs]
 have HRB:Hid (W4.heap[w.heap.size+1+1]?=some (.cells #[.int .i64 0,.bool false,.int .i64 0,.int .u32 0,.slice none 0 0] 39 (0,0))):=(g4.heap _ (by omega)).trans hrb
 have k0:W4.cell? ⟨w.heap.size,0,none⟩=some vp:=cell_of_row _ _ 0 _ _ _ ((g4.heap _ (by omega)).trans hfb)
 have k1:W4.cell? ⟨w.heap.size,1,none⟩=some (.int .i64 f.ret):=cell_of_row _ _ 1 _ _ _ ((g4.heap _ (by omega)).trans hfb)
 have k2:W4.cell? ⟨w.heap.size,2,none⟩=some vs:=cell_of_row _ _ 2 _ _ _ ((g4.heap _ (by omega)).trans hfb)
 have k3:W4.cell? ⟨w.heap.size,3,none⟩=some vb:=cell_of_row _ _ 3 _ _ _ ((g4.heap _ (by omega)).trans hfb)
 have k4:W4.cell? ⟨w.heap.size+1,0,none⟩=some va:=cell_of_row _ _ 0 _ _ _ ((g4.heap _ (by omega)).trans hib)
 have k5:W4.cell? ⟨w.heap.size+1,1,none⟩=some vm:=cell_of_row _ _ 1 _ _ _ ((g4.heap _ (by omega)).trans hib)
 have HG:=Lib.hid (g0.trans g4)
 obtain ⟨X,hX⟩:∃ X,Rn.run f (Rn.given picks) i=X:=⟨_,rfl⟩
 obtain ⟨NW,hNW⟩:∃ NW,(Rn.wids f i picks).length=NW:=⟨_,rfl⟩
 have CS:Hid (Calls Tryz.prog 47 #[.agg #[vp,.int .i64 f.ret,vs,vb],.agg #[va,vm],.iface 118 (.pointer (some ⟨W.heap.size,0,none⟩))] W4 fun e w5=>∃ c:Cfg,e=.returned (.pointer (some ⟨c.Bs,0,none⟩))∧Hid (c.f=f∧c.n₀=w.heap.size∧∀ k,Kept c k→w.heap.size+4≤k) ∧
     Calls Tryz.prog 48 #[.pointer (some ⟨c.Bs,0,none⟩)] w5 fun e w'=>∃ vx,e=.returned (outV X.1 vx)∧∃ (b frm:Int) (vq:Value),PS c w' X.2.1 b frm vq∧w'.heap[W.heap.size]?=some (.cells #[vpk,.int .i64 NW] 120 (0,0)) ∧
       Own1 w.heap.size 3 w' vq (X.2.2.map (Value.int .i64))∧Keeps (Dc c) w' vx X.1.mem∧FrS (fun k=>Mut c k∨k=W.heap.size) W4 w'):=by
  have hww:Below w.heap.size w W4:=HG.out
  refine (rstart_any (B0:=w.heap.size) (f:=f) (i:=i) (HFN.out.below hww) (by omega) hf (U32At.below HA.out hww) (HM.out.below hww) hin _ _).mono ?_
  rintro e w5 ⟨c,cn,cf,cch,rfl,hps,g5,hK,hBm⟩
  refine ⟨c,rfl,⟨cf,cn,fun k hk=>by have:=hK k hk;omega⟩,?_⟩
  have hww5:Below w.heap.size w w5:=HG.out.trans g5
  rw [← hX,← hNW]
  refine (grun_any rcAll hf hin HNN.out cn cf cch hps hBm ((g5.heap _ (by omega)).trans hgb) (U32At.below HPK.out hww5) ⟨by omega,fun q=>by have:=hK _ q;omega⟩ HRR.out).mono ?_
  rintro e w' ⟨vx,rfl,b,frm,vq,r1,r2,r3,r4,r5⟩
  exact ⟨vx,rfl,b,frm,vq,r1,r2,r3,r4,(FrS.of_gr g5).trans r5⟩
 have HX:=Lib.hid hX
 have HNW:=Lib.hid hNW
 have HW4S:=Lib.hid hW4s
 have HWS:=Lib.hid hWs
 obtain ⟨Ap,cp,rfl,-⟩:=id hp
 obtain ⟨As,cs,rfl,-⟩:=id hs
 obtain ⟨Ab,cb,rfl,-⟩:=id hb
 obtain ⟨Aa,ca,rfl,-⟩:=id ha
 obtain ⟨Am,cm,rfl,-⟩:=id hm
 obtain ⟨Ak,ck,rfl,-⟩:=id hpk
 clear hp hs hb ha hm hnn hpk hr hX hNW s0 s1 t0 t1 hW' hW0 hW1 hfb hib hrb hgb hW4s g0 g4 hWs
 unfold outV at CS
 go_enter Tryz.func44, Tryz.ntmps44
 go_wp2_with (first
   | (go_at_call 47;(with_reducible refine CS.out.mono ?_);rintro e w5 ⟨c,rfl,hcf,hco⟩;have HCF:=Lib.hid hcf.out;have CO:=Lib.hid hco;clear hco hcf)
   | (go_at_call 48;(with_reducible refine CO.out.mono ?_);rintro e w6 ⟨vx,rfl,b,frm,vq,r1,r2,r3,r4,r5⟩;obtain ⟨Ax,cx,rfl⟩:=r4.2.1;have R1:=Lib.hid r1;have R2:=Lib.hid r2;have R3:=Lib.hid r3;have R4:=Lib.hid r4;have R5:=Lib.hid r5;clear r1 r2 r3 r4 r5))
 obtain ⟨W7,hW7⟩:∃ W7,w6.alloc (.cells #[.int .i64 X.1.kind,.bool X.1.ret.p,.int .i64 X.1.ret.s,.int .u32 X.1.ret.n,.slice Ax X.1.mem.length cx] 39)=W7:=⟨_,rfl⟩
 have G7:Hid (Gr w6 W7):=by show Gr _ _;rw [← hW7];exact (Gr.refl w6).alloc _
 obtain ⟨b0,b1,b2,b3,b4⟩:=obox_cells (w:=w6) (o:=X.1) (vm:=.slice Ax X.1.mem.length cx) (w':=W7) (by show Gr (w6.alloc _) W7;rw [hW7];exact Gr.refl _)
 have hrb6:W7.heap[w.heap.size+1+1]?=some (.cells #[.int .i64 0,.bool false,.int .i64 0,.int .u32 0,.slice none 0 0] 39 (0,0)):=(G7.out.heap _ (by have:=R5.out.size;have:=HW4S.out;omega)).trans ((R5.out.block _ (by have:=HW4S.out;omega) (fun q=>by
   rcases q with q | q
   · have:=HCF.out.2.2 _ (.inl q);omega
   · have:=HWS.out;omega)).trans HRB.out)
 have hgv:W7.cell? ⟨W.heap.size,1,none⟩=some (.int .i64 NW):=cell_of_row _ _ 1 _ _ _ ((G7.out.heap _ (lt_of_heap R2.out)).trans R2.out)
 have f0:=frozen_of_row _ _ 0 _ _ hrb6
 have f1:=frozen_of_row _ _ 1 _ _ hrb6
 have f2:=frozen_of_row _ _ 2 _ _ hrb6
 have f3:=frozen_of_row _ _ 3 _ _ hrb6
 have f4:=frozen_of_row _ _ 4 _ _ hrb6
 have e0:=cell_of_row _ _ 0 _ _ _ hrb6
 have e1:=cell_of_row _ _ 1 _ _ _ hrb6
 have e2:=cell_of_row _ _ 2 _ _ _ hrb6
 have e3:=cell_of_row _ _ 3 _ _ _ hrb6
 have e4:=cell_of_row _ _ 4 _ _ _ hrb6
 have HR6:=Lib.hid hrb6
 clear hrb6
 have hne1:¬ (w.heap.size+1+1=W.heap.size):=by have:=HWS.out;omega
 have hne2:¬ (W.heap.size=w.heap.size+1+1):=by have:=HWS.out;omega
 go_wp2
 go_region
 all_goals go_wp2
 have hF9:=(((((FrS.refl (·=w.heap.size+1+1) W7).setCell (p:=⟨w.heap.size+1+1,0,none⟩) rfl (.int .i64 X.1.kind)).setCell (p:=⟨w.heap.size+1+1,1,none⟩) rfl (.bool X.1.ret.p)).setCell (p:=⟨w.heap.size+1+1,2,none⟩) rfl (.int .i64 X.1.ret.s)).setCell (p:=⟨w.heap.size+1+1,3,none⟩) rfl (.int .u32 X.1.ret.n)).setCell (p:=⟨w.heap.size+1+1,4,none⟩) rfl (.slice Ax X.1.mem.length cx)
 have h9:=heap_setCell_at (i:=4) (.slice Ax X.1.mem.length cx) (heap_setCell_at (i:=3) (.int .u32 X.1.ret.n) (heap_setCell_at (i:=2) (.int .i64 X.1.ret.s) (heap_setCell_at (i:=1) (.bool X.1.ret.p) (heap_setCell_at (i:=0) (.int .i64 X.1.kind) HR6.out))))
 obtain ⟨W8,hW8⟩:∃ W8,((((W7.setCell ⟨w.heap.size+1+1,0,none⟩ (.int .i64 X.1.kind)).setCell ⟨w.heap.size+1+1,1,none⟩ (.bool X.1.ret.p)).setCell ⟨w.heap.size+1+1,2,none⟩ (.int .i64 X.1.ret.s)).setCell ⟨w.heap.size+1+1,3,none⟩ (.int .u32 X.1.ret.n)).setCell ⟨w.heap.size+1+1,4,none⟩ (.slice Ax X.1.mem.length cx)=W8:=⟨_,rfl⟩
 rw [hW8] at hF9 h9
 rw [hW8]
 have h9':W8.drew.heap[w.heap.size+1+1]?=_:=h9
 obtain ⟨W9,hW9⟩:∃ W9,W8.drew=W9:=⟨_,rfl⟩
 have hF10:=hF9.drew
 rw [hW9] at h9' hF10
 rw [hW9]
 have q0:W9.cell? ⟨w.heap.size+1+1,0,none⟩=some (.int .i64 X.1.kind):=cell_of_row _ _ 0 _ _ _ h9'
 have q1:W9.cell? ⟨w.heap.size+1+1,1,none⟩=some (.bool X.1.ret.p):=cell_of_row _ _ 1 _ _ _ h9'
 have q2:W9.cell? ⟨w.heap.size+1+1,2,none⟩=some (.int .i64 X.1.ret.s):=cell_of_row _ _ 2 _ _ _ h9'
 have q3:W9.cell? ⟨w.heap.size+1+1,3,none⟩=some (.int .u32 X.1.ret.n):=cell_of_row _ _ 3 _ _ _ h9'
 have q4:W9.cell? ⟨w.heap.size+1+1,4,none⟩=some (.slice Ax X.1.mem.length cx):=cell_of_row _ _ 4 _ _ _ h9'
 refine bodyPost_ret (v:=.tuple #[.pointer (some ⟨c.Bs,0,none⟩),.agg #[.int .i64 X.1.kind,.bool X.1.ret.p,.int .i64 X.1.ret.s,.int .u32 X.1.ret.n,.slice Ax X.1.mem.length cx],.int .i64 NW]) (by simp [results,Tryz.results44,go_sem,q0,q1,q2,q3,q4]) rfl ?_
 clear hW9 hW8
 obtain ⟨c1,c2,c3⟩:=HCF.out
 have hS:∀ k,k=w.heap.size+1+1→c.n₀≤k∧¬ Kept c k:=fun k hk=>⟨by omega,fun q=>by have:=c3 k q;omega⟩
 refine ⟨⟨c,.slice Ax X.1.mem.length cx,vq,b,frm,?_,c1,?_,?_,?_,fun k hk=>by have:=c3 k hk;omega⟩,?_⟩
 ·rw [HX.out,HNW.out];rfl
 ·rw [HX.out];exact (R1.out.gr G7.out).away hS hF10
 ·rw [HX.out]
  have h3:=own_gr R3.out G7.out
  exact own_same h3 fun k hk=>hF10.block k (own_row h3 hk).2.1 fun q=>by
   obtain ⟨-,-,cur,q2⟩:=own_row h3 hk
   exact ne_of_type q2 HR6.out (by decide) q
 ·rw [HX.out];exact (R4.out.gr G7.out).frs hF10 fun k hk q=>(hS k q).2 hk.kept
 ·refine gr_frs HG.out ((R5.out.mono (S':=fun k=>w.heap.size≤k) fun k hk=>?_).trans ((FrS.of_gr G7.out).trans (hF10.mono fun k hk=>?_))) (fun k hk=>hk)
  ·rcases hk with hk | hk
   ·have:=c3 k (.inl hk);omega
   ·have:=HWS.out;omega
  ·show _≤k
   omega
end Go.Proofs.YthfhamagopbgcaaGreat
namespace Go.Proofs.YthfhamagopbgcaaGreat
set_option linter.unusedSimpArgs false
set_option linter.unusedVariables false
open Go.RowKit

/-- What Run hands back. -/
def RunR (f:Fn) (i:Rn.Inp) (picks:List Int) (B:Nat) (e:Ending) (w':World):Prop :=
 (Rn.validInput f i≠0∧e=.returned (.tuple #[outV ⟨0,⟨false,0,0⟩,[]⟩ (.slice none 0 0),.int .i64 0,.int .i64 (Rn.validInput f i)])) ∨
 (Rn.validInput f i=0∧∃ (vx:Value) (D:Nat→Prop),e=.returned (.tuple #[outV (Rn.run f (Rn.given picks) i).1 vx,.int .i64 (Rn.wids f i picks).length,.int .i64 0])∧Keeps D w' vx (Rn.run f (Rn.given picks) i).1.mem∧∀ k,D k→B≤k)
set_option maxRecDepth 100000 in
set_option maxHeartbeats 4000000 in
theorem run_any {w:World} {f:Fn} {vf:Value} (hfn:FnAt w.heap.size w vf f) (hnice:Nice f) (him:Rn.Im f) {i:Rn.Inp} {va vm:Value} (ha:U32At w.heap.size w va i.args) (hm:TabAt w.heap.size w vm i.mem) (hnn:∀ a ∈ i.args,0≤a)
  {vpk:Value} {picks:List Int} (hpk:U32At w.heap.size w vpk picks) (hr:∀ z ∈ picks,0≤z∧z<4294967296) :
  Calls Tryz.prog 16 #[vf,.agg #[va,vm],vpk] w fun e w'=>RunR f i picks w.heap.size e w'∧Gr w w':=by
 obtain ⟨vp,vs,vb,rfl,hp,hs,hb⟩:=hfn
 have HFN:Hid (FnAt w.heap.size w (.agg #[vp,.int .i64 f.ret,vs,vb]) f):=⟨vp,vs,vb,rfl,hp,hs,hb⟩
 have HA:=Lib.hid ha
 have HM:=Lib.hid hm
 have HNN:=Lib.hid hnn
 have HPK:=Lib.hid hpk
 have HRR:=Lib.hid hr
 obtain ⟨W,hW⟩:∃ W,((w.alloc (.cells #[vp,.int .i64 f.ret,vs,vb] 25)).alloc (.cells #[va,vm] 29)).alloc (.cells #[.int .i64 0,.bool false,.int .i64 0,.int .u32 0,.slice none 0 0] 39)=W:=⟨_,rfl⟩
 have g0:Gr w W:=by rw [← hW];exact (((Gr.refl w).alloc _).alloc _).alloc _
 have hWs:W.heap.size=w.heap.size+3:=by rw [← hW];simp
 obtain ⟨W0,hW0⟩:∃ W0,w.alloc (.cells #[vp,.int .i64 f.ret,vs,vb] 25)=W0:=⟨_,rfl⟩
 obtain ⟨W1,hW1⟩:∃ W1,W0.alloc (.cells #[va,vm] 29)=W1:=⟨_,rfl⟩
 have s0:W0.heap.size=w.heap.size+1:=by rw [← hW0];simp
 have s1:W1.heap.size=w.heap.size+2:=by rw [← hW1];simp [s0]
 have hW':=hW
 rw [hW0,hW1] at hW'
 have t0:Gr W0 W1:=by rw [← hW1];exact (Gr.refl _).alloc _
 have t1:Gr W1 W:=by rw [← hW'];exact (Gr.refl _).alloc _
 have hfb:W.heap[w.heap.size]?=some (.cells #[vp,.int .i64 f.ret,vs,vb] 25 (0,0)):=(t1.heap _ (by omega)).trans ((t0.heap _ (by omega)).trans (by rw [← hW0];exact heap_alloc_new _ _))
 have hib:W.heap[w.heap.size+1]?=some (.cells #[va,vm] 29 (0,0)):=(t1.heap _ (by omega)).trans (by rw [← hW1,← s0];exact heap_alloc_new _ _)
 have hrb:W.heap[w.heap.size+2]?=some (.cells #[.int .i64 0,.bool false,.int .i64 0,.int .u32 0,.slice none 0 0] 39 (0,0)):=by rw [← hW',← s1];exact heap_alloc_new _ _
 have CV:=Lib.hid (vinput_any (w:=W) (f:=f) (vf:=.agg #[vp,.int .i64 f.ret,vs,vb]) (i:=i) (va:=va) (vm:=vm) ((HFN.out.below g0).mono g0.size) hnice (SlAt.mono (U32At.below ha g0) g0.size) ((hm.below g0).mono g0.size))
 have HC:Hid (∀ wr,Gr W wr→wr.cell? ⟨w.heap.size,0,none⟩=some vp∧wr.cell? ⟨w.heap.size,1,none⟩=some (.int .i64 f.ret)∧wr.cell? ⟨w.heap.size,2,none⟩=some vs∧wr.cell? ⟨w.heap.size,3,none⟩=some vb∧wr.cell? ⟨w.heap.size+1,0,none⟩=some va∧wr.cell? ⟨w.heap.size+1,1,none⟩=some vm):=fun wr g=>by
  have r1:=(g.heap _ (lt_of_heap hfb)).trans hfb
  have r2:=(g.heap _ (lt_of_heap hib)).trans hib
  exact ⟨cell_of_row _ _ 0 _ _ _ r1,cell_of_row _ _ 1 _ _ _ r1,cell_of_row _ _ 2 _ _ _ r1,cell_of_row _ _ 3 _ _ _ r1,cell_of_row _ _ 0 _ _ _ r2,cell_of_row _ _ 1 _ _ _ r2⟩
 have HRB:Hid (∀ wr,Gr W wr→wr.heap[w.heap.size+1+1]?=some (.cells #[.int .i64 0,.bool false,.int .i64 0,.int .u32 0,.slice none 0 0] 39 (0,0))):=fun wr g=>(g.heap _ (lt_of_heap hrb)).trans hrb
 obtain ⟨k0,k1,k2,k3,k4,k5⟩:=HC.out W (Gr.refl _)
 have HG:=Lib.hid g0
 have HWS:=Lib.hid hWs
 obtain ⟨V,hV⟩:∃ V,Rn.validInput f i=V:=⟨_,rfl⟩
 rw [hV] at CV
 have HV:=Lib.hid hV
 have C1:Hid (V=0→∀ w1,Gr W w1→Calls Tryz.prog 44 #[.agg #[vp,.int .i64 f.ret,vs,vb],.agg #[va,vm],vpk] w1 fun e w'=>∃ (p:Value) (vx:Value) (D:Nat→Prop),e=.returned (.tuple #[p,outV (Rn.run f (Rn.given picks) i).1 vx,.int .i64 (Rn.wids f i picks).length])∧Keeps D w' vx (Rn.run f (Rn.given picks) i).1.mem∧(∀ k,D k→w1.heap.size≤k)∧Gr w1 w'):=fun h0 w1 g1=>by
  rw [h0] at hV
  have gg:Gr w w1:=HG.out.trans g1
  refine (one_any (w:=w1) (f:=f) (i:=i) ((HFN.out.below gg).mono gg.size) ⟨(Rn.valid_input hV).1,him⟩ hV (SlAt.mono (U32At.below HA.out gg) gg.size) ((HM.out.below gg).mono gg.size) HNN.out (SlAt.mono (U32At.below HPK.out gg) gg.size) HRR.out).mono ?_
  rintro e w' ⟨⟨c,vx,vq,b,frm,rfl,c1,c2,c3,c4,c5⟩,g⟩
  exact ⟨_,vx,Dc c,rfl,c4,fun k hk=>c5 k hk.kept,g⟩
 obtain ⟨X,hX⟩:∃ X,(Rn.run f (Rn.given picks) i).1=X:=⟨_,rfl⟩
 obtain ⟨NW,hNW⟩:∃ NW,(Rn.wids f i picks).length=NW:=⟨_,rfl⟩
 rw [hX,hNW] at C1
 have HX:=Lib.hid hX
 have HNW:=Lib.hid hNW
 obtain ⟨Ap,cp,rfl,-⟩:=id hp
 obtain ⟨As,cs,rfl,-⟩:=id hs
 obtain ⟨Ab,cb,rfl,-⟩:=id hb
 obtain ⟨Aa,ca,rfl,-⟩:=id ha
 obtain ⟨Am,cm,rfl,-⟩:=id hm
 obtain ⟨Ak,ck,rfl,-⟩:=id hpk
 clear hp hs hb ha hm hnn hpk hr hX hNW s0 s1 t0 t1 hW' hW0 hW1 hfb hib hrb g0 hWs hV
 unfold outV at C1
 by_cases hv0:V=0
 ·subst hv0
  have C2:=Lib.hid (C1.out rfl)
  clear C1
  go_enter Tryz.func16, Tryz.ntmps16
  go_wp2_with (first
    | (go_at_call 13;(with_reducible refine CV.out.mono ?_);rintro e w1 ⟨rfl,g1⟩;obtain ⟨j0,j1,j2,j3,j4,j5⟩:=HC.out w1 g1;have HG1:=Lib.hid g1;have CO:=Lib.hid (C2.out w1 g1);clear g1 C2)
    | (go_at_call 44;(with_reducible refine CO.out.mono ?_);rintro e w6 ⟨pp,vx,D,rfl,hk,hd,g6⟩;obtain ⟨Ax,cx,rfl⟩:=hk.2.1;have R4:=Lib.hid hk;have RD:=Lib.hid hd;have HG6:=Lib.hid (HG1.out.trans g6)
       have e0:=fun o=>cell_of_row _ _ 0 _ _ _ (HRB.out (w6.alloc o) (HG6.out.alloc o))
       have z0:=fun o=>frozen_of_row _ _ 0 _ _ (HRB.out (w6.alloc o) (HG6.out.alloc o))
       have e1:=fun o=>cell_of_row _ _ 1 _ _ _ (HRB.out (w6.alloc o) (HG6.out.alloc o))
       have z1:=fun o=>frozen_of_row _ _ 1 _ _ (HRB.out (w6.alloc o) (HG6.out.alloc o))
       have e2:=fun o=>cell_of_row _ _ 2 _ _ _ (HRB.out (w6.alloc o) (HG6.out.alloc o))
       have z2:=fun o=>frozen_of_row _ _ 2 _ _ (HRB.out (w6.alloc o) (HG6.out.alloc o))
       have e3:=fun o=>cell_of_row _ _ 3 _ _ _ (HRB.out (w6.alloc o) (HG6.out.alloc o))
       have z3:=fun o=>frozen_of_row _ _ 3 _ _ (HRB.out (w6.alloc o) (HG6.out.alloc o))
       have e4:=fun o=>cell_of_row _ _ 4 _ _ _ (HRB.out (w6.alloc o) (HG6.out.alloc o))
       have z4:=fun o=>frozen_of_row _ _ 4 _ _ (HRB.out (w6.alloc o) (HG6.out.alloc o))
       clear hk hd g6))
  obtain ⟨W7,hW7⟩:∃ W7,w6.alloc (.cells #[.int .i64 X.kind,.bool X.ret.p,.int .i64 X.ret.s,.int .u32 X.ret.n,.slice Ax X.mem.length cx] 39)=W7:=⟨_,rfl⟩
  have G7:Gr w6 W7:=by rw [← hW7];exact (Gr.refl w6).alloc _
  rw [hW7]
  have hrb:=HRB.out W7 (HG6.out.trans G7)
  clear hW7
  have hF9:=(((((FrS.refl (·=w.heap.size+1+1) W7).setCell (p:=⟨w.heap.size+1+1,0,none⟩) rfl (.int .i64 X.kind)).setCell (p:=⟨w.heap.size+1+1,1,none⟩) rfl (.bool X.ret.p)).setCell (p:=⟨w.heap.size+1+1,2,none⟩) rfl (.int .i64 X.ret.s)).setCell (p:=⟨w.heap.size+1+1,3,none⟩) rfl (.int .u32 X.ret.n)).setCell (p:=⟨w.heap.size+1+1,4,none⟩) rfl (.slice Ax X.mem.length cx)
  have h9:=heap_setCell_at (i:=4) (.slice Ax X.mem.length cx) (heap_setCell_at (i:=3) (.int .u32 X.ret.n) (heap_setCell_at (i:=2) (.int .i64 X.ret.s) (heap_setCell_at (i:=1) (.bool X.ret.p) (heap_setCell_at (i:=0) (.int .i64 X.kind) hrb))))
  obtain ⟨W9,hW9⟩:∃ W9,((((W7.setCell ⟨w.heap.size+1+1,0,none⟩ (.int .i64 X.kind)).setCell ⟨w.heap.size+1+1,1,none⟩ (.bool X.ret.p)).setCell ⟨w.heap.size+1+1,2,none⟩ (.int .i64 X.ret.s)).setCell ⟨w.heap.size+1+1,3,none⟩ (.int .u32 X.ret.n)).setCell ⟨w.heap.size+1+1,4,none⟩ (.slice Ax X.mem.length cx)=W9:=⟨_,rfl⟩
  rw [hW9] at hF9 h9
  rw [hW9]
  have q0:W9.cell? ⟨w.heap.size+1+1,0,none⟩=some (.int .i64 X.kind):=cell_of_row _ _ 0 _ _ _ h9
  have q1:W9.cell? ⟨w.heap.size+1+1,1,none⟩=some (.bool X.ret.p):=cell_of_row _ _ 1 _ _ _ h9
  have q2:W9.cell? ⟨w.heap.size+1+1,2,none⟩=some (.int .i64 X.ret.s):=cell_of_row _ _ 2 _ _ _ h9
  have q3:W9.cell? ⟨w.heap.size+1+1,3,none⟩=some (.int .u32 X.ret.n):=cell_of_row _ _ 3 _ _ _ h9
  have q4:W9.cell? ⟨w.heap.size+1+1,4,none⟩=some (.slice Ax X.mem.length cx):=cell_of_row _ _ 4 _ _ _ h9
  refine bodyPost_ret (v:=.tuple #[.agg #[.int .i64 X.kind,.bool X.ret.p,.int .i64 X.ret.s,.int .u32 X.ret.n,.slice Ax X.mem.length cx],.int .i64 NW,.int .i64 0]) (by simp [results,Tryz.results16,go_sem,q0,q1,q2,q3,q4]) rfl ?_
  have hw1:w.heap.size+3≤w1.heap.size:=by have:=HG1.out.size;have:=HWS.out;omega
  refine ⟨.inr ⟨HV.out,.slice Ax X.mem.length cx,D,?_,?_,fun k hk=>by have:=RD.out k hk;omega⟩,gr_frs (HG.out.trans (HG6.out.trans G7)) hF9 (fun k hk=>by omega)⟩
  ·rw [HX.out,HNW.out];rfl
  ·rw [HX.out];exact (R4.out.gr G7).frs hF9 fun k hk q=>by have:=RD.out k hk;omega
 ·clear C1
  go_enter Tryz.func16, Tryz.ntmps16
  go_wp2_with (go_at_call 13;(with_reducible refine CV.out.mono ?_);rintro e w1 ⟨rfl,g1⟩;have hrb1:=HRB.out w1 g1;have HG1:=Lib.hid g1;have HR1:=Lib.hid hrb1
               have e0:=cell_of_row _ _ 0 _ _ _ hrb1
               have e1:=cell_of_row _ _ 1 _ _ _ hrb1
               have e2:=cell_of_row _ _ 2 _ _ _ hrb1
               have e3:=cell_of_row _ _ 3 _ _ _ hrb1
               have e4:=cell_of_row _ _ 4 _ _ _ hrb1
               have z0:=frozen_of_row _ _ 0 _ _ hrb1
               have z1:=frozen_of_row _ _ 1 _ _ hrb1
               have z2:=frozen_of_row _ _ 2 _ _ hrb1
               have z3:=frozen_of_row _ _ 3 _ _ hrb1
               have z4:=frozen_of_row _ _ 4 _ _ hrb1
               clear hrb1 g1)
  have hF9:=(((((FrS.refl (·=w.heap.size+1+1) w1).setCell (p:=⟨w.heap.size+1+1,0,none⟩) rfl (.int .i64 0)).setCell (p:=⟨w.heap.size+1+1,1,none⟩) rfl (.bool false)).setCell (p:=⟨w.heap.size+1+1,2,none⟩) rfl (.int .i64 0)).setCell (p:=⟨w.heap.size+1+1,3,none⟩) rfl (.int .u32 0)).setCell (p:=⟨w.heap.size+1+1,4,none⟩) rfl (.slice none 0 0)
  have h9:=heap_setCell_at (i:=4) (.slice none 0 0) (heap_setCell_at (i:=3) (.int .u32 0) (heap_setCell_at (i:=2) (.int .i64 0) (heap_setCell_at (i:=1) (.bool false) (heap_setCell_at (i:=0) (.int .i64 0) HR1.out))))
  obtain ⟨W9,hW9⟩:∃ W9,((((w1.setCell ⟨w.heap.size+1+1,0,none⟩ (.int .i64 0)).setCell ⟨w.heap.size+1+1,1,none⟩ (.bool false)).setCell ⟨w.heap.size+1+1,2,none⟩ (.int .i64 0)).setCell ⟨w.heap.size+1+1,3,none⟩ (.int .u32 0)).setCell ⟨w.heap.size+1+1,4,none⟩ (.slice none 0 0)=W9:=⟨_,rfl⟩
  rw [hW9] at hF9 h9
  rw [hW9]
  have q0:W9.cell? ⟨w.heap.size+1+1,0,none⟩=some (.int .i64 0):=cell_of_row _ _ 0 _ _ _ h9
  have q1:W9.cell? ⟨w.heap.size+1+1,1,none⟩=some (.bool false):=cell_of_row _ _ 1 _ _ _ h9
  have q2:W9.cell? ⟨w.heap.size+1+1,2,none⟩=some (.int .i64 0):=cell_of_row _ _ 2 _ _ _ h9
  have q3:W9.cell? ⟨w.heap.size+1+1,3,none⟩=some (.int .u32 0):=cell_of_row _ _ 3 _ _ _ h9
  have q4:W9.cell? ⟨w.heap.size+1+1,4,none⟩=some (.slice none 0 0):=cell_of_row _ _ 4 _ _ _ h9
  refine bodyPost_ret (v:=.tuple #[.agg #[.int .i64 0,.bool false,.int .i64 0,.int .u32 0,.slice none 0 0],.int .i64 0,.int .i64 V]) (by simp [results,Tryz.results16,go_sem,q0,q1,q2,q3,q4]) rfl ?_
  exact ⟨.inl ⟨by rw [HV.out];exact hv0,by rw [HV.out];rfl⟩,gr_frs (HG.out.trans HG1.out) hF9 (fun k hk=>by omega)⟩
end Go.Proofs.YthfhamagopbgcaaGreat
namespace Go.Proofs.YthfhamagopbgcaaGreat
set_option linter.unusedSimpArgs false
set_option linter.unusedVariables false
open Go.RowKit Go.Shelf

theorem k_nice:Nice Rn.kFn where
 blocks:=by decide
 block:=by intro l hl;simp [Rn.kFn] at hl;subst hl;decide
 wf:=by
  intro l hl x hx
  simp [Rn.kFn] at hl;subst hl
  simp at hx
  rcases hx with rfl | rfl | rfl <;> (unfold WfI;refine ⟨by decide,?_,by decide,by decide⟩;intro z hz;simp [Rn.kAdd,Rn.kFreeze,Rn.kRet] at hz;omega)
 flags:=by
  intro l hl x hx
  simp [Rn.kFn] at hl;subst hl
  simp at hx
  rcases hx with rfl | rfl | rfl <;> decide
theorem k_im:Rn.Im Rn.kFn:=by
 intro l hl x hx
 simp [Rn.kFn] at hl;subst hl
 simp at hx
 rcases hx with rfl | rfl | rfl <;> decide
def kVal (w:World):Value:=.agg #[.slice (some ⟨w.heap.size,0,none⟩) 2 2,.int .i64 8,.slice none 0 0,.slice (some ⟨w.heap.size+1+1+1+1+1,0,none⟩) 1 1]
set_option maxRecDepth 100000 in
set_option maxHeartbeats 4000000 in
theorem k_fn (w:World) {W:World} (hW:(((((((w.alloc (.cells #[.int .i64 8,.int .i64 8] 3)).alloc (.cells #[.int .i64 0,.int .i64 1] 3)).alloc (.cells #[.int .i64 2] 3)).alloc (.cells #[.int .i64 3] 3)).alloc (.cells #[.int .i64 1,.int .i64 8,.int .i64 2,.slice (some ⟨w.heap.size+1,0,none⟩) 2 2,.int .u32 0,.slice none 0 0,.int .i64 21,.int .i64 8,.int .i64 0,.slice (some ⟨w.heap.size+1+1,0,none⟩) 1 1,.int .u32 0,.slice none 0 0,.int .i64 31,.int .i64 0,.int .i64 0,.slice (some ⟨w.heap.size+1+1+1,0,none⟩) 1 1,.int .u32 0,.slice none 0 0] 67)).alloc (.cells #[.slice (some ⟨w.heap.size+1+1+1+1,0,none⟩) 3 3] 68)).alloc (.cells #[.slice (some ⟨w.heap.size,0,none⟩) 2 2,.int .i64 8,.slice none 0 0,.slice (some ⟨w.heap.size+1+1+1+1+1,0,none⟩) 1 1] 25))=W):FnAt W.heap.size W (kVal w) Rn.kFn∧Gr w W∧W.heap.size=w.heap.size+7∧∀ o,W.cell? ⟨w.heap.size+1+1+1+1+1+1,o,none⟩=(#[.slice (some ⟨w.heap.size,0,none⟩) 2 2,.int .i64 8,.slice none 0 0,.slice (some ⟨w.heap.size+1+1+1+1+1,0,none⟩) 1 1]:Array Value)[o]?:=by
 have hB0:Gr w W:=by rw [← hW];exact ((((((((Gr.refl _).alloc _).alloc _).alloc _).alloc _).alloc _).alloc _).alloc _)
 have hWs:W.heap.size=w.heap.size+7:=by rw [← hW];simp
 have g1:Gr (w.alloc (.cells #[.int .i64 8,.int .i64 8] 3)) W:=by rw [← hW];exact (((((((Gr.refl _).alloc _).alloc _).alloc _).alloc _).alloc _).alloc _)
 have g2:Gr ((w.alloc (.cells #[.int .i64 8,.int .i64 8] 3)).alloc (.cells #[.int .i64 0,.int .i64 1] 3)) W:=by rw [← hW];exact ((((((Gr.refl _).alloc _).alloc _).alloc _).alloc _).alloc _)
 have g3:Gr (((w.alloc (.cells #[.int .i64 8,.int .i64 8] 3)).alloc (.cells #[.int .i64 0,.int .i64 1] 3)).alloc (.cells #[.int .i64 2] 3)) W:=by rw [← hW];exact (((((Gr.refl _).alloc _).alloc _).alloc _).alloc _)
 have g4:Gr ((((w.alloc (.cells #[.int .i64 8,.int .i64 8] 3)).alloc (.cells #[.int .i64 0,.int .i64 1] 3)).alloc (.cells #[.int .i64 2] 3)).alloc (.cells #[.int .i64 3] 3)) W:=by rw [← hW];exact ((((Gr.refl _).alloc _).alloc _).alloc _)
 have g5:Gr (((((w.alloc (.cells #[.int .i64 8,.int .i64 8] 3)).alloc (.cells #[.int .i64 0,.int .i64 1] 3)).alloc (.cells #[.int .i64 2] 3)).alloc (.cells #[.int .i64 3] 3)).alloc (.cells #[.int .i64 1,.int .i64 8,.int .i64 2,.slice (some ⟨w.heap.size+1,0,none⟩) 2 2,.int .u32 0,.slice none 0 0,.int .i64 21,.int .i64 8,.int .i64 0,.slice (some ⟨w.heap.size+1+1,0,none⟩) 1 1,.int .u32 0,.slice none 0 0,.int .i64 31,.int .i64 0,.int .i64 0,.slice (some ⟨w.heap.size+1+1+1,0,none⟩) 1 1,.int .u32 0,.slice none 0 0] 67)) W:=by rw [← hW];exact (((Gr.refl _).alloc _).alloc _)
 have g6:Gr ((((((w.alloc (.cells #[.int .i64 8,.int .i64 8] 3)).alloc (.cells #[.int .i64 0,.int .i64 1] 3)).alloc (.cells #[.int .i64 2] 3)).alloc (.cells #[.int .i64 3] 3)).alloc (.cells #[.int .i64 1,.int .i64 8,.int .i64 2,.slice (some ⟨w.heap.size+1,0,none⟩) 2 2,.int .u32 0,.slice none 0 0,.int .i64 21,.int .i64 8,.int .i64 0,.slice (some ⟨w.heap.size+1+1,0,none⟩) 1 1,.int .u32 0,.slice none 0 0,.int .i64 31,.int .i64 0,.int .i64 0,.slice (some ⟨w.heap.size+1+1+1,0,none⟩) 1 1,.int .u32 0,.slice none 0 0] 67)).alloc (.cells #[.slice (some ⟨w.heap.size+1+1+1+1,0,none⟩) 3 3] 68)) W:=by rw [← hW];exact ((Gr.refl _).alloc _)
 have g7:Gr (((((((w.alloc (.cells #[.int .i64 8,.int .i64 8] 3)).alloc (.cells #[.int .i64 0,.int .i64 1] 3)).alloc (.cells #[.int .i64 2] 3)).alloc (.cells #[.int .i64 3] 3)).alloc (.cells #[.int .i64 1,.int .i64 8,.int .i64 2,.slice (some ⟨w.heap.size+1,0,none⟩) 2 2,.int .u32 0,.slice none 0 0,.int .i64 21,.int .i64 8,.int .i64 0,.slice (some ⟨w.heap.size+1+1,0,none⟩) 1 1,.int .u32 0,.slice none 0 0,.int .i64 31,.int .i64 0,.int .i64 0,.slice (some ⟨w.heap.size+1+1+1,0,none⟩) 1 1,.int .u32 0,.slice none 0 0] 67)).alloc (.cells #[.slice (some ⟨w.heap.size+1+1+1+1,0,none⟩) 3 3] 68)).alloc (.cells #[.slice (some ⟨w.heap.size,0,none⟩) 2 2,.int .i64 8,.slice none 0 0,.slice (some ⟨w.heap.size+1+1+1+1+1,0,none⟩) 1 1] 25)) W:=by rw [hW];exact Gr.refl _
 have c1:∀ o,W.cell? ⟨w.heap.size,o,none⟩=(#[.int .i64 8,.int .i64 8]:Array Value)[o]?:=fun o=>cell_box _ _ o g1 (by simp)
 have c2:∀ o,W.cell? ⟨w.heap.size+1,o,none⟩=(#[.int .i64 0,.int .i64 1]:Array Value)[o]?:=fun o=>cell_box _ _ o g2 (by simp)
 have c3:∀ o,W.cell? ⟨w.heap.size+1+1,o,none⟩=(#[.int .i64 2]:Array Value)[o]?:=fun o=>cell_box _ _ o g3 (by simp)
 have c4:∀ o,W.cell? ⟨w.heap.size+1+1+1,o,none⟩=(#[.int .i64 3]:Array Value)[o]?:=fun o=>cell_box _ _ o g4 (by simp)
 have c5:∀ o,W.cell? ⟨w.heap.size+1+1+1+1,o,none⟩=(#[.int .i64 1,.int .i64 8,.int .i64 2,.slice (some ⟨w.heap.size+1,0,none⟩) 2 2,.int .u32 0,.slice none 0 0,.int .i64 21,.int .i64 8,.int .i64 0,.slice (some ⟨w.heap.size+1+1,0,none⟩) 1 1,.int .u32 0,.slice none 0 0,.int .i64 31,.int .i64 0,.int .i64 0,.slice (some ⟨w.heap.size+1+1+1,0,none⟩) 1 1,.int .u32 0,.slice none 0 0]:Array Value)[o]?:=fun o=>cell_box _ _ o g5 (by simp)
 have c6:∀ o,W.cell? ⟨w.heap.size+1+1+1+1+1,o,none⟩=(#[.slice (some ⟨w.heap.size+1+1+1+1,0,none⟩) 3 3]:Array Value)[o]?:=fun o=>cell_box _ _ o g6 (by simp)
 have c7:∀ o,W.cell? ⟨w.heap.size+1+1+1+1+1+1,o,none⟩=(#[.slice (some ⟨w.heap.size,0,none⟩) 2 2,.int .i64 8,.slice none 0 0,.slice (some ⟨w.heap.size+1+1+1+1+1,0,none⟩) 1 1]:Array Value)[o]?:=fun o=>cell_box _ _ o g7 (by simp)
 have e0:IntsAt W.heap.size W (.slice none 0 0) []:=⟨none,0,rfl,Nat.le_refl _,by simp,fun h=>by simp at h⟩
 have e1:IntsAt W.heap.size W (.slice (some ⟨w.heap.size,0,none⟩) 2 2) [8,8]:=by
  refine ⟨_,_,rfl,Nat.le_refl _,by simp,fun _=>⟨_,_,rfl,by omega,fun j y hy=>?_⟩⟩
  rw [Nat.zero_add,c1]
  match j,hy with
  | 0,hy=>simp at hy;subst hy;rfl
  | 1,hy=>simp at hy;subst hy;rfl
 have e2:IntsAt W.heap.size W (.slice (some ⟨w.heap.size+1,0,none⟩) 2 2) [0,1]:=by
  refine ⟨_,_,rfl,Nat.le_refl _,by simp,fun _=>⟨_,_,rfl,by omega,fun j y hy=>?_⟩⟩
  rw [Nat.zero_add,c2]
  match j,hy with
  | 0,hy=>simp at hy;subst hy;rfl
  | 1,hy=>simp at hy;subst hy;rfl
 have e3:IntsAt W.heap.size W (.slice (some ⟨w.heap.size+1+1,0,none⟩) 1 1) [2]:=by
  refine ⟨_,_,rfl,Nat.le_refl _,by simp,fun _=>⟨_,_,rfl,by omega,fun j y hy=>?_⟩⟩
  rw [Nat.zero_add,c3]
  match j,hy with
  | 0,hy=>simp at hy;subst hy;rfl
 have e4:IntsAt W.heap.size W (.slice (some ⟨w.heap.size+1+1+1,0,none⟩) 1 1) [3]:=by
  refine ⟨_,_,rfl,Nat.le_refl _,by simp,fun _=>⟨_,_,rfl,by omega,fun j y hy=>?_⟩⟩
  rw [Nat.zero_add,c4]
  match j,hy with
  | 0,hy=>simp at hy;subst hy;rfl
 have e5:BlkAt W.heap.size W (.slice (some ⟨w.heap.size+1+1+1+1,0,none⟩) 3 3) [Rn.kAdd,Rn.kFreeze,Rn.kRet]:=by
  refine ⟨_,_,rfl,Nat.le_refl _,by simp,fun _=>⟨_,_,rfl,by omega,fun j y hy=>?_⟩⟩
  match j,hy with
  | 0,hy=>simp at hy;subst hy;exact ⟨_,_,c5 0,c5 1,c5 2,c5 3,c5 4,c5 5,e2,e0⟩
  | 1,hy=>simp at hy;subst hy;exact ⟨_,_,c5 6,c5 7,c5 8,c5 9,c5 10,c5 11,e3,e0⟩
  | 2,hy=>simp at hy;subst hy;exact ⟨_,_,c5 12,c5 13,c5 14,c5 15,c5 16,c5 17,e4,e0⟩
 have e6:BlksAt W.heap.size W (.slice (some ⟨w.heap.size+1+1+1+1+1,0,none⟩) 1 1) [[Rn.kAdd,Rn.kFreeze,Rn.kRet]]:=by
  refine ⟨_,_,rfl,Nat.le_refl _,by simp,fun _=>⟨_,_,rfl,by omega,fun j y hy=>?_⟩⟩
  match j,hy with
  | 0,hy=>simp at hy;subst hy;exact ⟨_,c6 0,e5⟩
 exact ⟨⟨_,_,_,rfl,e1,e0,e6⟩,hB0,hWs,c7⟩
theorem k_u32 {w W:World} {b:Nat} {t:TypeId} {zs:List Int} (h:W.heap[b]?=some (.cells (zs.map (Value.int .u32)).toArray t (0,0))) (hn:zs.length≤1000):U32At W.heap.size W (.slice (some ⟨b,0,none⟩) zs.length zs.length) zs :=
 ⟨_,_,rfl,Nat.le_refl _,by omega,fun _=>⟨_,_,rfl,lt_of_heap h,fun j z hz=>by rw [cell_of_row _ _ _ _ _ _ h,Nat.zero_add];simp [hz]⟩⟩
set_option maxRecDepth 100000 in
set_option maxHeartbeats 4000000 in
theorem known5_any (w:World):Calls Tryz.prog 12 #[] w fun e w'=>e=.returned (.bool true)∧Gr w w':=by
 obtain ⟨W,hW⟩:∃ W,(((((((w.alloc (.cells #[.int .i64 8,.int .i64 8] 3)).alloc (.cells #[.int .i64 0,.int .i64 1] 3)).alloc (.cells #[.int .i64 2] 3)).alloc (.cells #[.int .i64 3] 3)).alloc (.cells #[.int .i64 1,.int .i64 8,.int .i64 2,.slice (some ⟨w.heap.size+1,0,none⟩) 2 2,.int .u32 0,.slice none 0 0,.int .i64 21,.int .i64 8,.int .i64 0,.slice (some ⟨w.heap.size+1+1,0,none⟩) 1 1,.int .u32 0,.slice none 0 0,.int .i64 31,.int .i64 0,.int .i64 0,.slice (some ⟨w.heap.size+1+1+1,0,none⟩) 1 1,.int .u32 0,.slice none 0 0] 67)).alloc (.cells #[.slice (some ⟨w.heap.size+1+1+1+1,0,none⟩) 3 3] 68)).alloc (.cells #[.slice (some ⟨w.heap.size,0,none⟩) 2 2,.int .i64 8,.slice none 0 0,.slice (some ⟨w.heap.size+1+1+1+1+1,0,none⟩) 1 1] 25))=W:=⟨_,rfl⟩
 obtain ⟨hF,hG,hWs,hc⟩:=k_fn w hW
 have HF:=Lib.hid hF
 have HG:=Lib.hid hG
 have HC:Hid (∀ wr,Gr W wr→∀ o,wr.cell? ⟨w.heap.size+1+1+1+1+1+1,o,none⟩=(#[.slice (some ⟨w.heap.size,0,none⟩) 2 2,.int .i64 8,.slice none 0 0,.slice (some ⟨w.heap.size+1+1+1+1+1,0,none⟩) 1 1]:Array Value)[o]?):=fun wr g o=>(g.cell _ _ (by omega)).trans (hc o)
 have HA:Hid (∀ W2,Gr W W2→W2.heap[W.heap.size]?=some (.cells #[.int .u32 127,.int .u32 1] 35 (0,0))→Calls Tryz.prog 20 #[kVal w,.agg #[.slice (some ⟨W.heap.size,0,none⟩) 2 2,.slice none 0 0]] W2 fun e w'=>∃ A c,e=.returned (.tuple #[.slice A (256:Nat) c,.int .i64 0])∧Gr W2 w'):=fun W2 g h=>by
  refine (all_any (f:=Rn.kFn) (i:=Rn.kInp) ((HF.out.below g).mono g.size) k_nice k_im (k_u32 (zs:=[127,1]) (w:=w) h (by decide)) ⟨none,0,rfl,Nat.le_refl _,by decide,fun h=>absurd h (by decide)⟩ (by decide)).mono ?_
  rintro e w' ⟨h1,h2⟩
  rcases h1 with ⟨q,-⟩ | ⟨-,q,-⟩ | ⟨-,outs,q,-,-,v,D,vms,rfl,ho⟩
  ·exact absurd Rn.k_valid q
  ·have:=Rn.k_all
   rw [q] at this
   cases this
  ·have hl:=Rn.k_all
   rw [q] at hl
   have hl':outs.length=256:=by simpa using hl
   obtain ⟨A,c,rfl,-⟩:=own_form ho.own
   rw [hl']
   exact ⟨A,c,rfl,h2⟩
 have HR:Hid (∀ W5 b1 b2,Gr W W5→W5.heap[b1]?=some (.cells #[.int .u32 127,.int .u32 1] 35 (0,0))→W5.heap[b2]?=some (.cells #[.int .u32 258] 35 (0,0))→Calls Tryz.prog 16 #[kVal w,.agg #[.slice (some ⟨b1,0,none⟩) 2 2,.slice none 0 0],.slice (some ⟨b2,0,none⟩) 1 1] W5 fun e w'=>∃ A c,e=.returned (.tuple #[.agg #[.int .i64 0,.bool false,.int .i64 0,.int .u32 2,.slice A (0:Nat) c],.int .i64 1,.int .i64 0])∧Gr W5 w'):=fun W5 b1 b2 g h h'=>by
  refine (run_any (f:=Rn.kFn) (i:=Rn.kInp) (picks:=[258]) ((HF.out.below g).mono g.size) k_nice k_im (k_u32 (zs:=[127,1]) (w:=w) h (by decide)) ⟨none,0,rfl,Nat.le_refl _,by decide,fun h=>absurd h (by decide)⟩ (by decide) (k_u32 (zs:=[258]) (w:=w) h' (by decide)) (by decide)).mono ?_
  rintro e w' ⟨h1,h2⟩
  rcases h1 with ⟨q,-⟩ | ⟨-,vx,D,rfl,hk,-⟩
  ·exact absurd Rn.k_valid q
  ·obtain ⟨r1,r2⟩:=Rn.k_run
   have r3:Rn.wids Rn.kFn Rn.kInp [258]=[8]:=r2
   obtain ⟨-,⟨A,c,rfl⟩,-⟩:=hk
   rw [r1,r3]
   exact ⟨A,c,rfl,h2⟩
 unfold kVal at HA HR
 obtain ⟨k0,k1,k2,k3⟩:=And.intro (HC.out W (Gr.refl _) 0) (And.intro (HC.out W (Gr.refl _) 1) (And.intro (HC.out W (Gr.refl _) 2) (HC.out W (Gr.refl _) 3)))
 clear hF hG hWs hc
 go_enter Tryz.func12, Tryz.ntmps12
 go_wp2_with (first
   | (go_at_call 20
      obtain ⟨W2,hW2⟩:∃ W2,W.alloc (.cells #[.int .u32 127,.int .u32 1] 35)=W2:=⟨_,rfl⟩
      have g2:Gr W W2:=by rw [← hW2];exact (Gr.refl _).alloc _
      have h2:W2.heap[W.heap.size]?=some (.cells #[.int .u32 127,.int .u32 1] 35 (0,0)):=by rw [← hW2];exact heap_alloc_new _ _
      rw [hW2]
      have CA:=HA.out W2 g2 h2
      (with_reducible refine CA.mono ?_)
      rintro e w3 ⟨A,c,rfl,g3⟩
      have HG3:=Lib.hid (g2.trans g3)
      have j0:=HC.out w3 HG3.out 0
      have j1:=HC.out w3 HG3.out 1
      have j2:=HC.out w3 HG3.out 2
      have j3:=HC.out w3 HG3.out 3
      clear g2 h2 CA g3 hW2)
   | (go_at_call 16
      obtain ⟨W4,hW4⟩:∃ W4,w3.alloc (.cells #[.int .u32 127,.int .u32 1] 35)=W4:=⟨_,rfl⟩
      obtain ⟨W5,hW5⟩:∃ W5,W4.alloc (.cells #[.int .u32 258] 35)=W5:=⟨_,rfl⟩
      have g4:Gr w3 W4:=by rw [← hW4];exact (Gr.refl _).alloc _
      have g5:Gr W4 W5:=by rw [← hW5];exact (Gr.refl _).alloc _
      have s4:W4.heap.size=w3.heap.size+1:=by rw [← hW4];simp
      have h1:W5.heap[w3.heap.size]?=some (.cells #[.int .u32 127,.int .u32 1] 35 (0,0)):=(g5.heap _ (by omega)).trans (by rw [← hW4];exact heap_alloc_new _ _)
      have h2:W5.heap[w3.heap.size+1]?=some (.cells #[.int .u32 258] 35 (0,0)):=by rw [← hW5,← s4];exact heap_alloc_new _ _
      rw [hW4,hW5]
      have CR:=HR.out W5 _ _ ((HG3.out.trans g4).trans g5) h1 h2
      (with_reducible refine CR.mono ?_)
      rintro e w6 ⟨A6,c6,rfl,g6⟩
      have HG6:=Lib.hid (((HG3.out.trans g4).trans g5).trans g6)
      clear g4 g5 h1 h2 CR g6 hW4 hW5 s4))
 go_ret
 first
  | exact ⟨rfl,HG.out.trans (HG6.out.alloc _)⟩
  | exact ⟨rfl,HG.out.trans ((HG6.out.alloc _).drew)⟩
  | exact ⟨rfl,HG.out.trans ((HG6.out.alloc _).drewN _)⟩
end Go.Proofs.YthfhamagopbgcaaGreat

/- The program's run: plain instructions: constants, addresses, moved pointers. -/
import Derived.Test.YthfhamagopbgcaaGreatG36
import Derived.Deep.RegionWith
import Derived.Deep.DeepCutAuto
import Derived.Deep.CutRange
import Derived.Deep.CutBlock
namespace Go.Proofs.YthfhamagopbgcaaGreat
set_option linter.unusedSimpArgs false
set_option linter.unusedVariables false
open Go.RowKit

section
variable {c:Cfg} {w:World} {s:Rn.St} {b frm:Int} {vt:Value}
theorem plain_const (x:Ins) (va vt' vl:Value) (o:x.op=0) (p:Value):Calls Tryz.prog 164 #[p,insVal x va vt',vl] w fun e w'=>e=.returned (vI (Rn.word x.imm))∧Gr w w':=by
 unfold insVal
 rw [o]
 go_enter Tryz.func164, Tryz.ntmps164
 go_wp2
 go_ret
 exact ⟨rfl,(Gr.refl w).alloc _⟩
theorem plain_addr (x:Ins) (va vt' vl:Value) (o:x.op=24) (p:Value) (h0:0≤x.imm) (h1:x.imm≤1000000):Calls Tryz.prog 164 #[p,insVal x va vt',vl] w fun e w'=>e=.returned (vI ⟨false,x.imm+1,0⟩)∧Gr w w':=by
 unfold insVal
 rw [o]
 go_enter Tryz.func164, Tryz.ntmps164
 go_wp2
 go_ret
 exact ⟨rfl,(Gr.refl w).alloc _⟩
set_option maxRecDepth 100000 in
set_option maxHeartbeats 600000 in
theorem plain_gep (h:PS c w s b frm vt) (hf:VFn c.f) (x:Ins) (va vt':Value) (hx:IntsAt c.n₀ w va x.args) (vl:Value) (l0 l1:Rn.V) (hl:LAt w vl [l0,l1]) (o:x.op=25) (a d:Int) (ha:x.args=[a,d]) (hfl:x.flags=0∨x.flags=8) (hk:Wd.Wid (Ref.kind c.f d)) (h0:Rn.VOK c.f 33 l0) (hp:l0.p=false) (h1:Wd.Word (Ref.kind c.f d) l1.n) :
  Calls Tryz.prog 164 #[.pointer (some ⟨c.Bs,0,none⟩),insVal x va vt',vl] w fun e w'=>e=.returned (vI (Rn.gep c.f.slots x.flags (Ref.kind c.f d) l0 l1))∧Gr w w':=by
 obtain ⟨W,hW⟩:∃ W,xbox w x va vt'=W:=⟨_,rfl⟩
 have hB0:Gr w W:=by rw [← hW];exact (Gr.refl w).alloc _
 have g0:Gr (xbox w x va vt') W:=by rw [hW];exact Gr.refl _
 have hca:=Rn.kind_pos (f:=c.f) (v:=d) (by have:=hk.1;omega)
 have CK:=Lib.hid fun (u:GrW W)=>rkind_any (h.gr (hB0.trans u.gr)) hf d hca.1 hca.2
 obtain ⟨k,hke⟩:∃ k,Ref.kind c.f d=k:=⟨_,rfl⟩
 rw [hke] at CK hk h1 ⊢
 have CC:=Lib.hid fun (w1:World)=>bSigned_any k l1.n w1 hk h1
 have sr:=Wd.sg_range hk h1
 have sb:=Ops.sg_bd hk h1
 obtain ⟨B,hB⟩:∃ B,Wd.sg k l1.n=B:=⟨_,rfl⟩
 rw [hB] at CC sr sb
 obtain ⟨p1,p2,p3,p4⟩:=h0.ptr hp
 obtain ⟨n,hn⟩:∃ n,c.f.slots[(l0.s-1).toNat]?=some n:=⟨_,List.getElem?_eq_getElem (by omega)⟩
 have hn8:1≤n∧n≤8:=by
  have:=List.all_eq_true.1 hf.val.head.2 n (List.mem_of_getElem? hn)
  unfold Ref.isSlot at this
  simp at this
  omega
 obtain ⟨Z,hZ⟩:∃ Z,(l0.n+B) % 4294967296=Z:=⟨_,rfl⟩
 have HR:Hid (Rn.gep c.f.slots x.flags k l0 l1=if x.flags=8∧n<Z then Rn.poison else ⟨false,l0.s,Z⟩):=by
  show _=_
  unfold Rn.gep
  rw [hB,hZ,List.getD_eq_getElem?_getD,hn];rfl
 have hfn:=h.fn
 obtain ⟨vp',vs',vb',e,-,hs,-⟩:=hfn
 injection e with e
 injection e with e
 injection e with e1 e
 injection e with _ e
 injection e with e3 e
 have cs:w.cell? ⟨c.Bs,2,none⟩=some c.vs:=h.cell 2
 rw [e3] at cs
 obtain ⟨As,cs',rfl,s1,s2,s3⟩:=hs
 obtain ⟨bS,oS,rfl,hbS,s4⟩:=s3 (by omega)
 have hbSw:bS<w.heap.size:=by have:=h.n₀;omega
 obtain ⟨j,hj⟩:=Int.eq_ofNat_of_zero_le (show 0≤l0.s-1 by omega)
 have hj2:(l0.s-1).toNat=j:=by omega
 rw [hj2] at hn
 have cn:=s4 j n hn
 have hjl:j<c.f.slots.length:=by omega
 have hjl2:(j:Int)<c.f.slots.length:=by omega
 have hBs:=lt_of_heap h.st
 obtain ⟨bl,rfl,hbl⟩:=hl
 obtain ⟨Aa,ca,rfl,a1,a2,a3⟩:=hx
 rw [ha] at a1 a3
 obtain ⟨ba,oa,rfl,hba,a4⟩:=a3 (by simp)
 have hbaw:ba<w.heap.size:=by have:=h.n₀;omega
 have c1:=a4 1 d rfl
 have X:=fun (u:GrW W)=>xbox_cells (g0.trans u.gr)
 have V0:∀ u:GrW W,u.val.cell? ⟨w.heap.size,0,none⟩=some (.int .i64 25):=fun u=>by rw [← o];exact (X u).1
 have V0':W.cell? ⟨w.heap.size,0,none⟩=some (.int .i64 25):=V0 ⟨W,Gr.refl _⟩
 have V3:∀ u:GrW W,u.val.cell? ⟨w.heap.size,3,none⟩=some (.slice (some ⟨ba,oa,none⟩) 2 ca):=fun u=>by have:=(X u).2.2.2.1;rw [ha] at this;exact this
 have A1:∀ u:GrW W,u.val.cell? ⟨ba,oa+1,none⟩=some (.int .i64 d):=fun u=>((hB0.trans u.gr).cell _ _ hbaw).trans c1
 have L1:∀ u:GrW W,u.val.cell? ⟨bl,5,none⟩=some (.int .u32 l1.n):=fun u=>(LAt.cells (((hB0.trans u.gr).heap _ (lt_of_heap hbl)).trans hbl) (k:=1) rfl).2.2
 have HF2:Hid (∀ w1,Gr W w1→(w1.cell? ⟨bl,1,none⟩=some (.int .i64 l0.s)∧w1.cell? ⟨bl,2,none⟩=some (.int .u32 l0.n))∧w1.cell? ⟨w.heap.size,2,none⟩=some (.int .i64 x.flags)∧w1.cell? ⟨c.Bs,2,none⟩=some (.slice (some ⟨bS,oS,none⟩) c.f.slots.length cs')∧w1.cell? ⟨bS,oS+j,none⟩=some (.int .i64 n)∧(bl<w1.heap.size∧w.heap.size<w1.heap.size∧c.Bs<w1.heap.size∧bS<w1.heap.size)):=fun w1 g=>by
  have q:=LAt.cells (((hB0.trans g).heap _ (lt_of_heap hbl)).trans hbl) (k:=0) rfl
  have hsz:=g.size
  have hWs:w.heap.size<W.heap.size:=by rw [← hW];unfold xbox;simp
  have:=lt_of_heap hbl
  exact ⟨⟨q.2.1,q.2.2⟩,(xbox_cells (g0.trans g)).2.2.1,((hB0.trans g).cell _ _ hBs).trans cs,((hB0.trans g).cell _ _ hbSw).trans cn,by omega,by omega,by omega,by omega⟩
 have HG:=Lib.hid hB0
 have HZ:=Lib.hid hZ
 unfold xbox at hW
 rw [ha,show [a,d].length=2 from rfl] at hW ⊢
 unfold insVal
 rw [o] at hW ⊢
 obtain ⟨n1,n2⟩:=hn8
 obtain ⟨z0,z1⟩:0≤Z∧Z<4294967296:=by rw [← hZ];exact ⟨Int.emod_nonneg _ (by decide),Int.emod_lt_of_pos _ (by decide)⟩
 clear h hf hke hk h0 hp h1 a3 a4 c1 hbl X g0 hB0 hB sr s3 s4 cn cs e1 e e3 hn hj2 hBs hbSw hbaw
 have e2:(l0.n+B % 4294967296) % 4294967296=Z:=by rw [← hZ];omega
 have E3:Hid (IntKind.u32.wrap (l0.n+IntKind.u32.wrap B)=Z):=by show _=_;rw [wrap_u32,wrap_u32];exact e2
 clear e2
 have WS:Hid (IntKind.i64.wrap (l0.s-1)=(j:Int)):=by show _=_;rw [IntWalk.i64_in _ (by omega)];exact hj
 have WN:Hid (IntKind.u32.wrap n=n):=by show _=_;rw [wrap_u32];omega
 go_enter Tryz.func164, Tryz.ntmps164
 go_wp2
 refine wp_region_quietGr (by kernel_rfl) (by kernel_rfl) ?_
 repeat (go_big_quiet_step ((rename_i u;first | (go_at_call 161;exact grW_call u (CK.out u)) | (go_at_call 190;exact grW_call u (CC.out u.val)))))
 refine wpQuiet_nil ?_
 intro w9 hw9
 obtain ⟨u9,rfl⟩:=hw9
 obtain ⟨⟨k0,k1⟩,k2,k3,k4,r1,r2,r3,r4⟩:=HF2.out u9.val u9.gr
 have HG9:=Lib.hid (HG.out.trans u9.gr)
 have HF3:Hid (∀ w1,Gr u9.val w1→w1.cell? ⟨w.heap.size,2,none⟩=some (.int .i64 x.flags)∧w1.cell? ⟨c.Bs,2,none⟩=some (.slice (some ⟨bS,oS,none⟩) c.f.slots.length cs')∧w1.cell? ⟨bS,oS+j,none⟩=some (.int .i64 n)):=fun w1 g=>by
  obtain ⟨-,q2,q3,q4,-⟩:=HF2.out w1 (u9.gr.trans g)
  exact ⟨q2,q3,q4⟩
 obtain ⟨V,hV⟩:∃ V,u9.val=V:=⟨_,rfl⟩
 rw [hV] at k0 k1 k2 k3 k4 r1 r2 r3 r4 HG9 HF3 ⊢
 clear V0 V0' V3 A1 L1 HF2 CK CC hV u9 hW
 go_wp2
 go_upto_region 20 with (fail)
 go_cut [12] (fun s12 wx=>∃ C:Nat,s12=.pointer (some ⟨C,0,none⟩)∧Hid (Gr V wx∧wx.cell? ⟨C,0,none⟩=some (.bool false)∧wx.cell? ⟨C,1,none⟩=some (.int .i64 l0.s)∧wx.cell? ⟨C,2,none⟩=some (.int .u32 Z)))
 case first =>
  go_region_with (fail)
  all_goals go_wp2
  all_goals go_meet
  all_goals exact ⟨_,rfl,⟨by repeat (first | with_reducible exact Gr.refl _ | with_reducible refine Gr.drew ?_ | with_reducible refine Gr.alloc ?_ _ | with_reducible refine Gr.setCell ?_ (Nat.le_refl _) _),by simp,by simp,by simp;exact E3.out⟩⟩
 case rest =>
  obtain ⟨C,rfl,hC⟩:=hcut
  obtain ⟨gV,m0,m1,m2⟩:=hC.out
  obtain ⟨q2,q3,q4⟩:=HF3.out _ gV
  have HGV:=Lib.hid gV
  have ws:=WS.out
  have wn:=WN.out
  have d0:(bits .and .i64 0 8 != 0)=false:=by decide
  have d8:(bits .and .i64 8 8 != 0)=true:=by decide
  clear gV k2 k3 k4 k0 k1 HF3 r1 r2 r3 r4
  rcases hfl with hfl | hfl
  ·have HE:Hid (Rn.gep c.f.slots x.flags k l0 l1=⟨false,l0.s,Z⟩):=by show _=_;rw [HR.out,if_neg (by omega)]
   rw [hfl] at q2
   clear hfl
   go_wp2
   go_quiet ((fail))
   all_goals go_wp2
   all_goals go_ret
   all_goals exact ⟨by rw [HE.out];rfl,(HG9.out.trans HGV.out).drewN _⟩
  ·by_cases hnz:n<Z
   ·have HE:Hid (Rn.gep c.f.slots x.flags k l0 l1=Rn.poison):=by show _=_;rw [HR.out,if_pos ⟨hfl,hnz⟩]
    rw [hfl] at q2
    clear hfl
    go_wp2
    go_quiet ((fail))
    all_goals go_wp2_with (go_at_call 162;(with_reducible refine (rpoison_any _).mono ?_);rintro e w8 ⟨rfl,g8⟩)
    all_goals go_ret
    all_goals exact ⟨by rw [HE.out];rfl,((HG9.out.trans HGV.out).drewN _).trans g8⟩
   ·have HE:Hid (Rn.gep c.f.slots x.flags k l0 l1=⟨false,l0.s,Z⟩):=by show _=_;rw [HR.out,if_neg (by omega)]
    rw [hfl] at q2
    clear hfl
    go_wp2
    go_quiet ((fail))
    all_goals go_wp2
    all_goals go_ret
    all_goals exact ⟨by rw [HE.out];rfl,(HG9.out.trans HGV.out).drewN _⟩
end
end Go.Proofs.YthfhamagopbgcaaGreat

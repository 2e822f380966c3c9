/- Parts: Cn Cg Cx Aj Iv Rt. -/
import Derived.Test.YthfhamagopbgcaaGreatG32
import Derived.Test.YthfhamagopbgcaaGreatG41
import Derived.Test.YthfhamagopbgcaaGreatG36
import Derived.Test.YthfhamagopbgcaaGreatG21
import Derived.Test.YthfhamagopbgcaaGreatG25
namespace Go.Proofs.YthfhamagopbgcaaGreat
set_option linter.unusedSimpArgs false
set_option linter.unusedVariables false
open Go.RowKit

theorem own_take {B:Nat} {e:TypeId} {w:World} {A:Option Addr} {n c k:Nat} {xs:List Value} (h:Own1 B e w (.slice A n c) xs) (hk:k≤xs.length):Own1 B e w (.slice A k c) (xs.take k):=by
 obtain ⟨h1,h2⟩:=h
 have hl:(xs.take k).length=k:=by rw [List.length_take];omega
 refine ⟨by omega,?_⟩
 rcases h2 with ⟨hv,h0⟩ | ⟨g,cap,cur,hv,hb,hg,hc,hm,hs,ht⟩
 ·injection hv with e1 e2 e3
  subst e1;subst e3
  exact .inl ⟨by rw [show k=0 by omega],by rw [hl];omega⟩
 ·injection hv with e1 e2 e3
  subst e1;subst e3
  refine .inr ⟨g,c,cur,by rw [hl],hb,hg,by rw [hl];omega,hm,hs,?_⟩
  rw [Nat.mul_one] at ht
  have e:xs.take k=(cur.toList.take xs.length).take k:=by rw [ht]
  rw [hl,Nat.mul_one,e,List.take_take,Nat.min_eq_left hk]
theorem own_set {B:Nat} {e:TypeId} {w:World} {b n c j:Nat} {xs:List Value} (h:Own1 B e w (.slice (some ⟨b,0,none⟩) n c) xs) (hj:j<xs.length) (y:Value):Own1 B e (w.setCell ⟨b,j,none⟩ y) (.slice (some ⟨b,0,none⟩) n c) (xs.set j y):=by
 obtain ⟨h1,h2⟩:=h
 refine ⟨by rw [List.length_set];omega,?_⟩
 rcases h2 with ⟨hv,h0⟩ | ⟨g,cap,cur,hv,hb,hg,hc,hm,hs,ht⟩
 ·cases hv
 ·injection hv with e1 e2 e3
  have e1':b=g:=by injection e1 with e1;injection e1
  subst e1';subst e3
  refine .inr ⟨b,c,cur.setIfInBounds j y,by rw [List.length_set,← e2],hb,heap_setCell_at y hg,by rw [List.length_set];omega,hm,by simpa using hs,?_⟩
  rw [Nat.mul_one] at ht
  have e:xs.set j y=(cur.toList.take xs.length).set j y:=by rw [ht]
  rw [List.length_set,Nat.mul_one,Array.toList_setIfInBounds,e,List.take_set]
namespace Rn
theorem bump_take (p:List Int) (k:Nat) (h:k<p.length):(p.set k (p.getD k 0+1)).take (k+1)=bump p k:=by
 unfold bump
 rw [List.take_set,List.take_add_one,List.getElem?_eq_getElem h]
 have e:(p.take k).length=k:=by rw [List.length_take];omega
 rw [List.set_append]
 rw [if_neg (by omega),e,Nat.sub_self]
 rfl
end Rn
set_option maxRecDepth 100000 in
set_option maxHeartbeats 2000000 in
theorem exnext_any {B Bg:Nat} {w:World} {p ws:List Int} {u:Nat} {vp vw:Value} (h:ExAt B Bg w p ws u vp vw) (hl:ws.length=p.length) (hp:p.length≤1000000) (hw:∀ z ∈ ws,Wd.Wid z) (hr:∀ z ∈ p,0≤z∧z<4294967296)
  {R:Option Nat} (hR:Rn.nextK p ws p.length=R) :
  Calls Tryz.prog 52 #[.pointer (some ⟨Bg,0,none⟩)] w fun e w'=>e=.returned (.bool R.isSome)∧FrS (exO Bg vp vw) w w' ∧
   (R=none→ExAt B Bg w' p ws 0 vp vw)∧∀ k,R=some k→∃ vp' vw',ExAt B Bg w' (Rn.bump p k) (ws.take (k+1)) 0 vp' vw'∧∀ k,exO Bg vp' vw' k→exO Bg vp vw k:=by
 have hpf:=h.pth.form
 obtain ⟨A,c,rfl⟩:=hpf
 have hwf:=h.wid.form
 obtain ⟨A',c',rfl⟩:=hwf
 rw [List.length_map] at h
 rw [List.length_map] at h
 rw [List.length_map,List.length_map]
 have f2:w.frozen? ⟨Bg,2,none⟩=false:=frozen_of_row _ _ 2 _ _ h.st
 have g2:w.cell? ⟨Bg,2,none⟩=some (.int .i64 u):=cell_of_row _ _ 2 _ _ _ h.st
 obtain ⟨W,hW⟩:∃ W,w.setCell ⟨Bg,2,none⟩ (.int .i64 0)=W:=⟨_,rfl⟩
 have hF:FrS (fun k=>k=Bg) w W:=by rw [← hW];exact (FrS.refl (fun k=>k=Bg) w).setCell (p:=⟨Bg,2,none⟩) rfl _
 have h0:ExAt B Bg W p ws 0 (.slice A p.length c) (.slice A' ws.length c'):=by rw [← hW];exact h.used 0
 have c0:W.cell? ⟨Bg,0,none⟩=some (.slice A p.length c):=cell_of_row _ _ 0 _ _ _ h0.st
 have c1:W.cell? ⟨Bg,1,none⟩=some (.slice A' p.length c'):=by rw [← hl];exact cell_of_row _ _ 1 _ _ _ h0.st
 have HH:=Lib.hid h0
 have HF:=Lib.hid hF
 have HL:=Lib.hid hl
 have HWD:=Lib.hid hw
 have HRG:=Lib.hid hr
 have HR:=Lib.hid hR
 clear h h0 hF hl hw hr hR
 go_enter Tryz.func52, Tryz.ntmps52
 go_wp2
 go_loop [3] (fun s3=>∃ (n:Nat) (z:Int),n≤p.length∧z+1=n∧s3=.int .i64 z∧Hid (Rn.nextK p ws n=R)) (fun s3=>(intOf s3+1).toNat)
 case atStart=>exact ⟨p.length,(p.length:Int)-1,Nat.le_refl _,by omega,rfl,HR⟩
 case round =>
  obtain ⟨n,z,hn,hz,rfl,hnk⟩:=hrel
  rcases Nat.eq_zero_or_pos n with rfl | hpos
  ·obtain rfl:z=-1:=by omega
   have HE:Hid (R=none):=by show _=_;rw [← hnk.out];rfl
   clear hnk
   go_wp2
   go_ret
   refine ⟨ret_bool (by rw [HE.out];rfl),HF.out.mono fun k hk=>.inl hk,fun _=>HH.out,fun k hk=>by rw [HE.out] at hk;cases hk⟩
  ·obtain ⟨j,rfl⟩:∃ j,n=j+1:=⟨n-1,by omega⟩
   obtain rfl:z=(j:Int):=by omega
   clear hz
   obtain ⟨x,hx⟩:∃ x,p[j]?=some x:=⟨_,List.getElem?_eq_getElem (by omega)⟩
   obtain ⟨y,hy⟩:∃ y,ws[j]?=some y:=⟨_,List.getElem?_eq_getElem (by have:=HL.out;omega)⟩
   obtain ⟨b,cc,ev,q1,-,q3,q4,q5⟩:=own_cell HH.out.pth (j:=j) (x:=.int .u32 x) (by rw [List.getElem?_map,hx];rfl)
   injection ev with ev1 ev2 ev3
   clear ev2
   subst ev1;subst ev3
   obtain ⟨b',cc',ev',q1',-,q3',q4',q5'⟩:=own_cell HH.out.wid (j:=j) (x:=.int .i64 y) (by rw [List.getElem?_map,hy];rfl)
   injection ev' with ev1' ev2' ev3'
   clear ev2'
   subst ev1';subst ev3'
   rw [List.length_map] at q1 q1'
   have hwy:=HWD.out y (List.mem_of_getElem? hy)
   obtain ⟨x0,x1⟩:=HRG.out x (List.mem_of_getElem? hx)
   have CM:=Lib.hid (bMask_any y W hwy)
   have hsz:=Wd.sz_32 hwy
   have hsp:=Wd.sz_pos y
   have hjp:j<p.length:=by omega
   have hbB:b≠Bg:=by
    obtain ⟨-,-,cur,q⟩:=own_row HH.out.pth (k:=b) rfl
    exact ne_of_type q HH.out.st (by decide)
   have hbb:b≠b':=by
    obtain ⟨-,-,cur,q⟩:=own_row HH.out.pth (k:=b) rfl
    obtain ⟨-,-,cur',q'⟩:=own_row HH.out.wid (k:=b') rfl
    exact ne_of_type q q' (by decide)
   have hstep:Rn.nextK p ws (j+1)=if x+1<Wd.sz y then some j else Rn.nextK p ws j:=by
    rw [Rn.nextK,List.getD_eq_getElem?_getD,hx,List.getD_eq_getElem?_getD,hy];rfl
   have HST:=Lib.hid hstep
   have hcl:=HL.out
   have q1w:p.length≤c':=by omega
   have gx:p.getD j 0=x:=by rw [List.getD_eq_getElem?_getD,hx];rfl
   obtain ⟨m,hme⟩:∃ m,Wd.sz y=m:=⟨_,rfl⟩
   rw [hme] at CM hsz hsp HST
   have HY:=Lib.hid hy
   have HX:=Lib.hid hx
   have HG:=Lib.hid gx
   clear hx hy hwy hstep hme gx hcl q1'
   by_cases hlt:x+1<m
   ·have HE:Hid (R=some j):=by show _=_;rw [← hnk.out,HST.out,if_pos hlt]
    have hxm:x<m-1:=by omega
    have f0:W.frozen? ⟨Bg,0,none⟩=false:=frozen_of_row _ _ 0 _ _ HH.out.st
    have f1:W.frozen? ⟨Bg,1,none⟩=false:=frozen_of_row _ _ 1 _ _ HH.out.st
    obtain ⟨W3,hW3⟩:∃ W3,W.setCell ⟨b,j,none⟩ (.int .u32 (x+1))=W3:=⟨_,rfl⟩
    have hF3:FrS (fun k=>k=b) W W3:=by rw [← hW3];exact (FrS.refl (fun k=>k=b) W).setCell (p:=⟨b,j,none⟩) rfl _
    have st3:W3.heap[Bg]?=some (.cells #[.slice (some ⟨b,0,none⟩) p.length c,.slice (some ⟨b',0,none⟩) ws.length c',.int .i64 (0:Nat)] 86 (0,0)):=(hF3.block Bg (lt_of_heap HH.out.st) (fun e=>hbB e.symm)).trans HH.out.st
    have HST3:=Lib.hid st3
    have own3:Own1 B 35 W3 (.slice (some ⟨b,0,none⟩) p.length c) ((p.set j (x+1)).map (Value.int .u32)):=by
     rw [← hW3,List.map_set]
     have:=own_set HH.out.pth (j:=j) (by rw [List.length_map];exact hjp) (.int .u32 (x+1))
     exact this
    have wid3:Own1 B 3 W3 (.slice (some ⟨b',0,none⟩) ws.length c') (ws.map (Value.int .i64)):=own_same HH.out.wid fun k hk=>hF3.block k (own_row HH.out.wid hk).2.1 (fun e=>by
      have:k=b':=by simp [Value.ownBlock] at hk;exact hk.symm
      omega)
    have d0:W3.cell? ⟨Bg,0,none⟩=some (.slice (some ⟨b,0,none⟩) p.length c):=cell_of_row _ _ 0 _ _ _ st3
    have d1:W3.cell? ⟨Bg,1,none⟩=some (.slice (some ⟨b',0,none⟩) p.length c'):=by rw [← HL.out];exact cell_of_row _ _ 1 _ _ _ st3
    have z0:W3.frozen? ⟨Bg,0,none⟩=false:=frozen_of_row _ _ 0 _ _ st3
    have z1:W3.frozen? ⟨Bg,1,none⟩=false:=frozen_of_row _ _ 1 _ _ st3
    have hjw:j+1≤ws.length:=by have:=HL.out;omega
    have hjc1:(j:Int)+1≤(c:Int):=by omega
    have hjc2:(j:Int)+1≤(c':Int):=by omega
    have hjw1:IntKind.i64.wrap ((j:Int)+1)=(j:Int)+1:=IntWalk.i64_in _ (by omega)
    have hjw2:(0:Int)≤(j:Int)+1:=by omega
    have hjw3:((j:Int)+1).toNat=j+1:=by omega
    have HEND:Hid (∀ w9,w9=((W3.setCell ⟨Bg,0,none⟩ (.slice (some ⟨b,0,none⟩) (j+1) c)).setCell ⟨Bg,1,none⟩ (.slice (some ⟨b',0,none⟩) (j+1) c')).drew →
        FrS (exO Bg (.slice (some ⟨b,0,none⟩) p.length c) (.slice (some ⟨b',0,none⟩) ws.length c')) w w9∧∃ vp' vw',ExAt B Bg w9 (Rn.bump p j) (ws.take (j+1)) 0 vp' vw'∧∀ k,exO Bg vp' vw' k→exO Bg (.slice (some ⟨b,0,none⟩) p.length c) (.slice (some ⟨b',0,none⟩) ws.length c') k):=by
     rintro w9 rfl
     have f9:FrS (fun k=>k=Bg) W3 (((W3.setCell ⟨Bg,0,none⟩ (.slice (some ⟨b,0,none⟩) (j+1) c)).setCell ⟨Bg,1,none⟩ (.slice (some ⟨b',0,none⟩) (j+1) c')).drew):=(((FrS.refl (fun k=>k=Bg) W3).setCell (p:=⟨Bg,0,none⟩) rfl _).setCell (p:=⟨Bg,1,none⟩) rfl _).drew
     refine ⟨((HF.out.mono fun k hk=>.inl hk).trans (hF3.mono fun k hk=>.inr (.inl (by rw [hk];rfl)))).trans (f9.mono fun k hk=>.inl hk),.slice (some ⟨b,0,none⟩) (j+1) c,.slice (some ⟨b',0,none⟩) (j+1) c',⟨heap_setCell_at (i:=1) _ (heap_setCell_at (i:=0) _ st3),?_,?_,HH.out.ge⟩,fun k hk=>hk⟩
     ·have h1:=own_take own3 (k:=j+1) (by rw [List.length_map,List.length_set];omega)
      rw [← List.map_take,← HG.out,Rn.bump_take p j hjp] at h1
      exact own_same h1 fun k hk=>f9.block k (own_row h1 hk).2.1 (fun e=>by
        have:k=b:=by simp [Value.ownBlock] at hk;exact hk.symm
        omega)
     ·have h1:=own_take wid3 (k:=j+1) (by rw [List.length_map];omega)
      rw [← List.map_take] at h1
      obtain ⟨-,-,cur',q'⟩:=own_row wid3 (k:=b') rfl
      exact own_same h1 fun k hk=>f9.block k (own_row h1 hk).2.1 (fun e=>by
        have hkb:k=b':=by simp [Value.ownBlock] at hk;exact hk.symm
        subst hkb
        exact ne_of_type q' st3 (by decide) e)
    clear hF3 own3 wid3 st3 hnk hjw
    go_wp2_with (go_at_call 39;(with_reducible refine CM.out.mono ?_);rintro e w1 ⟨rfl,rfl⟩)
    go_region_with (fail)
    all_goals go_wp2
    all_goals go_ret
    all_goals
     obtain ⟨e1,e2⟩:=HEND.out _ rfl
     refine ⟨ret_bool (by rw [HE.out];rfl),e1,?_,?_⟩
     ·intro q;rw [HE.out] at q;cases q
     ·intro k hk;rw [HE.out] at hk;injection hk with hk;subst hk;exact e2
   ·have HE:Hid (Rn.nextK p ws j=R):=by show _=_;rw [← hnk.out,HST.out,if_neg hlt]
    have hxm:¬ x<m-1:=by omega
    clear hnk
    go_wp2_with (go_at_call 39;(with_reducible refine CM.out.mono ?_);rintro e w1 ⟨rfl,rfl⟩)
    go_round
    case rel =>
     have hj1:j≤p.length:=by omega
     have hj2:(j:Int)-1+1=(j:Int):=by omega
     exact ⟨j,(j:Int)-1,hj1,hj2,rfl,HE⟩
    case measure=>first | (simp [intOf];done) | (simp [intOf];omega)
end Go.Proofs.YthfhamagopbgcaaGreat
namespace Go.Proofs.YthfhamagopbgcaaGreat
set_option linter.unusedSimpArgs false
set_option linter.unusedVariables false
open Go.RowKit

set_option maxRecDepth 100000 in
theorem gchoose_any {Bg B k:Nat} {vp:Value} {picks:List Int} {w:World} (hb:w.heap[Bg]?=some (.cells #[vp,.int .i64 k] 120 (0,0))) (hv:U32At B w vp picks) (hBg:B≤Bg) (n:Int) (hn:Wd.Wid n) (hk:k≤1000000) (hr:∀ z ∈ picks,0≤z∧z<4294967296) :
  Calls Tryz.prog 265 #[.pointer (some ⟨Bg,0,none⟩),.int .i64 n] w fun e w'=>e=.returned (.int .u32 (Rn.given picks k n))∧w'.heap[Bg]?=some (.cells #[vp,.int .i64 (k+1:Nat)] 120 (0,0))∧FrS (·=Bg) w w':=by
 have c0:w.cell? ⟨Bg,0,none⟩=some vp:=cell_of_row _ _ 0 _ _ _ hb
 have c1:w.cell? ⟨Bg,1,none⟩=some (.int .i64 k):=cell_of_row _ _ 1 _ _ _ hb
 have f1:w.frozen? ⟨Bg,1,none⟩=false:=frozen_of_row _ _ 1 _ _ hb
 obtain ⟨W,hW⟩:∃ W,w.setCell ⟨Bg,1,none⟩ (.int .i64 ((k:Int)+1))=W:=⟨_,rfl⟩
 have hb2:W.heap[Bg]?=some (.cells #[vp,.int .i64 (k+1:Nat)] 120 (0,0)):=by
  have:=heap_setCell_at (i:=1) (.int .i64 ((k:Int)+1)) hb
  rw [hW] at this
  exact this
 have hF:FrS (·=Bg) w W:=by rw [← hW];exact (FrS.refl (·=Bg) w).setCell (p:=⟨Bg,1,none⟩) rfl _
 have d0:W.cell? ⟨Bg,0,none⟩=some vp:=cell_of_row _ _ 0 _ _ _ hb2
 obtain ⟨A,c,rfl,v1,v2,v3⟩:=hv
 have HEND:=Lib.hid (And.intro hb2 hF)
 by_cases hlt:k<picks.length
 ·obtain ⟨z,hz⟩:∃ z,picks[k]?=some z:=⟨_,List.getElem?_eq_getElem hlt⟩
  obtain ⟨bp,op,rfl,hbp,v4⟩:=v3 (by omega)
  have e0:W.cell? ⟨bp,op+k,none⟩=some (.int .u32 z):=by
   rw [← v4 k z hz]
   exact World.cell?_of_block (hF.block bp (by
     have:=v4 k z hz
     rcases Nat.lt_or_ge bp w.heap.size with q | q
     · exact q
     · simp [World.cell?,Array.getElem?_eq_none q] at this) (by omega))
  obtain ⟨z0,z1⟩:=hr z (List.mem_of_getElem? hz)
  have CO:=Lib.hid (bOf_any n z W hn)
  have HE:Hid (Rn.given picks k n=z % Wd.sz n):=by
   show _=_
   unfold Rn.given
   rw [if_pos hlt,List.getD_eq_getElem?_getD,hz];rfl
  obtain ⟨m,hm⟩:∃ m,z % Wd.sz n=m:=⟨_,rfl⟩
  rw [hm] at CO HE
  clear v3 v4 hz hr hb hb2 hF hn hm
  go_enter Tryz.func265, Tryz.ntmps265
  go_wp2_with (go_at_call 266;(with_reducible refine CO.out.mono ?_);rintro e w1 ⟨rfl,rfl⟩)
  go_ret
  exact ⟨ret_int HE.out.symm,HEND.out.1,HEND.out.2⟩
 ·have HE:Hid (Rn.given picks k n=0):=by show _=_;exact Rn.given_out (by omega) n
  clear v3 hr hb hb2 hF hn
  go_enter Tryz.func265, Tryz.ntmps265
  go_wp2
  go_ret
  exact ⟨ret_int HE.out.symm,HEND.out.1,HEND.out.2⟩
theorem ginv (p:Addr) (w:World):(method 377 118 (.pointer (some p)) "backstay/run.choose").run Tryz.prog w=.ok (265,.pointer (some p)) w:=by kernel_rfl
theorem gent (p:Value) (n:Int) (w:World):(callFunc 265 #[p,.int .i64 n]).run Tryz.prog w=.ok (.enter 265 #[p,.int .i64 n]) w:=by kernel_rfl
theorem U32At.frs {B:Nat} {w w':World} {v:Value} {zs:List Int} {S:Nat→Prop} (h:U32At B w v zs) (hB:B≤w.heap.size) (hF:FrS S w w') (hS:∀ k,S k→B≤k):U32At B w' v zs :=
 SlAt.imp h fun b off hb hR j z hz=>by
  rw [← hR j z hz]
  exact World.cell?_of_block (hF.block b (by omega) (fun q=>by have:=hS b q;omega))
/-- The chooser of choices that are given. -/
def givenCh (c:Cfg) (Bg:Nat) (vp:Value) (picks:List Int) (fin:List Int) (hch:c.ch=.iface 118 (.pointer (some ⟨Bg,0,none⟩))) (hr:∀ z ∈ picks,0≤z∧z<4294967296) (hBg:c.n₀≤Bg∧¬ Kept c Bg) (hfin:fin.length≤1000000):Chooser c (Rn.given picks) fin where
 ty:=118
 ptr:=.pointer (some ⟨Bg,0,none⟩)
 fnum:=265
 ech:=hch
 inv:=fun w=>ginv _ w
 ent:=fun n w=>gent _ n w
 At:=fun w ws O=>w.heap[Bg]?=some (.cells #[vp,.int .i64 ws.length] 120 (0,0))∧U32At c.n₀ w vp picks∧O=(fun k=>k=Bg)
 apart:=fun {w ws O} h k hk=>by
  obtain ⟨h1,-,rfl⟩:=h
  subst hk
  exact ⟨hBg.1,lt_of_heap h1,hBg.2⟩
 keep:=fun {w w' ws O S} h hF hS=>by
  obtain ⟨h1,h2,rfl⟩:=h
  have hlt:=lt_of_heap h1
  exact ⟨(hF.block Bg hlt (fun q=>(hS Bg q).2 rfl)).trans h1,h2.frs (by omega) hF (fun k hk=>(hS k hk).1),rfl⟩
 call:=fun {w ws O} n h hn hp=>by
  obtain ⟨h1,h2,rfl⟩:=h
  have hl:=hp.length_le
  rw [List.length_append,List.length_singleton] at hl
  have hlt:=lt_of_heap h1
  refine (gchoose_any h1 h2 hBg.1 n hn (by omega) hr).mono fun e w' h=>⟨h.1,h.2.2,_,⟨?_,h2.frs (by omega) h.2.2 (fun k hk=>by rw [hk];exact hBg.1),rfl⟩,fun k hk=>.inl hk⟩
  rw [List.length_append,List.length_singleton]
  exact h.2.1
end Go.Proofs.YthfhamagopbgcaaGreat
namespace Go.Proofs.YthfhamagopbgcaaGreat
set_option linter.unusedSimpArgs false
set_option linter.unusedVariables false
open Go.RowKit

namespace Rn
theorem padded_snoc {p:List Int} {n:Nat} (h:p.length≤n):padded p n++[0]=padded p (n+1):=by
 unfold padded
 rw [List.append_assoc,show n+1-p.length=(n-p.length)+1 by omega,List.replicate_succ']
theorem padded_self (p:List Int):padded p p.length=p:=by unfold padded;simp
theorem take_snoc {ws fin:List Int} {n:Int} (h:ws++[n] <+: fin):fin.take ws.length++[n]=fin.take (ws.length+1)∧fin.getD ws.length 0=n:=by
 obtain ⟨t,rfl⟩:=h
 constructor
 ·simp [List.take_append,List.take_add_one]
 ·simp [List.getD_eq_getElem?_getD]
end Rn
theorem einv (p:Addr) (w:World):(method 377 84 (.pointer (some p)) "backstay/run.choose").run Tryz.prog w=.ok (264,.pointer (some p)) w:=by kernel_rfl
theorem eent (p:Value) (n:Int) (w:World):(callFunc 264 #[p,.int .i64 n]).run Tryz.prog w=.ok (.enter 264 #[p,.int .i64 n]) w:=by kernel_rfl
/-- Where the chooser is, when choices of the widths ws have been made. -/
def ExCh (B Bg:Nat) (p0 fin:List Int) (w:World) (ws:List Int) (vp vw:Value):Prop :=
 ExAt B Bg w (Rn.padded p0 (max p0.length ws.length)) (fin.take (max p0.length ws.length)) ws.length vp vw
/-- The chooser of choices that are gone through. -/
def exploredCh (c:Cfg) (B Bg:Nat) (p0:List Int) (fin:List Int) (hch:c.ch=.iface 84 (.pointer (some ⟨Bg,0,none⟩))) (hB:c.n₀≤B) (hp:p0.length≤fin.length) (hgood:∀ j:Nat,j<p0.length→0≤p0.getD j 0∧p0.getD j 0<Wd.sz (fin.getD j 0)) (hfin:fin.length≤1000000) :
  Chooser c (Rn.given p0) fin where
 ty:=84
 ptr:=.pointer (some ⟨Bg,0,none⟩)
 fnum:=264
 ech:=hch
 inv:=fun w=>einv _ w
 ent:=fun n w=>eent _ n w
 At:=fun w ws O=>(∃ vp vw,ExCh B Bg p0 fin w ws vp vw∧O=exO Bg vp vw)∧(∀ k,Kept c k→k<w.heap.size)∧∀ k,O k→¬ Kept c k
 apart:=fun {w ws O} h k hk=>by
  obtain ⟨⟨vp,vw,h1,rfl⟩,h2,h3⟩:=h
  refine ⟨?_,?_,h3 k hk⟩
  ·rcases hk with rfl | hk | hk
   ·have:=h1.ge;omega
   ·have:=(own_row h1.pth hk).1;omega
   ·have:=(own_row h1.wid hk).1;omega
  ·rcases hk with rfl | hk | hk
   ·exact lt_of_heap h1.st
   ·exact (own_row h1.pth hk).2.1
   ·exact (own_row h1.wid hk).2.1
 keep:=fun {w w' ws O S} h hF hS=>by
  obtain ⟨⟨vp,vw,h1,rfl⟩,h2,h3⟩:=h
  exact ⟨⟨vp,vw,h1.frs hF (fun k hk q=>(hS k q).2 hk),rfl⟩,fun k hk=>by have:=h2 k hk;have:=hF.size;omega,h3⟩
 call:=fun {w ws O} n h hn hpre=>by
  obtain ⟨⟨vp,vw,h1,rfl⟩,h2,h3⟩:=h
  have hl:=hpre.length_le
  rw [List.length_append,List.length_singleton] at hl
  obtain ⟨t1,t2⟩:=Rn.take_snoc hpre
  rcases Nat.lt_or_ge ws.length p0.length with hk | hk
  ·have hm:max p0.length ws.length=p0.length:=by omega
   have h1':ExAt B Bg w p0 (fin.take p0.length) ws.length vp vw:=by have:=h1;unfold ExCh at this;rwa [hm,Rn.padded_self] at this
   refine (exchoose_in h1' hk (by omega) n).mono fun e w' h=>⟨?_,h.2.2.mono fun k hk=>.inl hk,exO Bg vp vw,⟨⟨vp,vw,?_,rfl⟩,fun k hk=>by have:=h2 k hk;have:=h.2.2.size;omega,h3⟩,fun k hk=>.inl hk⟩
   ·rw [h.1]
    have hg:=hgood ws.length hk
    unfold Rn.given
    rw [if_pos hk,Int.emod_eq_of_lt hg.1 (by rw [← t2];exact hg.2)]
   ·unfold ExCh
    rw [List.length_append,List.length_singleton,show max p0.length (ws.length+1)=p0.length by omega,Rn.padded_self]
    exact h.2.1
  ·have hm:max p0.length ws.length=ws.length:=by omega
   have hpl:(Rn.padded p0 ws.length).length=ws.length:=Rn.padded_len hk
   have h1':ExAt B Bg w (Rn.padded p0 ws.length) (fin.take ws.length) (Rn.padded p0 ws.length).length vp vw:=by have:=h1;unfold ExCh at this;rw [hm] at this;rw [hpl];exact this
   refine (exchoose_out h1' (by rw [hpl,List.length_take];omega) (by omega) n).mono fun e w' h=>⟨?_,?_⟩
   ·rw [h.1,Rn.given_out hk]
   ·obtain ⟨-,vp',vw',q1,q2,q3⟩:=h
    refine ⟨q2,exO Bg vp' vw',⟨⟨vp',vw',?_,rfl⟩,fun k hk=>by have:=h2 k hk;have:=q2.size;omega,fun k hk hK=>?_⟩,q3⟩
    ·unfold ExCh
     rw [List.length_append,List.length_singleton,show max p0.length (ws.length+1)=ws.length+1 by omega,← Rn.padded_snoc hk,← t1]
     rw [hpl] at q1
     exact q1
    ·rcases q3 k hk with q | q
     ·exact h3 k q hK
     ·have:=h2 k hK;omega
end Go.Proofs.YthfhamagopbgcaaGreat
namespace Go.Proofs.YthfhamagopbgcaaGreat
set_option linter.unusedSimpArgs false
set_option linter.unusedVariables false
open Go.RowKit

/-- The blocks of a run's memory. -/
def Dc (c:Cfg) (k:Nat):Prop:=(0<c.us.length∧k=c.Bm)∨∃ j cp:Nat,c.us[j]?=some (k,cp)
theorem Dc.kept {c:Cfg} {k:Nat} (h:Dc c k):Kept c k:=by
 rcases h with ⟨-,h⟩ | ⟨j,cp,h⟩
 ·exact .inr (.inr h)
 ·exact .inl (.inr (.inr (.inr ⟨j,cp,h⟩)))
theorem rowN_same {B size n:Nat} {e:TypeId} {w w':World} {v:Value} {xs:List Value} (h:w.ownsRow B e size v n xs) (hw:∀ k,v.ownBlock=some k→w'.heap[k]?=w.heap[k]?):w'.ownsRow B e size v n xs:=by
 obtain ⟨h1,h2⟩:=h
 refine ⟨h1,?_⟩
 rcases h2 with h2 | ⟨k,cap,cur,hv,hb,hg,r⟩
 ·exact .inl h2
 ·exact .inr ⟨k,cap,cur,hv,hb,(hw k (by rw [hv];rfl)).trans hg,r⟩
theorem slots_small {f:Fn} (hf:Ref.Val f) {mem:List (List Int)} (hsl:mem.map (fun r=>(r.length:Int))=f.slots):mem.length≤1000∧∀ l ∈ mem,l.length≤8:=by
 have h1:mem.length=f.slots.length:=by rw [← hsl,List.length_map]
 have h2:=hf.size
 refine ⟨by omega,fun l hl=>?_⟩
 have h3:(l.length:Int) ∈ f.slots:=by rw [← hsl];exact List.mem_map_of_mem hl
 have h4:=List.all_eq_true.1 hf.head.2 _ h3
 unfold Ref.isSlot at h4
 simp at h4
 omega
theorem PS.keeps {c:Cfg} {w:World} {s:Rn.St} {b frm:Int} {vt:Value} (h:PS c w s b frm vt) (hBm:c.Bm<w.heap.size) (hf:Ref.Val c.f) (hsl:s.mem.map (fun r=>(r.length:Int))=c.f.slots):Keeps (Dc c) w c.mv s.mem:=by
 have hml:=h.mem.1
 obtain ⟨z1,z2⟩:=slots_small hf hsl
 refine ⟨fun k hk=>h.kept_lt hBm hk.kept,⟨c.Am,c.cm,by rw [hml];rfl⟩,fun w' hw hsz=>?_⟩
 obtain ⟨s1,s2,s3⟩:=h.slots
 refine ⟨c.Am,c.cm,by rw [hml];rfl,by omega,by omega,fun hpos=>?_⟩
 obtain ⟨e,cur,e2,e3⟩:=s3 (by omega)
 have hbw:c.Bm<w'.heap.size:=by omega
 refine ⟨c.Bm,0,e,hbw,fun j l hl=>?_⟩
 have hj:=(List.getElem?_eq_some_iff.1 hl).1
 obtain ⟨⟨b',cp⟩,hu⟩:∃ u,c.us[j]?=some u:=⟨_,List.getElem?_eq_getElem (by omega)⟩
 have hn:c.f.slots[j]?=some (l.length:Int):=by rw [← hsl,List.getElem?_map,hl];rfl
 obtain ⟨m1,m2,cur',m3,m4⟩:=h.mem.2 j b' cp l hu hl
 have hb':b'<w.heap.size:=lt_of_heap m3
 refine ⟨.slice (some ⟨b',0,none⟩) l.length cp,?_,?_⟩
 ·rw [cell_of_row _ _ _ _ _ _ ((hw c.Bm (.inl ⟨by omega,rfl⟩)).trans e2),Nat.zero_add]
  exact e3 j b' cp l.length hu hn
 ·have:=z2 l (List.mem_of_getElem? hl)
  refine ⟨some ⟨b',0,none⟩,cp,rfl,m1,by omega,fun _=>⟨b',0,rfl,by omega,fun t z hz=>?_⟩⟩
  rw [cell_of_row _ _ _ _ _ _ ((hw b' (.inr ⟨j,cp,hu⟩)).trans m3),Nat.zero_add]
  exact m4 t z hz
theorem keeps_nil (D:Nat→Prop) (w:World) (h:∀ k,D k→k<w.heap.size):Keeps D w (.slice none 0 0) [] :=
 ⟨h,⟨none,0,rfl⟩,fun w' _ _=>⟨none,0,rfl,Nat.le_refl _,by decide,fun h=>absurd h (by decide)⟩⟩
/-- The value that an outcome's memory is. -/
def outM (c:Cfg) (o:Rn.Out):Value:=if o.kind=0 then c.mv else .slice none 0 0
theorem out_keeps {c:Cfg} {w:World} {s:Rn.St} {b frm:Int} {vt:Value} (h:PS c w s b frm vt) (hBm:c.Bm<w.heap.size) (hf:Ref.Val c.f) (hI:Rn.Inv c.f s) {o:Rn.Out} (ho:Rn.OutOf c.f s o):Keeps (Dc c) w (outM c o) o.mem:=by
 unfold outM
 rcases ho with ⟨h1,h2,-⟩ | rfl | rfl
 ·rw [if_pos h1,h2];exact h.keeps hBm hf hI.mem
 ·exact keeps_nil _ _ fun k hk=>h.kept_lt hBm hk.kept
 ·exact keeps_nil _ _ fun k hk=>h.kept_lt hBm hk.kept
/-- What lies in memory between two runs: the choices and the outcomes. -/
structure Rd (D:Nat→Prop) (B Bg:Nat) (w:World) (v vp vw:Value) (vms:List Value) (p ws:List Int) (u:Nat) (outs:List Rn.Out):Prop where
 ex:ExAt B Bg w p ws u vp vw
 at_:OutsAt D B w v outs vms
 dlt:∀ k,D k→B≤k∧k<w.heap.size∧¬ exO Bg vp vw k∧v.ownBlock≠some k
 vo:∀ k,v.ownBlock=some k→¬ exO Bg vp vw k
section
variable {D:Nat→Prop} {B Bg u:Nat} {w w':World} {v vp vw:Value} {vms:List Value} {p ws:List Int} {outs:List Rn.Out}
theorem OutsAt.frs {S:Nat→Prop} (h:OutsAt D B w v outs vms) (hF:FrS S w w') (hD:∀ k,D k→¬ S k) (hv:∀ k,v.ownBlock=some k→¬ S k):OutsAt D B w' v outs vms where
 len:=h.len
 own:=rowN_same h.own fun k hk=>hF.block k (own_block_lt h.own k hk).2 (hv k hk)
 at_:=fun j o vm h1 h2=>(h.at_ j o vm h1 h2).frs hF hD
theorem OutsAt.more {D':Nat→Prop} (h:OutsAt D B w v outs vms) (hD:∀ k,D k→D' k) (hD':∀ k,D' k→k<w.heap.size):OutsAt D' B w v outs vms where
 len:=h.len
 own:=h.own
 at_:=fun j o vm h1 h2=>(h.at_ j o vm h1 h2).more hD hD'
theorem exO_lt (h:ExAt B Bg w p ws u vp vw) {k:Nat} (hk:exO Bg vp vw k):B≤k∧k<w.heap.size:=by
 rcases hk with rfl | hk | hk
 ·exact ⟨h.ge,lt_of_heap h.st⟩
 ·have:=own_row h.pth hk;exact ⟨this.1,this.2.1⟩
 ·have:=own_row h.wid hk;exact ⟨this.1,this.2.1⟩
theorem Rd.gr (h:Rd D B Bg w v vp vw vms p ws u outs) (g:Gr w w'):Rd D B Bg w' v vp vw vms p ws u outs where
 ex:=h.ex.frs (FrS.of_gr (S:=fun _=>False) g) (fun _ _ q=>q)
 at_:=h.at_.frs (FrS.of_gr (S:=fun _=>False) g) (fun _ _ q=>q) (fun _ _ q=>q)
 dlt:=fun k hk=>by obtain ⟨h1,h2,h3⟩:=h.dlt k hk;exact ⟨h1,by have:=g.size;omega,h3⟩
 vo:=h.vo
/-- One outcome more. -/
theorem Rd.insert (h:Rd D B Bg w v vp vw vms p ws u outs) {v':Value} {outs':List Rn.Out} {vms':List Value} (ho:OutsAt D B w' v' outs' vms') (hF:FrS (fun k=>v.ownBlock=some k) w w') (hv:∀ k,v'.ownBlock=some k→v.ownBlock=some k∨w.heap.size≤k) :
  Rd D B Bg w' v' vp vw vms' p ws u outs' where
 ex:=h.ex.frs hF fun k hk q=>h.vo k q hk
 at_:=ho
 dlt:=fun k hk=>by
  obtain ⟨h1,h2,h3,h4⟩:=h.dlt k hk
  refine ⟨h1,by have:=hF.size;omega,h3,fun q=>?_⟩
  rcases hv k q with q | q
  ·exact h4 q
  ·omega
 vo:=fun k hk q=>by
  rcases hv k hk with r | r
  ·exact h.vo k r q
  ·have:=(exO_lt h.ex q).2;omega
/-- The next choices. -/
theorem Rd.next (h:Rd D B Bg w v vp vw vms p ws u outs) {vp' vw':Value} {p' ws':List Int} {u':Nat} (he:ExAt B Bg w' p' ws' u' vp' vw') (hF:FrS (exO Bg vp vw) w w') (hO:∀ k,exO Bg vp' vw' k→exO Bg vp vw k):Rd D B Bg w' v vp' vw' vms p' ws' u' outs where
 ex:=he
 at_:=h.at_.frs hF (fun k hk q=>(h.dlt k hk).2.2.1 q) (fun k hk q=>h.vo k hk q)
 dlt:=fun k hk=>by
  obtain ⟨h1,h2,h3,h4⟩:=h.dlt k hk
  exact ⟨h1,by have:=hF.size;omega,fun q=>h3 (hO k q),h4⟩
 vo:=fun k hk q=>h.vo k hk (hO k q)
end
/-- A run is made. -/
theorem orun_any {D:Nat→Prop} {B Bg:Nat} {f:Fn} {i:Rn.Inp} {w0 w:World} {v vp vw:Value} {vms:List Value} {p:List Int} {outs:List Rn.Out} (h:Rd D B Bg w0 v vp vw vms p ((Rn.wids f i p).take p.length) 0 outs) (hg:Rn.Good f i p)
  (hRA:Ref.RcAll) (hf:VFn f) (hin:Rn.validInput f i=0) (ha:∀ a ∈ i.args,0≤a) (g:Gr w0 w) {c:Cfg} (cn:c.n₀=B) (cf:c.f=f) (cch:c.ch=.iface 84 (.pointer (some ⟨Bg,0,none⟩))) (hp:PS c w (Rn.start f i) 0 (-1) (.slice none 0 0)) (hK:∀ k,Kept c k→w0.heap.size≤k) (hBm:c.Bm<w.heap.size) :
  Calls Tryz.prog 48 #[.pointer (some ⟨c.Bs,0,none⟩)] w fun e w'=>∃ vx,e=.returned (outV (Rn.run f (Rn.given p) i).1 vx)∧∃ (D':Nat→Prop) (vp' vw':Value),Rd D' B Bg w' v vp' vw' vms (Rn.padded p (Rn.wids f i p).length) (Rn.wids f i p) (Rn.wids f i p).length outs∧Keeps D' w' vx (Rn.run f (Rn.given p) i).1.mem∧FrS (fun k=>B≤k) w w':=by
 subst cn
 subst cf
 obtain ⟨q1,q2,q3,q4⟩:=Rn.run_ok hRA hf.val hf.im hin ha p
 obtain ⟨l,hl,he⟩:=Rn.start_ent hRA hin ha
 have hw:=h.gr g
 have hlt0:∀ k,exO Bg vp vw k→k<w0.heap.size:=fun k hk=>(exO_lt h.ex hk).2
 let ch:=exploredCh c c.n₀ Bg p (Rn.wids c.f i p) cch (Nat.le_refl _) hg.1 hg.2 (by omega)
 have hA:ch.At w (Rn.start c.f i).widths (exO Bg vp vw):=by
  refine ⟨⟨vp,vw,?_,rfl⟩,fun k hk=>hp.kept_lt hBm hk,fun k hk q=>by have:=hlt0 k hk;have:=hK k q;omega⟩
  unfold ExCh
  rw [show (Rn.start c.f i).widths=[] from rfl,List.length_nil,Nat.max_eq_left (Nat.zero_le _),Rn.padded_self]
  exact hw.ex
 refine (routcome_any (pick:=Rn.given p) (fin:=Rn.wids c.f i p) (b:=0) hp hBm hf hRA hl he (Rn.given_ok p) ch hA (Nat.zero_le _) (List.prefix_refl _)).mono ?_
 rintro e w' ⟨rfl,b,frm,vq,O',r1,r2,r3,r4,r5⟩
 obtain ⟨⟨vp',vw',r6,rfl⟩,r7,r8⟩:=r2
 have hrun:Rn.from_ c.f (Rn.given p) 401 0 (-1) (Rn.start c.f i)=Rn.run c.f (Rn.given p) i:=rfl
 rw [hrun] at r1 r3 r6 ⊢
 have hE:ExAt c.n₀ Bg w' (Rn.padded p (Rn.wids c.f i p).length) (Rn.wids c.f i p) (Rn.wids c.f i p).length vp' vw':=by
  have e1:(Rn.run c.f (Rn.given p) i).2.1.widths=Rn.wids c.f i p:=rfl
  have e2:max p.length (Rn.wids c.f i p).length=(Rn.wids c.f i p).length:=Nat.max_eq_right hg.1
  unfold ExCh at r6
  rw [e1,e2,List.take_length] at r6
  exact r6
 have hBm':c.Bm<w'.heap.size:=by have:=r4.size;omega
 have hkeep:=out_keeps r1 hBm' hf.val q3 q4
 have hD0:∀ k,D k→¬ (Mut c k∨exO Bg vp vw k):=fun k hk q=>by
  obtain ⟨d1,d2,d3,d4⟩:=h.dlt k hk
  rcases q with q | q
  ·have:=hK k (.inl q);omega
  ·exact d3 q
 have hv0:∀ k,v.ownBlock=some k→¬ (Mut c k∨exO Bg vp vw k):=fun k hk q=>by
  rcases q with q | q
  ·have:=hK k (.inl q);have:=(own_block_lt h.at_.own k hk).2;omega
  ·exact h.vo k hk q
 have hO':∀ k,k<w0.heap.size→¬ exO Bg vp vw k→¬ exO Bg vp' vw' k:=fun k h1 h2 q=>by
  rcases r5 k q with q | q
  ·exact h2 q
  ·have:=g.size;omega
 have hDlt:∀ k,D k∨Dc c k→k<w'.heap.size:=fun k hk=>by
  rcases hk with hk | hk
  ·have:=(h.dlt k hk).2.1;have:=g.size;have:=r4.size;omega
  ·exact r1.kept_lt hBm' hk.kept
 refine ⟨outM c _,rfl,(fun k=>D k∨Dc c k),vp',vw',⟨hE,(hw.at_.frs r4 hD0 hv0).more (fun k hk=>.inl hk) hDlt,fun k hk=>?_,fun k hk=>?_⟩,hkeep.more (fun k hk=>.inr hk) hDlt,r4.mono fun k hk=>?_⟩
 ·rcases hk with hk | hk
  ·obtain ⟨d1,d2,d3,d4⟩:=h.dlt k hk
   exact ⟨d1,hDlt k (.inl hk),hO' k d2 d3,d4⟩
  ·have h1:=hK k hk.kept
   refine ⟨?_,hDlt k (.inr hk),fun q=>r8 k q hk.kept,fun q=>?_⟩
   ·have:=hp.n₀
    rcases hk with ⟨-,rfl⟩ | ⟨j,cp,hk⟩
    ·exact hp.old.2.2.2.2.1
    ·exact (hp.old.2.2.2.2.2 j k cp hk).1
   ·have:=(own_block_lt h.at_.own k q).2;omega
 ·exact hO' k (own_block_lt h.at_.own k hk).2 (h.vo k hk)
 ·rcases hk with hk | hk
  ·exact hp.mut hk
  ·exact (exO_lt h.ex hk).1
end Go.Proofs.YthfhamagopbgcaaGreat
namespace Go.Proofs.YthfhamagopbgcaaGreat
set_option linter.unusedSimpArgs false
set_option linter.unusedVariables false
open Go.RowKit

set_option maxRecDepth 100000 in
set_option maxHeartbeats 4000000 in
theorem bsearch_any {D:Nat→Prop} {B:Nat} {w:World} {v:Value} {outs:List Rn.Out} {vms:List Value} (h:OutsAt D B w v outs vms) (hn:outs.length≤1000) (ha:Rn.Asc outs) {x:Rn.Out} {vx:Value} (hx:Keeps D w vx x.mem) :
  Calls Tryz.prog 49 #[v,outV x vx,.func (.func 50) #[] #[]] w fun e w'=>e=.returned (.tuple #[.int .i64 (Rn.below x outs:Nat),.bool (decide (outs[Rn.below x outs]?=some x))])∧Gr w w':=by
 obtain ⟨Bl,hBl⟩:∃ Bl,Rn.below x outs=Bl:=⟨_,rfl⟩
 have hble:Bl≤outs.length:=by rw [← hBl];exact Rn.below_le x outs
 have HAT:Hid (∀ j y,outs[j]?=some y→(Rn.cmpOut y x<0↔j<Bl)):=fun j y hy=>by rw [← hBl];exact Rn.below_at x outs ha j y hy
 obtain ⟨F,hF⟩:∃ F,decide (outs[Bl]?=some x)=F:=⟨_,rfl⟩
 have HFI:=Lib.hid hF
 obtain ⟨W,hW⟩:∃ W,obox w x vx=W:=⟨_,rfl⟩
 have g1:Gr w W:=by rw [← hW];exact (Gr.refl w).alloc _
 have HBX:Hid (∀ wr,Gr W wr→∀ u:GrW wr,_):=fun wr g u=>obox_cells (w:=w) (o:=x) (vm:=vx) (w':=u.val) (by rw [hW];exact g.trans u.gr)
 obtain ⟨A,c,hv,hc,hA,hA0⟩:=own_form h.own
 subst hv
 have HEL:Hid (∀ wr,Gr W wr→∀ j y,outs[j]?=some y→∃ b vy,A=some ⟨b,0,none⟩∧(∃ Ay cy,vy=.slice Ay y.mem.length cy)∧(∀ u:GrW wr,u.val.cell? ⟨b,j * 5,none⟩=some (.int .i64 y.kind)∧u.val.cell? ⟨b,j * 5+1,none⟩=some (.bool y.ret.p)∧u.val.cell? ⟨b,j * 5+2,none⟩=some (.int .i64 y.ret.s)∧u.val.cell? ⟨b,j * 5+3,none⟩=some (.int .u32 y.ret.n)∧u.val.cell? ⟨b,j * 5+4,none⟩=some vy) ∧
     ∀ u:GrW wr,Calls Tryz.prog 50 #[outV y vy,outV x vx] u.val fun e w'=>e=.returned (.int .i64 (Rn.cmpOut y x))∧Gr u.val w'):=fun wr g j y hy=>by
  have hj:=(List.getElem?_eq_some_iff.1 hy).1
  obtain ⟨b,e,hbw,-,hcell⟩:=own_cells h.own rfl (by omega)
  obtain ⟨vy,hvy⟩:∃ vy,vms[j]?=some vy:=⟨_,List.getElem?_eq_getElem (by rw [h.len];exact hj)⟩
  have hk:=h.at_ j y vy hy hvy
  refine ⟨b,vy,e,?_,fun u=>?_,fun u=>?_⟩
  ·obtain ⟨-,⟨Ay,cy,e2⟩,-⟩:=hk
   exact ⟨Ay,cy,e2⟩
  ·have gg:Gr w u.val:=(g1.trans g).trans u.gr
   have q:=fun t (ht:t<5)=>(gg.cell b (j * 5+t) hbw).trans ((hcell (j * 5+t) (by omega)).trans (flatC_get outs vms j t y vy hy hvy ht))
   exact ⟨q 0 (by decide),q 1 (by decide),q 2 (by decide),q 3 (by decide),q 4 (by decide)⟩
  ·have gg:Gr w u.val:=(g1.trans g).trans u.gr
   exact compare_any (hk.gr gg).tab (hx.gr gg).tab (Nat.le_refl _)
 have HG1:=Lib.hid g1
 obtain ⟨-,⟨Ax,cx,rfl⟩,-⟩:=hx
 obtain ⟨n,hnn⟩:∃ n,outs.length=n:=⟨_,rfl⟩
 have HN:=Lib.hid hnn
 rw [hnn] at hn hble hc
 rw [hBl,hF,hnn]
 clear h ha hBl hF g1 hnn hA hA0
 unfold obox at hW
 unfold outV at *
 go_enter Tryz.func49, Tryz.ntmps49
 go_wp2
 go_loopw [9,10] (fun s9 s10 wr=>∃ lo hi:Nat,s9=.int .i64 (lo:Int)∧s10=.int .i64 (hi:Int)∧lo≤Bl∧Bl≤hi∧hi≤n∧Hid (Gr W wr)) (fun s9 s10 _=>(intOf s10).toNat-(intOf s9).toNat)
 case atStart=>exact ⟨0,n,rfl,rfl,Nat.zero_le _,hble,Nat.le_refl _,Gr.refl _⟩
 case round =>
  obtain ⟨lo,hi,rfl,rfl,h1,h2,h3,hg⟩:=hrel
  by_cases hlt:lo<hi
  ·obtain ⟨y,hy⟩:∃ y,outs[(lo+hi) / 2]?=some y:=⟨_,List.getElem?_eq_getElem (by have:=HN.out;omega)⟩
   obtain ⟨b,vy,rfl,⟨Ay,cy,rfl⟩,hcel,hcall⟩:=HEL.out wr hg.out _ y hy
   have hif:=HAT.out _ y hy
   have CC:=Lib.hid hcall
   obtain ⟨d,hd⟩:∃ d,Rn.cmpOut y x=d:=⟨_,rfl⟩
   rw [hd] at CC hif
   have HIF:=Lib.hid hif
   have U0:=fun u=>(hcel u).1
   have U1:=fun u=>(hcel u).2.1
   have U2:=fun u=>(hcel u).2.2.1
   have U3:=fun u=>(hcel u).2.2.2.1
   have U4:=fun u=>(hcel u).2.2.2.2
   have X0:=fun u=>(HBX.out wr hg.out u).1
   have X1:=fun u=>(HBX.out wr hg.out u).2.1
   have X2:=fun u=>(HBX.out wr hg.out u).2.2.1
   have X3:=fun u=>(HBX.out wr hg.out u).2.2.2.1
   have X4:=fun u=>(HBX.out wr hg.out u).2.2.2.2
   have hmid:(lo+hi) / 2<n:=by omega
   clear hy hcel hcall hif hd
   by_cases hneg:d<0
   ·go_wp2
    refine wp_region_quietGr (by kernel_rfl) (by kernel_rfl) ?_
    repeat (go_big_quiet_step ((rename_i u;go_at_call 50;exact grW_call u (CC.out u))))
    refine wpQuiet_nil ?_
    intro w9 hw9
    obtain ⟨u9,rfl⟩:=hw9
    have G9:=Lib.hid (hg.out.trans u9.gr)
    clear U0 U1 U2 U3 U4 X0 X1 X2 X3 X4
    go_wp2
    have hml:(lo+hi) / 2<Bl:=HIF.out.1 hneg
    refine ⟨⟨(lo+hi) / 2+1,hi,by rw [show ((lo:Int)+(hi:Int)) / 2+1=(((lo+hi) / 2+1:Nat):Int) by omega],rfl,by omega,h2,h3,G9⟩,by simp [intOf];omega⟩
   ·have hml:¬ (lo+hi) / 2<Bl:=fun q=>hneg (HIF.out.2 q)
    go_wp2
    refine wp_region_quietGr (by kernel_rfl) (by kernel_rfl) ?_
    repeat (go_big_quiet_step ((rename_i u;go_at_call 50;exact grW_call u (CC.out u))))
    refine wpQuiet_nil ?_
    intro w9 hw9
    obtain ⟨u9,rfl⟩:=hw9
    have G9:=Lib.hid (hg.out.trans u9.gr)
    clear U0 U1 U2 U3 U4 X0 X1 X2 X3 X4
    go_wp2
    refine ⟨⟨lo,(lo+hi) / 2,rfl,by rw [show ((lo:Int)+(hi:Int)) / 2=(((lo+hi) / 2:Nat):Int) by omega],h1,by omega,by omega,G9⟩,by simp [intOf];omega⟩
  ·obtain rfl:lo=Bl:=by omega
   obtain rfl:hi=lo:=by omega
   by_cases hin:hi<n
   ·obtain ⟨y,hy⟩:∃ y,outs[hi]?=some y:=⟨_,List.getElem?_eq_getElem (by have:=HN.out;omega)⟩
    obtain ⟨b,vy,rfl,⟨Ay,cy,rfl⟩,hcel,hcall⟩:=HEL.out wr hg.out _ y hy
    have CC:=Lib.hid hcall
    have hz:=Rn.isCmp_out.zero y x
    obtain ⟨d,hd⟩:∃ d,Rn.cmpOut y x=d:=⟨_,rfl⟩
    rw [hd] at CC hz
    have HF2:Hid (F=decide (d=0)):=by
     show _=_
     rw [← HFI.out,hy]
     simp [hz]
    have U0:=fun u=>(hcel u).1
    have U1:=fun u=>(hcel u).2.1
    have U2:=fun u=>(hcel u).2.2.1
    have U3:=fun u=>(hcel u).2.2.2.1
    have U4:=fun u=>(hcel u).2.2.2.2
    have X0:=fun u=>(HBX.out wr hg.out u).1
    have X1:=fun u=>(HBX.out wr hg.out u).2.1
    have X2:=fun u=>(HBX.out wr hg.out u).2.2.1
    have X3:=fun u=>(HBX.out wr hg.out u).2.2.2.1
    have X4:=fun u=>(HBX.out wr hg.out u).2.2.2.2
    clear hy hcel hcall hz hd
    by_cases h0:d=0
    all_goals
     go_wp2
     refine wp_region_quietGr (by kernel_rfl) (by kernel_rfl) ?_
     repeat (go_big_quiet_step ((rename_i u;go_at_call 50;exact grW_call u (CC.out u))))
     refine wpQuiet_nil ?_
     intro w9 hw9
     obtain ⟨u9,rfl⟩:=hw9
     have G9:=Lib.hid (HG1.out.trans (hg.out.trans u9.gr))
     clear U0 U1 U2 U3 U4 X0 X1 X2 X3 X4
     go_wp2
     go_ret2
     refine ⟨?_,G9.out⟩
     rw [HF2.out]
     simp [h0]
   ·have HF2:Hid (F=false):=by
     show _=_
     rw [← HFI.out,List.getElem?_eq_none (by have:=HN.out;omega)]
     simp
    go_wp2
    refine wp_region_quietGr (by kernel_rfl) (by kernel_rfl) ?_
    repeat (go_big_quiet_step (fail))
    refine wpQuiet_nil ?_
    intro w9 hw9
    obtain ⟨u9,rfl⟩:=hw9
    have G9:=Lib.hid (HG1.out.trans (hg.out.trans u9.gr))
    go_wp2
    go_ret2
    refine ⟨?_,G9.out⟩
    rw [HF2.out]
    rfl
end Go.Proofs.YthfhamagopbgcaaGreat
namespace Go.Proofs.YthfhamagopbgcaaGreat
set_option linter.unusedSimpArgs false
set_option linter.unusedVariables false
open Go.RowKit

/-- The first k of rs, then others that are alike. -/
def fillL {α:Type} (d:α) (rs:List α) (n k:Nat):List α:=rs.take k++List.replicate (n-k) d
theorem fillL_len {α:Type} (d:α) (rs:List α) (n k:Nat) (h:k≤rs.length) (hn:rs.length≤n):(fillL d rs n k).length=n:=by unfold fillL;simp;omega
theorem fillL_zero {α:Type} (d:α) (rs:List α) (n:Nat):fillL d rs n 0=List.replicate n d:=by unfold fillL;simp
theorem fillL_step {α:Type} (d:α) (rs:List α) (n k:Nat) (hn:rs.length≤n) (v:α) (h:rs[k]?=some v):(fillL d rs n k).set k v=fillL d rs n (k+1):=by
 have hk:=(List.getElem?_eq_some_iff.1 h).1
 apply List.ext_getElem?
 intro i
 have e1:(rs.take k).length=k:=by simp;omega
 have e2:(rs.take (k+1)).length=k+1:=by simp;omega
 by_cases e:k=i
 ·subst e
  rw [List.getElem?_set_self (by rw [fillL_len _ _ _ _ (by omega) hn];omega)]
  unfold fillL
  rw [List.getElem?_append_left (by omega),List.getElem?_take,if_pos (by omega),h]
 ·rw [List.getElem?_set_ne e]
  unfold fillL
  by_cases h1:i<k
  ·rw [List.getElem?_append_left (by omega),List.getElem?_append_left (by omega),List.getElem?_take,List.getElem?_take,if_pos h1,if_pos (by omega)]
  ·rw [List.getElem?_append_right (by omega),List.getElem?_append_right (by omega),e1,e2,List.getElem?_replicate,List.getElem?_replicate]
   by_cases h2:i<n
   ·rw [if_pos (by omega),if_pos (by omega)]
   ·rw [if_neg (by omega),if_neg (by omega)]
theorem made_had (n:Nat):madeCells #[Value.bool false] (n * 1)=((List.replicate n false).map Value.bool).toArray:=by
 apply Array.ext_getElem?
 intro i
 rcases Nat.lt_or_ge i n with h | h
 ·unfold madeCells
  rw [Array.getElem?_map,Array.getElem?_range,if_pos (by omega)]
  simp [h,Nat.mod_one]
 ·rw [Array.getElem?_eq_none (by rw [size_madeCells];omega),Array.getElem?_eq_none (by simp;omega)]
theorem make_had (w:World) (n:Nat) (hn:n≤1000):(Instr.makeSlice 79 (.int .i64 n) (.int .i64 n)).run Tryz.prog w=.ok (.slice (some ⟨w.heap.size,0,none⟩) n n) (w.alloc (.cells ((List.replicate n false).map Value.bool).toArray 4)):=by
 obtain ⟨i0,h1,h2,h3,h4⟩:=info_parts info_bool
 have:=run_makeSlice (P:=Tryz.prog) (w:=w) 79 4 i0 _ Tryz.underlying79 h1 h2 .i64 .i64 n n (by omega) (by omega) (by rw [h3];omega) (by rw [h4];omega) (by omega)
 rw [this,h3]
 simp only [Int.toNat_natCast]
 rw [show (Value.bool false).cells=#[Value.bool false] from rfl,made_had]
/-- The row of a state on its way. -/
def sRow (vp:Value) (ret:Int) (vs vb ch a5 a6 a7 a8:Value):Array Value:=#[vp,.int .i64 ret,vs,vb,ch,a5,a6,a7,a8,.int .i64 0,.int .i64 (-1),.int .i64 0,.slice none 0 0]
structure SS (N:Nat) (w0 w:World) (vp:Value) (ret:Int) (vs vb ch va vm a5 a6 a7 a8:Value):Prop where
 gr:Gr w0 w
 n:N=w0.heap.size
 fb:w.heap[N]?=some (.cells #[vp,.int .i64 ret,vs,vb] 25 (0,0))
 ib:w.heap[N+1]?=some (.cells #[va,vm] 29 (0,0))
 st:w.heap[N+2]?=some (.cells (sRow vp ret vs vb ch a5 a6 a7 a8) 100 (0,0))
section
variable {N:Nat} {w0 w w' w2:World} {vp vs vb ch va vm a5 a6 a7 a8 v':Value} {ret:Int} {S:Nat→Prop} {e:TypeId} {xs ys:List Value} {tmp:Obj}
theorem SS.lt (h:SS N w0 w vp ret vs vb ch va vm a5 a6 a7 a8):N+3≤w.heap.size:=by have:=lt_of_heap h.st;omega
theorem SS.keep (h:SS N w0 w vp ret vs vb ch va vm a5 a6 a7 a8) (hF:FrS S w w') (hS:∀ k,S k→N+3≤k):SS N w0 w' vp ret vs vb ch va vm a5 a6 a7 a8 where
 gr:=Gr.below h.gr (hF.below (n:=N) (fun k hk=>by have:=hS k hk;omega) (by have:=h.lt;omega)) (by rw [h.n];exact Nat.le_refl _)
 n:=h.n
 fb:=(hF.block _ (lt_of_heap h.fb) (fun q=>by have:=hS _ q;omega)).trans h.fb
 ib:=(hF.block _ (lt_of_heap h.ib) (fun q=>by have:=hS _ q;omega)).trans h.ib
 st:=(hF.block _ (lt_of_heap h.st) (fun q=>by have:=hS _ q;omega)).trans h.st
theorem SS.grow (h:SS N w0 w vp ret vs vb ch va vm a5 a6 a7 a8) (g:Gr w w'):SS N w0 w' vp ret vs vb ch va vm a5 a6 a7 a8:=h.keep (FrS.of_gr (S:=fun _=>False) g) (fun _ q=>q.elim)
/-- A cell of the state is another. -/
theorem SS.put (h:SS N w0 w vp ret vs vb ch va vm a5 a6 a7 a8) (i:Nat) (v:Value) {b5 b6 b7 b8:Value} (hr:(sRow vp ret vs vb ch a5 a6 a7 a8).setIfInBounds i v=sRow vp ret vs vb ch b5 b6 b7 b8):SS N w0 (w.setCell ⟨N+2,i,none⟩ v) vp ret vs vb ch va vm b5 b6 b7 b8 where
 gr:=Gr.setCell h.gr (p:=⟨N+2,i,none⟩) (by have:=h.n;show w0.heap.size≤N+2;omega) v
 n:=h.n
 fb:=(RowKit.Below.heap_setCell _ _ _ _ (by show N≠N+2;omega)).trans h.fb
 ib:=(RowKit.Below.heap_setCell _ _ _ _ (by show N+1≠N+2;omega)).trans h.ib
 st:=by have:=heap_setCell_at (i:=i) v h.st;rw [hr] at this;exact this
/-- A row of the state's grows. -/
theorem SS.push (h:SS N w0 w vp ret vs vb ch va vm a5 a6 a7 a8) {v:Value} (ho:Own1 (N+3) e w v xs) (hg:(w.alloc tmp).grownBy w2 v.ownBlock) (ho2:Own1 (N+3) e w2 v' ys) :
  SS N w0 w2 vp ret vs vb ch va vm a5 a6 a7 a8∧(∀ i,Own1 (N+3) e (w2.setCell ⟨N+2,i,none⟩ v') v' ys)∧∀ i,FrS (fun k=>v.ownBlock=some k∨k=N+2) w (w2.setCell ⟨N+2,i,none⟩ v'):=by
 have hF:FrS (fun k=>v.ownBlock=some k) w w2:=((FrS.refl _ w).alloc tmp).grown hg (fun k hk=>.inl hk)
 refine ⟨h.keep hF (fun k hk=>(own_row ho hk).1),fun i=>own_same ho2 fun k hk=>RowKit.Below.heap_setCell _ _ _ _ (by have:=(own_row ho2 hk).1;show k≠N+2;omega),fun i=>(hF.mono fun k hk=>.inl hk).setCell (p:=⟨N+2,i,none⟩) (.inr rfl) _⟩
end
/-- The numbers of the first instructions of the blocks. -/
def frL (f:Fn) (k:Nat):List Value:=(List.range k).map fun j=>Value.int .i64 (Ref.number f j:Nat)
theorem frL_len (f:Fn) (k:Nat):(frL f k).length=k:=by unfold frL;simp
theorem frL_step (f:Fn) (k:Nat):frL f (k+1)=frL f k++[Value.int .i64 (Ref.number f k:Nat)]:=by unfold frL;rw [List.range_succ,List.map_append];rfl
/-- What is on its way behind a world W: the state's row, what has been made. -/
structure MK (N:Nat) (W T:World) (row:Array Value) (bs:List (Nat × Obj)):Prop where
 fr:FrS (·=N+2) W T
 st:T.heap[N+2]?=some (.cells row 100 (0,0))
 at_:∀ p ∈ bs,T.heap[p.1]?=some p.2∧W.heap.size≤p.1
theorem MK.start {N:Nat} {W:World} {row:Array Value} (h:W.heap[N+2]?=some (.cells row 100 (0,0))):MK N W W.drew row []:=⟨(FrS.refl _ W).drew,h,fun p hp=>by cases hp⟩
theorem MK.alloc {N:Nat} {W T:World} {row:Array Value} {bs:List (Nat × Obj)} (h:MK N W T row bs) (o:Obj):MK N W (T.alloc o) row ((T.heap.size,o)::bs) where
 fr:=h.fr.alloc o
 st:=(((Gr.refl T).alloc o).heap _ (lt_of_heap h.st)).trans h.st
 at_:=fun p hp=>by
  rcases List.mem_cons.1 hp with rfl | hp
  ·exact ⟨heap_alloc_new T o,h.fr.size⟩
  ·exact ⟨(((Gr.refl T).alloc o).heap _ (lt_of_heap (h.at_ p hp).1)).trans (h.at_ p hp).1,(h.at_ p hp).2⟩
theorem MK.set {N:Nat} {W T:World} {row:Array Value} {bs:List (Nat × Obj)} (h:MK N W T row bs) (hN:N+2<W.heap.size) (i:Nat) (v:Value):MK N W (T.setCell ⟨N+2,i,none⟩ v) (row.setIfInBounds i v) bs where
 fr:=h.fr.setCell (p:=⟨N+2,i,none⟩) rfl v
 st:=heap_setCell_at v h.st
 at_:=fun p hp=>⟨(RowKit.Below.heap_setCell _ _ _ _ (by have:=(h.at_ p hp).2;show p.1≠N+2;omega)).trans (h.at_ p hp).1,(h.at_ p hp).2⟩
theorem MK.mono {N:Nat} {W T:World} {row:Array Value} {bs bs':List (Nat × Obj)} (h:MK N W T row bs) (hb:∀ p ∈ bs',p ∈ bs):MK N W T row bs':=⟨h.fr,h.st,fun p hp=>h.at_ p (hb p hp)⟩
theorem mk_two {N:Nat} {W:World} {row:Array Value} (h:W.heap[N+2]?=some (.cells row 100 (0,0))) (v5 v6:Value) (c1 c2:Array Value) (t1 t2:TypeId) :
  MK N W (((((W.setCell ⟨N+2,5,none⟩ v5).setCell ⟨N+2,6,none⟩ v6).alloc (.cells c1 t1)).alloc (.cells c2 t2)).drew) ((row.setIfInBounds 5 v5).setIfInBounds 6 v6) [(W.heap.size,.cells c1 t1 (0,0)),(W.heap.size+1,.cells c2 t2 (0,0))]:=by
 have hN:=lt_of_heap h
 have h0:MK N W W row []:=⟨FrS.refl _ W,h,fun p hp=>by cases hp⟩
 have h1:=(((h0.set hN 5 v5).set hN 6 v6).alloc (.cells c1 t1)).alloc (.cells c2 t2)
 have e1:((W.setCell ⟨N+2,5,none⟩ v5).setCell ⟨N+2,6,none⟩ v6).heap.size=W.heap.size:=by simp
 have e2:(((W.setCell ⟨N+2,5,none⟩ v5).setCell ⟨N+2,6,none⟩ v6).alloc (.cells c1 t1)).heap.size=W.heap.size+1:=by simp
 rw [e1,e2] at h1
 exact ⟨h1.fr.drew,h1.st,fun p hp=>h1.at_ p (by
   rcases List.mem_cons.1 hp with rfl | hp
   · exact List.mem_cons_of_mem _ (List.mem_cons_self)
   · rcases List.mem_cons.1 hp with rfl | hp
     · exact List.mem_cons_self
     · cases hp)⟩
/-- The slices of the slots. -/
def usV (us:List (Nat × Nat)) (mem:List (List Int)):List Value:=List.zipWith (fun u l=>Value.slice (some ⟨u.1,0,none⟩) l.length u.2) us mem
/-- The rows of the first slots. -/
structure MU (N:Nat) (w:World) (us:List (Nat × Nat)) (mem:List (List Int)) (vf:Value):Prop where
 row:∀ (j b cp:Nat) (l:List Int),us[j]?=some (b,cp)→mem[j]?=some l→N+3≤b∧l.length≤cp∧cp≤9223372036854775807∧∃ cur:Array Value,w.heap[b]?=some (.cells cur 3 (0,0))∧∀ (i:Nat) (z:Int),l[i]?=some z→cur[i]?=some (.int .i64 z)
 apart:(us.map (·.1)).Nodup
 off:∀ u ∈ us,vf.ownBlock≠some u.1
 all:∀ u ∈ us,u.1<w.heap.size
theorem MU.nil (N:Nat) (w:World) (mem:List (List Int)) (vf:Value):MU N w [] mem vf:=⟨fun j b cp l h=>by simp at h,List.nodup_nil,fun u h=>(by cases h),fun u h=>(by cases h)⟩
theorem MU.keep {N:Nat} {w w':World} {us:List (Nat × Nat)} {mem:List (List Int)} {vf:Value} (h:MU N w us mem vf) (hle:us.length≤mem.length) {S:Nat→Prop} (hF:FrS S w w') (hS:∀ u ∈ us,¬ S u.1):MU N w' us mem vf where
 row:=fun j b cp l h1 h2=>by
  obtain ⟨r1,r2,r3,cur,r4,r5⟩:=h.row j b cp l h1 h2
  exact ⟨r1,r2,r3,cur,(hF.block b (lt_of_heap r4) (hS _ (List.mem_of_getElem? h1))).trans r4,r5⟩
 apart:=h.apart
 off:=h.off
 all:=fun u hu=>by have:=h.all u hu;have:=hF.size;omega
theorem usV_len (us:List (Nat × Nat)) (mem:List (List Int)) (h:us.length≤mem.length):(usV us mem).length=us.length:=by unfold usV;simp;omega
theorem usV_snoc:∀ (us:List (Nat × Nat)) (mem:List (List Int)) (u:Nat × Nat) (l:List Int),mem[us.length]?=some l→usV (us++[u]) mem=usV us mem++[Value.slice (some ⟨u.1,0,none⟩) l.length u.2]
 | [],[],u,l,h=>by simp at h
 | [],m::ms,u,l,h=>by simp at h;subst h;simp [usV]
 | v::vs,[],u,l,h=>by simp at h
 | v::vs,m::ms,u,l,h=>by
  have:=usV_snoc vs ms u l (by simpa using h)
  simp only [usV,List.cons_append,List.zipWith_cons_cons] at this ⊢
  rw [this]
/-- A step of a region that draws: a call. -/
theorem step_calls {P:Program} {w:World} {ops:Array Oper} {o:Oper} {a:Act} {K:Act→World→Prop} {Q:Exit→Act→World→Prop} {F:Prop} {f:FuncId} {args:Array Value}
  (hg:o.guard=none) (hr:(execOp a.eval o).run P w=.ok (.enter f args) w) (hc:Calls P f args w fun e w'=>∃ v,e=.returned v∧K (a.put o.dst v) w') :
  if Region.wanted o (yielded ops a.tmps)=true then Oper.wp P o a w K Q else F:=by
 have hw:Region.wanted o (yielded ops a.tmps)=true:=by simp [Region.wanted,hg]
 rw [if_pos hw]
 unfold Oper.wp
 rw [hr]
 exact hc.mono fun e w' ⟨v,he,hk⟩=>by subst he;exact hk
end Go.Proofs.YthfhamagopbgcaaGreat

/- isThere, slices.Equal. -/
import Derived.Test.YthfhamagopbgcaaGreatG13
import Derived.Deep.RegionHeld3
namespace Go.Proofs.YthfhamagopbgcaaGreat
open Go.RowKit

def blks (f:Fn):List Int:=(Ir.items f).map fun it=>(it.blk:Int)
def places (f:Fn):List Int:=(Ir.items f).map fun it=>(it.pos:Int)

set_option maxRecDepth 100000 in
set_option maxHeartbeats 4000000 in
/-- isThere, at a block that is reached. -/
theorem isThere_any (f:Fn) (vb va vg:Value) (z:Int) (b:Nat) (place:Int) (w:World) (hb:IntsAt w.heap.size w vb (blks f)) (ha:IntsAt w.heap.size w va (places f)) (hg:TabAt w.heap.size w vg (Ref.graph f))
  (hv:Ir.gval (Ref.graph f)=0) (hz0:0≤z) (hz1:z<Ref.count f) (hbl:b<f.blocks.length) (hr:rb (Ref.graph f) b=true) (hpl:f.params.length≤100000) (hil:(Ir.items f).length≤1000000) :
  Calls Tryz.prog 116 #[.agg #[.int .i64 f.params.length,vb,va,vg],.int .i64 z,.int .i64 b,.int .i64 place] w fun e w'=>e=.returned (.bool (Ir.isThere f (Ref.graph f) z b place))∧Gr w w':=by
 have hc:=count_eq f
 have hgl:Hid ((Ref.graph f).length=f.blocks.length):=by show _=_;simp [Ref.graph]
 have hbg:b<(Ref.graph f).length:=by rw [hgl.out];exact hbl
 obtain ⟨n,rfl⟩:=Int.eq_ofNat_of_zero_le hz0
 obtain ⟨Ab,cb,rfl,b1,b2,b3⟩:=hb
 obtain ⟨Aa,ca,rfl,a1,a2,a3⟩:=ha
 have eb:(blks f).length=(Ir.items f).length:=by simp [blks]
 have ea:(places f).length=(Ir.items f).length:=by simp [places]
 rw [eb] at b1 b2 b3 ⊢
 rw [ea] at a1 a2 a3 ⊢
 clear eb ea
 have hg0:=hg
 obtain ⟨Ag,cg,rfl,-,-,-⟩:=hg
 obtain ⟨W,hW⟩:∃ W,w.alloc (.cells #[.int .i64 f.params.length,.slice Ab (Ir.items f).length cb,.slice Aa (Ir.items f).length ca,.slice Ag (Ref.graph f).length cg] 154)=W:=⟨_,rfl⟩
 have hB0:Gr w W:=by rw [← hW];exact (Gr.refl w).alloc _
 have hWs:W.heap.size=w.heap.size+1:=by rw [← hW];simp
 have g0:Gr (w.alloc (.cells #[.int .i64 f.params.length,.slice Ab (Ir.items f).length cb,.slice Aa (Ir.items f).length ca,.slice Ag (Ref.graph f).length cg] 154)) W:=by rw [hW];exact Gr.refl _
 have d0:W.cell? ⟨w.heap.size,0,none⟩=some (.int .i64 f.params.length):=cell_box _ _ 0 g0 rfl
 have d1:W.cell? ⟨w.heap.size,1,none⟩=some (.slice Ab (Ir.items f).length cb):=cell_box _ _ 1 g0 rfl
 have d2:W.cell? ⟨w.heap.size,2,none⟩=some (.slice Aa (Ir.items f).length ca):=cell_box _ _ 2 g0 rfl
 have d3:W.cell? ⟨w.heap.size,3,none⟩=some (.slice Ag (Ref.graph f).length cg):=cell_box _ _ 3 g0 rfl
 clear g0
 by_cases hp:n<f.params.length
 ·have HS:Hid (Ir.isThere f (Ref.graph f) n b place=true):=by show _=_;unfold Ir.isThere;rw [if_pos (by omega)]
  have hp':(n:Int)<f.params.length:=by omega
  clear b3 a3 hg0 hc hp
  go_enter Tryz.func116, Tryz.ntmps116
  go_wp2
  go_ret
  exact ⟨ret_bool (by rw [HS.out]),hB0⟩
 ·obtain ⟨m,hm⟩:∃ m,n=f.params.length+m:=⟨n-f.params.length,by omega⟩
  subst hm
  have hml:m<(Ir.items f).length:=by omega
  obtain ⟨it,hit⟩:∃ it,(Ir.items f)[m]?=some it:=⟨_,List.getElem?_eq_getElem hml⟩
  obtain ⟨hw1,hw2,l,hl1,hl2⟩:=items_get f m it hit
  obtain ⟨bb,ob,rfl,hbb,hcb⟩:=b3 (by omega)
  obtain ⟨ba,oa,rfl,hba,hca⟩:=a3 (by omega)
  have cb1:=(hB0.cell _ _ hbb).trans (hcb m it.blk (by unfold blks;rw [List.getElem?_map,hit];rfl))
  have ca1:=(hB0.cell _ _ hba).trans (hca m it.pos (by unfold places;rw [List.getElem?_map,hit];rfl))
  have HS:Hid (Ir.isThere f (Ref.graph f) ((f.params.length+m:Nat):Int) b place=if (it.blk:Int)=b then decide ((it.pos:Int)<place) else Ref.dominates (Ref.graph f) it.blk b):=by
   show _=_
   unfold Ir.isThere;rw [if_neg (by omega),hw1]
  have hil2:it.blk<f.blocks.length:=(List.getElem?_eq_some_iff.1 hl1).1
  have hig:it.blk<(Ref.graph f).length:=by rw [hgl.out];exact hil2
  have HD:Hid (∀ w1,Gr W w1→Calls Tryz.prog 143 #[.slice Ag (Ref.graph f).length cg,.int .i64 it.blk,.int .i64 b] w1 fun e w'=>∃ x y,e=.returned (.tuple #[.bool x,.int .i64 y])∧Hid ((decide (y=0) && x)=Ref.dominates (Ref.graph f) it.blk b)∧Gr w1 w') :=
   fun w1 q=>Dominates_any _ (Ref.graph f) it.blk b w1 (hg0.gr (hB0.trans q)) hv hig hbg hr
  have hm1:(f.params.length:Int)+(m:Int)-f.params.length=m:=by omega
  have hm2:(m:Int)<(Ir.items f).length:=by omega
  have hp':(f.params.length:Int)≤f.params.length+(m:Int):=by omega
  have hm3:(m:Int)≥0:=by omega
  have kp:Hid (∀ w',Gr W w'→(w'.cell? ⟨w.heap.size,1,none⟩=some (.slice (some ⟨bb,ob,none⟩) (Ir.items f).length cb)∧w'.cell? ⟨w.heap.size,3,none⟩=some (.slice Ag (Ref.graph f).length cg)∧w'.cell? ⟨bb,ob+m,none⟩=some (.int .i64 it.blk))) :=
   fun w' q=>⟨(q.cell _ _ (by omega)).trans d1,(q.cell _ _ (by omega)).trans d3,(q.cell _ _ (by omega)).trans cb1⟩
  clear b3 a3 hg0 hc hp hit hw1 hw2 hl1 hl2 hca hcb hv hr hz1
  by_cases hb:(it.blk:Int)=b
  ·have hb2:((it.blk:Int) == b)=true:=by simp [hb]
   have HS2:Hid (Ir.isThere f (Ref.graph f) ((f.params.length+m:Nat):Int) b place=decide ((it.pos:Int)<place)):=by show _=_;rw [HS.out,if_pos hb]
   clear hb kp HS
   go_enter Tryz.func116, Tryz.ntmps116
   go_wp2
   all_goals go_ret
   all_goals exact ⟨ret_bool (by rw [HS2.out]),hB0⟩
  ·have hb2:((it.blk:Int) == b)=false:=by simp [hb]
   have HS2:Hid (Ir.isThere f (Ref.graph f) ((f.params.length+m:Nat):Int) b place=Ref.dominates (Ref.graph f) it.blk b):=by show _=_;rw [HS.out,if_neg hb]
   obtain ⟨dd,hdd⟩:∃ dd,Ref.dominates (Ref.graph f) it.blk b=dd:=⟨_,rfl⟩
   rw [hdd] at HS2 HD
   clear hb HS hdd
   go_enter Tryz.func116, Tryz.ntmps116
   go_wp2
   go_region_held3 (fun w'=>w'.cell? ⟨w.heap.size,1,none⟩=some (.slice (some ⟨bb,ob,none⟩) (Ir.items f).length cb)∧w'.cell? ⟨w.heap.size,3,none⟩=some (.slice Ag (Ref.graph f).length cg)∧w'.cell? ⟨bb,ob+m,none⟩=some (.int .i64 it.blk)) (first | exact kp.out _ (Gr.refl W).drew | exact kp.out _ g3) (first | (go_at_call 143;refine (HD.out _ (Gr.refl W).drew).mono ?_;rintro e w3 ⟨x,y,rfl,HXY,g30⟩;have g3:=(Gr.refl W).drew.trans g30))
   go_wp2
   all_goals go_ret
   all_goals exact ⟨ret_bool (by rw [HS2.out,← HXY.out];simp [*]),hB0.trans g3⟩

set_option maxHeartbeats 1000000 in
/-- slices.Equal at []int. -/
theorem Equal_any (va vb:Value) (a b:List Int) (w:World) (ha:IntsAt w.heap.size w va a) (hb:IntsAt w.heap.size w vb b) :
  Calls Tryz.prog 110 #[va,vb] w fun e w'=>e=.returned (.bool (decide (a=b)))∧Gr w w':=by
 obtain ⟨A,ca,rfl,ha1,ha2,ha3⟩:=ha
 obtain ⟨A',cb,rfl,hb1,hb2,hb3⟩:=hb
 by_cases hlen:a.length=b.length
 ·have hl1:((a.length:Int) != (b.length:Int))=false:=by rw [hlen];simp
  have HL:Hid (a.length=b.length):=hlen
  clear hlen
  go_enter Tryz.func110, Tryz.ntmps110
  go_wp2
  go_loopw [5,13] (fun _ i wr=>∃ k:Nat,k≤a.length∧i=.int .i64 k∧Hid (a.take k=b.take k)∧Gr w wr) (fun _ i _=>a.length-(intOf i).toNat)
  case atStart=>exact ⟨0,Nat.zero_le _,rfl,rfl,Gr.refl _⟩
  case round =>
   obtain ⟨k,hk,rfl,hrest,hg⟩:=hrel
   by_cases hlt:k<a.length
   ·have hltb:k<b.length:=by have:=HL.out;omega
    obtain ⟨ba,oa,rfl,hba,hca⟩:=ha3 (by omega)
    obtain ⟨bb,ob,rfl,hbb,hcb⟩:=hb3 (by omega)
    obtain ⟨x,hx⟩:∃ x,x=a[k]:=⟨_,rfl⟩
    obtain ⟨y,hy⟩:∃ y,y=b[k]:=⟨_,rfl⟩
    have hu:=(hg.cell _ _ hba).trans (hca k x (by rw [hx];simp [hlt]))
    have hv:=(hg.cell _ _ hbb).trans (hcb k y (by rw [hy];simp [hltb]))
    have HX:Hid (a.take (k+1)=a.take k++[x]):=by show _=_;rw [hx,List.take_succ_eq_append_getElem hlt]
    have HY:Hid (b.take (k+1)=b.take k++[y]):=by show _=_;rw [hy,List.take_succ_eq_append_getElem hltb]
    have HX':Hid (a[k]?=some x):=by show _=_;rw [hx];simp [hlt]
    have HY':Hid (b[k]?=some y):=by show _=_;rw [hy];simp [hltb]
    have z1:(0:Int)≤(k:Int):=by omega
    have z2:(k:Int)<(a.length:Int):=by omega
    have z3:(k:Int)<(b.length:Int):=by omega
    clear hx hy hca hcb ha3 hb3
    go_wp2
    go_quiet (fail)
    go_wp2
    ·go_ret
     exact ⟨ret_bool (by
       have:a≠b:=by rintro rfl;have h1:=HX'.out;have h2:=HY'.out;rw [h1] at h2;cases h2;simp_all
       simp [this]),hg.drewN _⟩
    ·go_roundw
     case rel=>exact ⟨k+1,by omega,by go_num,by show _=_;rw [HX.out,HY.out,hrest.out];grind,hg.drewN _⟩
     case measure=>simp [intOf];omega
   ·obtain rfl:k=a.length:=by omega
    go_wp2
    go_ret
    exact ⟨ret_bool (by
      have h1:=hrest.out
      rw [List.take_length,HL.out,List.take_length] at h1
      simp [h1]),hg⟩
 ·have hl1:((a.length:Int) != (b.length:Int))=true:=by simp;omega
  have hne:Hid (a≠b):=fun h=>hlen (by rw [h])
  go_enter Tryz.func110, Tryz.ntmps110
  go_wp2
  go_ret
  exact ⟨ret_bool (by simp [hne.out]),Gr.refl _⟩
end Go.Proofs.YthfhamagopbgcaaGreat

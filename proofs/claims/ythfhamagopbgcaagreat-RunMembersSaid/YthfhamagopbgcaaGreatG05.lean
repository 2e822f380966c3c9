/- Parts: RefJ RefI. -/
import Derived.Test.YthfhamagopbgcaaGreatG04
import Derived.Test.YthfhamagopbgcaaGreatG00
namespace Go.Proofs.YthfhamagopbgcaaGreat
open Go.RowKit

/-- What reading a function gives beside its numbers: their ranges, and that the lists are short. -/
def WfI (x:Ins):Prop:=(0≤x.imm∧x.imm<4294967296)∧(∀ z ∈ x.args,-9223372036854775808≤z∧z≤9223372036854775807)∧x.args.length≤100000∧x.to.length≤100000

theorem argument_to (f:Fn) (x:Ins) (h:Ref.argument f x=true):(∀ t ∈ x.to,0≤t∧t<(f.blocks.length:Int))∧(x.op=28→x.to.length=x.args.length):=by
 unfold Ref.argument at h
 simp only [Bool.and_eq_true] at h
 refine ⟨fun t ht=>?_,fun ho=>?_⟩
 ·have:=List.all_eq_true.1 h.1.2 t ht
  simpa using this
 ·have h1:=h.1.1.2
  simp [Ref.counts,Ref.shape,ho] at h1
  omega
theorem graph_ok (f:Fn) (hA:∀ l ∈ f.blocks,∀ x ∈ l,Ref.argument f x=true):∀ l ∈ Ref.graph f,∀ t ∈ l,0≤t∧t<((Ref.graph f).length:Int):=by
 intro l hl t ht
 unfold Ref.graph at hl ⊢
 obtain ⟨b,hb,rfl⟩:=List.mem_map.1 hl
 rw [List.length_map]
 cases hx:b.getLast? with
 | none=>rw [hx] at ht;simp at ht
 | some x =>
  rw [hx] at ht
  exact (argument_to f x (hA b hb x (List.mem_of_getLast? hx))).1 t (by simpa using ht)
theorem reached_len (g:List (List Int)) (a:Int):(Ref.reached g a).length=g.length:=by
 have h1:∀ (l:List Int) (bs:List Bool),(l.foldl (Ref.spreadEdge a) bs).length=bs.length:=by
  intro l;induction l with
  | nil=>intro bs;rfl
  | cons t r ih=>intro bs;rw [List.foldl_cons,ih,spreadEdge_len]
 have h2:∀ (l:List Nat) (bs:List Bool),(l.foldl (Ref.spreadBlock a g) bs).length=bs.length:=by
  intro l;induction l with
  | nil=>intro bs;rfl
  | cons t r ih=>intro bs;rw [List.foldl_cons,ih];unfold Ref.spreadBlock;split <;> simp [h1]
 have h3:∀ (n:Nat) (bs:List Bool),(Ref.spread a g n bs).length=bs.length:=by
  intro n;induction n with
  | zero=>intro bs;rfl
  | succ n ih=>intro bs;rw [Ref.spread,ih,Ref.spreadRound,h2]
 unfold Ref.reached;split <;> simp [h3]

set_option maxRecDepth 100000 in
set_option maxHeartbeats 8000000 in
theorem stated_any (v:Value) (f:Fn) (w:World) (hf:FnAt w.heap.size w v f) (hs1:1≤f.blocks.length) (hs:f.blocks.length≤100000) (hA:Hid (∀ l ∈ f.blocks,∀ x ∈ l,Ref.argument f x=true)) (hne:Hid (∀ l ∈ f.blocks,l≠[]))
  (hwf:Hid (∀ l ∈ f.blocks,∀ x ∈ l,WfI x)) :
  Calls Tryz.prog 77 #[v] w fun e w'=>e=.returned (.bool (Ref.stated f))∧Gr w w':=by
 have hf0:=hf
 obtain ⟨vp,vs,vb,rfl,hp,hsl,hb⟩:=hf
 obtain ⟨Ap,cp,rfl,-,-,-⟩:=hp
 obtain ⟨As,cs,rfl,-,-,-⟩:=hsl
 obtain ⟨Ab,cb,rfl,-,hb2,hb3⟩:=hb
 obtain ⟨bb,ob,rfl,hbb,hcells⟩:=hb3 (by omega)
 obtain ⟨W,hW⟩:∃ W,w.alloc (.cells #[.slice Ap f.params.length cp,.int .i64 f.ret,.slice As f.slots.length cs,.slice (some ⟨bb,ob,none⟩) f.blocks.length cb] 25)=W:=⟨_,rfl⟩
 have hB0:Gr w W:=by rw [← hW];exact (Gr.refl w).alloc _
 have hWs:W.heap.size=w.heap.size+1:=by rw [← hW];simp
 have b0:∀ o,W.cell? ⟨w.heap.size,o,none⟩=(#[.slice Ap f.params.length cp,.int .i64 f.ret,.slice As f.slots.length cs,.slice (some ⟨bb,ob,none⟩) f.blocks.length cb]:Array Value)[o]?:=by
  intro o;rw [← hW];exact cell_of_row _ _ _ _ _ _ (heap_alloc_new w _)
 have B0:Hid (∀ w',Gr W w'→w'.cell? ⟨w.heap.size,0,none⟩=some (.slice Ap f.params.length cp)∧w'.cell? ⟨w.heap.size,1,none⟩=some (.int .i64 f.ret)∧w'.cell? ⟨w.heap.size,2,none⟩=some (.slice As f.slots.length cs)∧w'.cell? ⟨w.heap.size,3,none⟩=some (.slice (some ⟨bb,ob,none⟩) f.blocks.length cb)) :=
  fun w' g=>⟨(g.cell w.heap.size 0 (by omega)).trans (b0 0),(g.cell w.heap.size 1 (by omega)).trans (b0 1),(g.cell w.heap.size 2 (by omega)).trans (b0 2),(g.cell w.heap.size 3 (by omega)).trans (b0 3)⟩
 obtain ⟨g,hgd⟩:∃ g,g=Ref.graph f:=⟨_,rfl⟩
 obtain ⟨inn,hinn⟩:∃ inn,inn=Ref.reached g (-1):=⟨_,rfl⟩
 have hgl:g.length=f.blocks.length:=by rw [hgd];simp [Ref.graph]
 have hil:inn.length=g.length:=by rw [hinn,reached_len]
 have hok:Hid (∀ l ∈ g,∀ t ∈ l,0≤t∧t<(g.length:Int)):=by rw [hgd];exact graph_ok f hA.out
 have HS:Hid (Ref.stated f=Ref.blksFrom f g inn f.blocks 0):=by show _=_;rw [hinn,hgd];rfl
 have HCg:Hid (Calls Tryz.prog 119 #[.agg #[.slice Ap f.params.length cp,.int .i64 f.ret,.slice As f.slots.length cs,.slice (some ⟨bb,ob,none⟩) f.blocks.length cb]] W fun e w'=>∃ u,e=.returned u∧TabAt w'.heap.size w' u g∧Gr W w'):=by rw [hgd];exact rgraph_any _ f W (hf0.gr hB0) hs hne
 have HCr:Hid (∀ w1 u,TabAt w1.heap.size w1 u g→Calls Tryz.prog 122 #[u,.int .i64 (-1)] w1 fun e w'=>∃ v,e=.returned v∧BoolsAt w'.heap.size w' v inn∧Gr w1 w'):=by
  rw [hinn];exact fun w1 u h=>rreached_any u g (-1) w1 h (by omega) (by omega) hok
 have HGL:=Lib.hid hgl
 have HIL:=Lib.hid hil
 have k0:=B0.out W (Gr.refl _)
 obtain ⟨k0,k1,k2,k3⟩:=k0
 clear hgd hinn hgl hil b0
 go_enter Tryz.func77, Tryz.ntmps77
 go_wp2_with (first
   | (go_at_call 119;refine HCg.out.mono ?_;rintro e w1 ⟨vg,rfl,htab,g1⟩)
   | (go_at_call 122;refine (HCr.out _ _ htab).mono ?_;rintro e w2 ⟨vi,rfl,hbs,g2⟩))
 obtain ⟨Ai,ci,rfl,-,-,hi3⟩:=hbs
 obtain ⟨bi,oi,rfl,hbi,hci⟩:=hi3 (by have:=HIL.out;have:=HGL.out;omega)
 have HI:=Lib.hid hci
 have HTab:=Lib.hid htab
 have HC:=Lib.hid hcells
 have hW2:Gr W w2:=g1.trans g2
 have zlen:(inn.length:Int)=(f.blocks.length:Int):=by have:=HIL.out;have:=HGL.out;omega
 clear hci htab hi3 hb3 hcells
 go_loopw [5,6,7,8] (fun b _ _ _ wr=>∃ k:Nat,k≤f.blocks.length∧b=.int .i64 k∧Gr w2 wr∧Hid (Ref.stated f=Ref.blksFrom f g inn (f.blocks.drop k) k)) (fun b _ _ _ _=>f.blocks.length-(intOf b).toNat)
 case atStart=>exact ⟨0,Nat.zero_le _,rfl,Gr.refl _,by show _=_;rw [HS.out];rfl⟩
 case round =>
  obtain ⟨k,hk,rfl,hgr,hrest⟩:=hrel
  obtain ⟨wo,rfl⟩:∃ wo:World,wo=wr:=⟨_,rfl⟩
  have hgW:=hW2.trans hgr
  obtain ⟨-,-,-,c3⟩:=B0.out _ hgW
  clear k0 k1 k2 k3
  rcases hr:f.blocks.drop k with _ | ⟨l,r⟩
  ·have hkn:=drop_nil hr hk
   have HE:Hid (Ref.stated f=true):=by show _=_;rw [hrest.out,hr];rfl
   subst hkn
   clear hr hrest
   go_wp2
   go_ret
   exact ⟨ret_bool (by rw [HE.out]),hB0.trans hgW⟩
  ·obtain ⟨hlt,hl,hr'⟩:=drop_cons hr
   obtain ⟨u,hu,hul⟩:=HC.out k l hl
   have hu':=((hB0.trans hgW).cell _ _ hbb).trans hu
   obtain ⟨Al,cl,rfl,p1,p2,p3⟩:=hul
   have P3:=Lib.hid p3
   have HL:Hid (l ∈ f.blocks):=List.mem_of_getElem? hl
   obtain ⟨y,hy⟩:∃ y,inn[k]?=some y:=⟨inn[k]'(by have:=HIL.out;have:=HGL.out;omega),by have:=HIL.out;have:=HGL.out;simp [show k<inn.length by omega]⟩
   have qi:=(hgr.cell bi (oi+k) hbi).trans (HI.out k y hy)
   have HR:Hid (Ref.stated f=((!y || Ref.insFrom f g inn k l 0) && Ref.blksFrom f g inn r (k+1))):=by
    show _=_
    rw [hrest.out,hr];simp [Ref.blksFrom,List.getD,hy]
   have HR':Hid (f.blocks.drop (k+1)=r):=hr'
   have HU:=Lib.hid hu
   have zk:(k:Int)<(inn.length:Int):=by omega
   clear hr hl hr' hrest hu hy p3
   cases y with
   | false =>
    go_wp2
    go_roundw
    case rel=>exact ⟨k+1,by omega,by go_num,hgr,by (show _=_;rw [HR.out,HR'.out];simp)⟩
    case measure=>simp [intOf];omega
   | true =>
    have HRt:Hid (Ref.stated f=(Ref.insFrom f g inn k l 0 && Ref.blksFrom f g inn r (k+1))):=by show _=_;rw [HR.out];simp
    clear HR
    go_wp2
    go_loopw [6,7,8] (fun i _ _ wr=>∃ j:Nat,j≤l.length∧i=.int .i64 j∧Gr w2 wr∧Hid (Ref.insFrom f g inn k l 0=Ref.insFrom f g inn k (l.drop j) j)) (fun i _ _ _=>l.length-(intOf i).toNat)
    case atStart=>exact ⟨0,Nat.zero_le _,rfl,hgr,rfl⟩
    case round =>
     obtain ⟨j,hj,rfl,hgr1,hrest1⟩:=hrel
     obtain ⟨wx,rfl⟩:∃ wx:World,wx=wr:=⟨_,rfl⟩
     have hgW1:=hW2.trans hgr1
     obtain ⟨-,-,-,c31⟩:=B0.out _ hgW1
     have hu1:=((hB0.trans hgW1).cell _ _ hbb).trans HU.out
     clear c3 qi hu' hgW hgr
     rcases hr1:l.drop j with _ | ⟨x,r1⟩
     ·have hjn:=drop_nil hr1 hj
      have HE:Hid (Ref.insFrom f g inn k l 0=true):=by show _=_;rw [hrest1.out,hr1];rfl
      subst hjn
      clear hr1 hrest1
      go_wp2
      go_roundw
      case rel=>exact ⟨k+1,by omega,by go_num,hgr1,by (show _=_;rw [HRt.out,HR'.out,HE.out];simp)⟩
      case measure=>simp [intOf];omega
     ·obtain ⟨hlt1,hx,hr1'⟩:=drop_cons hr1
      obtain ⟨bl,ol,rfl,hbl,hcl⟩:=P3.out (by omega)
      obtain ⟨va,vt,i0,i1,i2,i3,i4,i5,hva,hvt⟩:=hcl j x hx
      have HX:Hid (x ∈ l):=List.mem_of_getElem? hx
      have hwx:=hwf.out l HL.out x HX.out
      have HWX:Hid (WfI x):=hwx
      have hax:=hA.out l HL.out x HX.out
      have HTO:=Lib.hid (argument_to f x hax)
      have HR1:Hid (Ref.insFrom f g inn k l 0=(Ref.argsFrom f g inn k j x x.args 0 && Ref.insFrom f g inn k r1 (j+1))):=by show _=_;rw [hrest1.out,hr1];rfl
      have HR1':Hid (l.drop (j+1)=r1):=hr1'
      have gw:=hB0.trans hgW1
      have j0:=(gw.cell _ _ hbl).trans i0
      have j1:=(gw.cell _ _ hbl).trans i1
      have j2:=(gw.cell _ _ hbl).trans i2
      have j3:=(gw.cell _ _ hbl).trans i3
      have j4:=(gw.cell _ _ hbl).trans i4
      have j5:=(gw.cell _ _ hbl).trans i5
      obtain ⟨Aa,ca,rfl,-,-,ha3⟩:=hva
      obtain ⟨At,ct,rfl,-,-,ht3⟩:=hvt
      have HA3:=Lib.hid ha3
      have HT3:=Lib.hid ht3
      have hal:x.args.length≤100000:=HWX.out.2.2.1
      have htl:x.to.length≤100000:=HWX.out.2.2.2
      clear hr1 hx hr1' hrest1 hcl i0 i1 i2 i3 i4 i5 ha3 ht3 hwx hax
      obtain ⟨wy,hwy⟩:∃ wy,wx.alloc (.cells #[.int .i64 x.op,.int .i64 x.width,.int .i64 x.flags,.slice Aa x.args.length ca,.int .u32 x.imm,.slice At x.to.length ct] 67)=wy:=⟨_,rfl⟩
      have b1:∀ o,wy.cell? ⟨wx.heap.size,o,none⟩=(#[.int .i64 x.op,.int .i64 x.width,.int .i64 x.flags,.slice Aa x.args.length ca,.int .u32 x.imm,.slice At x.to.length ct]:Array Value)[o]?:=by
       intro o;rw [← hwy];exact cell_of_row _ _ _ _ _ _ (heap_alloc_new wx _)
      have hgy:Gr w2 wy:=by rw [← hwy];exact hgr1.alloc _
      have hys:wy.heap.size=wx.heap.size+1:=by rw [← hwy];simp
      have B1:=Lib.hid b1
      clear b1
      go_wp2
      have HY:=Lib.hid hwy
      clear hwy j0 j1 j2 j3 j4 j5 hu1 c31
      go_loopw [8] (fun a wr=>∃ m:Nat,m≤x.args.length∧a=.int .i64 m∧Gr wy wr∧Hid (Ref.argsFrom f g inn k j x x.args 0=Ref.argsFrom f g inn k j x (x.args.drop m) m)) (fun a _=>x.args.length-(intOf a).toNat)
      case atStart=>exact ⟨0,Nat.zero_le _,rfl,Gr.refl _,rfl⟩
      case round =>
       obtain ⟨m,hm,rfl,hgq,hrest2⟩:=hrel
       have d0:=(hgq.cell wx.heap.size 0 (by omega)).trans (B1.out 0)
       have d3:=(hgq.cell wx.heap.size 3 (by omega)).trans (B1.out 3)
       simp at d0 d3
       rcases hr2:x.args.drop m with _ | ⟨z,r2⟩
       ·have hmn:=drop_nil hr2 hm
        have HE:Hid (Ref.argsFrom f g inn k j x x.args 0=true):=by show _=_;rw [hrest2.out,hr2];rfl
        subst hmn
        clear hr2 hrest2
        go_wp2
        go_roundw
        case rel=>exact ⟨j+1,by omega,by go_num,hgy.trans hgq,by (show _=_;rw [HR1.out,HR1'.out,HE.out];simp)⟩
        case measure=>simp [intOf];omega
       ·obtain ⟨hlt2,hz,hr2'⟩:=drop_cons hr2
        obtain ⟨ba,oa,rfl,hba,hca⟩:=HA3.out (by omega)
        have hzw:=HWX.out.2.1 z (List.mem_of_getElem? hz)
        have HR2:Hid (Ref.argsFrom f g inn k j x x.args 0=(Ref.argOk f g inn k j x z (x.to.getD m 0) && Ref.argsFrom f g inn k j x r2 (m+1))):=by show _=_;rw [hrest2.out,hr2];rfl
        have HR2':Hid (x.args.drop (m+1)=r2):=hr2'
        have zm0:(0:Int)≤m:=by omega
        have zm1:(m:Int)<(x.args.length:Int):=by omega
        have HTH:Hid (∀ (block place:Int),0≤block→block<(f.blocks.length:Int)→∀ w1,Gr wy w1→Calls Tryz.prog 123 #[.agg #[.slice Ap f.params.length cp,.int .i64 f.ret,.slice As f.slots.length cs,.slice (some ⟨bb,ob,none⟩) f.blocks.length cb],vg,.int .i64 z,.int .i64 block,.int .i64 place] w1 fun e w'=>e=.returned (.bool (Ref.there f g z block place))∧Gr w1 w') :=
         fun block place hb1 hb2 w1 q=>there_any _ vg f g z block place w1 (hf0.gr (hB0.trans (hW2.trans (hgy.trans q)))) hs hzw.1 hzw.2 (HTab.out.gr (g2.trans (hgy.trans q))) (by have:=HGL.out;omega) (by have:=HGL.out;omega) hok hb1 (by have:=HGL.out;omega)
        rcases Decidable.em (x.op=28) with ho | ho
        ·have hto:=HTO.out.2 ho
         obtain ⟨t,htm⟩:∃ t,x.to[m]?=some t:=⟨x.to[m]'(by omega),by simp [show m<x.to.length by omega]⟩
         have htr:=HTO.out.1 t (List.mem_of_getElem? htm)
         obtain ⟨tn,rfl⟩:=Int.eq_ofNat_of_zero_le htr.1
         have htn:tn<f.blocks.length:=by omega
         obtain ⟨bt,ot,rfl,hbt,hct⟩:=HT3.out (by omega)
         obtain ⟨y,hy⟩:∃ y,inn[tn]?=some y:=⟨inn[tn]'(by have:=HIL.out;have:=HGL.out;omega),by have:=HIL.out;have:=HGL.out;simp [show tn<inn.length by omega]⟩
         have HAO:Hid (Ref.argOk f g inn k j x z (x.to.getD m 0)=(!y || Ref.there f g z tn (-1))):=by
          show _=_;unfold Ref.argOk;rw [if_pos ho];simp [List.getD,htm,hy]
         have n28:(x.op == 28)=true:=by simp [ho]
         have kp:Hid (∀ w',Gr wy w'→(w'.cell? ⟨w.heap.size,0,none⟩=some (.slice Ap f.params.length cp)∧w'.cell? ⟨w.heap.size,1,none⟩=some (.int .i64 f.ret)∧w'.cell? ⟨w.heap.size,2,none⟩=some (.slice As f.slots.length cs)∧w'.cell? ⟨w.heap.size,3,none⟩=some (.slice (some ⟨bb,ob,none⟩) f.blocks.length cb)∧w'.cell? ⟨wx.heap.size,0,none⟩=some (.int .i64 x.op)∧w'.cell? ⟨wx.heap.size,3,none⟩=some (.slice (some ⟨ba,oa,none⟩) x.args.length ca)∧w'.cell? ⟨wx.heap.size,5,none⟩=some (.slice (some ⟨bt,ot,none⟩) x.to.length ct)∧w'.cell? ⟨ba,oa+m,none⟩=some (.int .i64 z)∧w'.cell? ⟨bt,ot+m,none⟩=some (.int .i64 tn)∧w'.cell? ⟨bi,oi+tn,none⟩=some (.bool y))):=fun w' q=>⟨(B0.out w' (hW2.trans (hgy.trans q))).1,(B0.out w' (hW2.trans (hgy.trans q))).2.1,(B0.out w' (hW2.trans (hgy.trans q))).2.2.1,(B0.out w' (hW2.trans (hgy.trans q))).2.2.2,(q.cell wx.heap.size 0 (by omega)).trans (B1.out 0),(q.cell wx.heap.size 3 (by omega)).trans (B1.out 3),(q.cell wx.heap.size 5 (by omega)).trans (B1.out 5),((hB0.trans (hW2.trans (hgy.trans q))).cell ba (oa+m) hba).trans (hca m z hz),((hB0.trans (hW2.trans (hgy.trans q))).cell bt (ot+m) hbt).trans (hct m tn htm),((hgy.trans q).cell bi (oi+tn) hbi).trans (HI.out tn y hy)⟩
         have HCT:Hid (∀ w1,Gr wy w1→Calls Tryz.prog 123 #[.agg #[.slice Ap f.params.length cp,.int .i64 f.ret,.slice As f.slots.length cs,.slice (some ⟨bb,ob,none⟩) f.blocks.length cb],vg,.int .i64 z,.int .i64 (tn:Int),.int .i64 (-1)] w1 fun e w'=>e=.returned (.bool (Ref.there f g z tn (-1)))∧Gr w1 w'):=HTH.out tn (-1) (by omega) (by omega)
         have zt0:(0:Int)≤tn:=by omega
         have zt1:(tn:Int)<(inn.length:Int):=by omega
         have zm2:(m:Int)<(x.to.length:Int):=by omega
         clear hr2 hz hr2' hrest2 hca hzw htm htr hct hy HTH hto ho
         cases y with
         | false =>
          obtain ⟨-,-,-,-,-,-,q5,-,qt,qy⟩:=kp.out _ hgq
          go_wp2
          go_quiet (fail)
          go_wp2
          go_roundw
          case rel=>exact ⟨m+1,by omega,by go_num,hgq.drewN _,by (show _=_;rw [HR2.out,HAO.out,HR2'.out];simp)⟩
          case measure=>simp [intOf];omega
         | true =>
          obtain ⟨th,hth⟩:∃ th,Ref.there f g z tn (-1)=th:=⟨_,rfl⟩
          rw [hth] at HCT HAO
          clear hth
          go_wp2
          go_region_held3 (fun w'=>w'.cell? ⟨w.heap.size,0,none⟩=some (.slice Ap f.params.length cp)∧w'.cell? ⟨w.heap.size,1,none⟩=some (.int .i64 f.ret)∧w'.cell? ⟨w.heap.size,2,none⟩=some (.slice As f.slots.length cs)∧w'.cell? ⟨w.heap.size,3,none⟩=some (.slice (some ⟨bb,ob,none⟩) f.blocks.length cb)∧w'.cell? ⟨wx.heap.size,0,none⟩=some (.int .i64 x.op)∧w'.cell? ⟨wx.heap.size,3,none⟩=some (.slice (some ⟨ba,oa,none⟩) x.args.length ca)∧w'.cell? ⟨wx.heap.size,5,none⟩=some (.slice (some ⟨bt,ot,none⟩) x.to.length ct)∧w'.cell? ⟨ba,oa+m,none⟩=some (.int .i64 z)∧w'.cell? ⟨bt,ot+m,none⟩=some (.int .i64 tn)∧w'.cell? ⟨bi,oi+tn,none⟩=some (.bool true)) (first | exact kp.out _ hgq.drew | exact kp.out _ g3) (first | (go_at_call 123;refine (HCT.out _ hgq.drew).mono ?_;rintro e w3 ⟨rfl,g30⟩;have g3:Gr wy w3:=(hgq.drew).trans g30))
          cases th with
          | true =>
           go_wp2
           go_roundw
           case rel=>exact ⟨m+1,by omega,by go_num,g3,by (show _=_;rw [HR2.out,HAO.out,HR2'.out];simp)⟩
           case measure=>simp [intOf];omega
          | false =>
           go_wp2
           go_ret
           exact ⟨ret_bool (by rw [HRt.out,HR1.out,HR2.out,HAO.out];simp),hB0.trans (hW2.trans (hgy.trans g3))⟩
        ·have HAO:Hid (Ref.argOk f g inn k j x z (x.to.getD m 0)=Ref.there f g z k j):=by
          show _=_;unfold Ref.argOk;rw [if_neg ho]
         have n28:(x.op == 28)=false:=by simp [ho]
         have kp:Hid (∀ w',Gr wy w'→(w'.cell? ⟨w.heap.size,0,none⟩=some (.slice Ap f.params.length cp)∧w'.cell? ⟨w.heap.size,1,none⟩=some (.int .i64 f.ret)∧w'.cell? ⟨w.heap.size,2,none⟩=some (.slice As f.slots.length cs)∧w'.cell? ⟨w.heap.size,3,none⟩=some (.slice (some ⟨bb,ob,none⟩) f.blocks.length cb)∧w'.cell? ⟨wx.heap.size,0,none⟩=some (.int .i64 x.op)∧w'.cell? ⟨wx.heap.size,3,none⟩=some (.slice (some ⟨ba,oa,none⟩) x.args.length ca)∧w'.cell? ⟨wx.heap.size,5,none⟩=some (.slice At x.to.length ct)∧w'.cell? ⟨ba,oa+m,none⟩=some (.int .i64 z))):=fun w' q=>⟨(B0.out w' (hW2.trans (hgy.trans q))).1,(B0.out w' (hW2.trans (hgy.trans q))).2.1,(B0.out w' (hW2.trans (hgy.trans q))).2.2.1,(B0.out w' (hW2.trans (hgy.trans q))).2.2.2,(q.cell wx.heap.size 0 (by omega)).trans (B1.out 0),(q.cell wx.heap.size 3 (by omega)).trans (B1.out 3),(q.cell wx.heap.size 5 (by omega)).trans (B1.out 5),((hB0.trans (hW2.trans (hgy.trans q))).cell ba (oa+m) hba).trans (hca m z hz)⟩
         have HCT:Hid (∀ w1,Gr wy w1→Calls Tryz.prog 123 #[.agg #[.slice Ap f.params.length cp,.int .i64 f.ret,.slice As f.slots.length cs,.slice (some ⟨bb,ob,none⟩) f.blocks.length cb],vg,.int .i64 z,.int .i64 (k:Int),.int .i64 (j:Int)] w1 fun e w'=>e=.returned (.bool (Ref.there f g z k j))∧Gr w1 w'):=HTH.out k j (by omega) (by omega)
         clear hr2 hz hr2' hrest2 hca hzw HTH ho
         obtain ⟨th,hth⟩:∃ th,Ref.there f g z k j=th:=⟨_,rfl⟩
         rw [hth] at HCT HAO
         clear hth
         go_wp2
         go_region_held3 (fun w'=>w'.cell? ⟨w.heap.size,0,none⟩=some (.slice Ap f.params.length cp)∧w'.cell? ⟨w.heap.size,1,none⟩=some (.int .i64 f.ret)∧w'.cell? ⟨w.heap.size,2,none⟩=some (.slice As f.slots.length cs)∧w'.cell? ⟨w.heap.size,3,none⟩=some (.slice (some ⟨bb,ob,none⟩) f.blocks.length cb)∧w'.cell? ⟨wx.heap.size,0,none⟩=some (.int .i64 x.op)∧w'.cell? ⟨wx.heap.size,3,none⟩=some (.slice (some ⟨ba,oa,none⟩) x.args.length ca)∧w'.cell? ⟨wx.heap.size,5,none⟩=some (.slice At x.to.length ct)∧w'.cell? ⟨ba,oa+m,none⟩=some (.int .i64 z)) (first | exact kp.out _ hgq.drew | exact kp.out _ g3) (first | (go_at_call 123;refine (HCT.out _ hgq.drew).mono ?_;rintro e w3 ⟨rfl,g30⟩;have g3:Gr wy w3:=(hgq.drew).trans g30))
         cases th with
         | true =>
          go_wp2
          go_roundw
          case rel=>exact ⟨m+1,by omega,by go_num,g3,by (show _=_;rw [HR2.out,HAO.out,HR2'.out];simp)⟩
          case measure=>simp [intOf];omega
         | false =>
          go_wp2
          go_ret
          exact ⟨ret_bool (by rw [HRt.out,HR1.out,HR2.out,HAO.out];simp),hB0.trans (hW2.trans (hgy.trans g3))⟩
end Go.Proofs.YthfhamagopbgcaaGreat
namespace Go.Proofs.YthfhamagopbgcaaGreat
open Go.RowKit

def prevB (l:List Ins) (j:Nat):Bool:=decide (j=0) || decide ((l[j-1]?.map (·.op)).getD 0=28)
theorem prevB_succ (l:List Ins) (j:Nat) (x:Ins) (h:l[j]?=some x):prevB l (j+1)=decide (x.op=28):=by simp [prevB,h]

set_option maxRecDepth 100000 in
set_option maxHeartbeats 8000000 in
theorem rules_any (v:Value) (f:Fn) (w:World) (hf:FnAt w.heap.size w v f) (hs1:1≤f.blocks.length) (hs:f.blocks.length≤100000)
  (hwf:Hid (∀ l ∈ f.blocks,l.length≤100000)) :
  Calls Tryz.prog 75 #[v] w fun e w'=>e=.returned (.bool (Ref.rules f))∧Gr w w':=by
 have hf0:=hf
 obtain ⟨vp,vs,vb,rfl,hp,hsl,hb⟩:=hf
 obtain ⟨Ap,cp,rfl,-,-,-⟩:=hp
 obtain ⟨As,cs,rfl,-,-,-⟩:=hsl
 obtain ⟨Ab,cb,rfl,-,hb2,hb3⟩:=hb
 obtain ⟨bb,ob,rfl,hbb,hcells⟩:=hb3 (by omega)
 obtain ⟨W,hW⟩:∃ W,w.alloc (.cells #[.slice Ap f.params.length cp,.int .i64 f.ret,.slice As f.slots.length cs,.slice (some ⟨bb,ob,none⟩) f.blocks.length cb] 25)=W:=⟨_,rfl⟩
 have hB0:Gr w W:=by rw [← hW];exact (Gr.refl w).alloc _
 have hWs:W.heap.size=w.heap.size+1:=by rw [← hW];simp
 have b0:∀ o,W.cell? ⟨w.heap.size,o,none⟩=(#[.slice Ap f.params.length cp,.int .i64 f.ret,.slice As f.slots.length cs,.slice (some ⟨bb,ob,none⟩) f.blocks.length cb]:Array Value)[o]?:=by
  intro o;rw [← hW];exact cell_of_row _ _ _ _ _ _ (heap_alloc_new w _)
 have B0:Hid (∀ w',Gr W w'→w'.cell? ⟨w.heap.size,0,none⟩=some (.slice Ap f.params.length cp)∧w'.cell? ⟨w.heap.size,1,none⟩=some (.int .i64 f.ret)∧w'.cell? ⟨w.heap.size,2,none⟩=some (.slice As f.slots.length cs)∧w'.cell? ⟨w.heap.size,3,none⟩=some (.slice (some ⟨bb,ob,none⟩) f.blocks.length cb)) :=
  fun w' g=>⟨(g.cell w.heap.size 0 (by omega)).trans (b0 0),(g.cell w.heap.size 1 (by omega)).trans (b0 1),(g.cell w.heap.size 2 (by omega)).trans (b0 2),(g.cell w.heap.size 3 (by omega)).trans (b0 3)⟩
 obtain ⟨g,hgd⟩:∃ g,g=Ref.graph f:=⟨_,rfl⟩
 have hgl:g.length=f.blocks.length:=by rw [hgd];simp [Ref.graph]
 have HS:Hid (Ref.rules f=(f.blocks.all Ref.laid && (Ref.before g 0).isEmpty && Ref.phisFrom g f.blocks 0)):=by show _=_;rw [hgd];rfl
 have HCg:Hid ((∀ l ∈ f.blocks,l≠[])→∀ w1,Gr w w1→Calls Tryz.prog 119 #[.agg #[.slice Ap f.params.length cp,.int .i64 f.ret,.slice As f.slots.length cs,.slice (some ⟨bb,ob,none⟩) f.blocks.length cb]] w1 fun e w'=>∃ u,e=.returned u∧TabAt w'.heap.size w' u g∧Gr w1 w'):=by
  rw [hgd];exact fun hne w1 g1=>rgraph_any _ f w1 (hf0.gr g1) hs hne
 have HCb:Hid (∀ w1 u (z:Int),TabAt w1.heap.size w1 u g→Calls Tryz.prog 120 #[u,.int .i64 z] w1 fun e w'=>∃ v,e=.returned v∧IntsAt w'.heap.size w' v (Ref.before g z)∧Gr w1 w') :=
  fun w1 u z h=>before_any u g z w1 h (by omega)
 have HGL:=Lib.hid hgl
 have HC:=Lib.hid hcells
 obtain ⟨-,-,-,k3⟩:=B0.out W (Gr.refl _)
 clear hgd hgl b0 hcells hb3 hf0
 go_enter Tryz.func75, Tryz.ntmps75
 go_wp2_with fail
 go_loopw [3,4,5] (fun b _ _ wr=>∃ k:Nat,k≤f.blocks.length∧b=.int .i64 k∧Gr W wr∧Hid (f.blocks.all Ref.laid=(f.blocks.drop k).all Ref.laid)∧Hid (∀ l ∈ f.blocks.take k,l≠[])) (fun b _ _ _=>f.blocks.length-(intOf b).toNat)
 case atStart=>exact ⟨0,Nat.zero_le _,rfl,Gr.refl _,rfl,fun l hl=>by simp at hl⟩
 case round =>
  obtain ⟨k,hk,rfl,hgr,hrest,hnone⟩:=hrel
  obtain ⟨wo,rfl⟩:∃ wo:World,wo=wr:=⟨_,rfl⟩
  obtain ⟨c0,c1,c2,c3⟩:=B0.out _ hgr
  clear k3
  rcases hr:f.blocks.drop k with _ | ⟨l,r⟩
  ·have hkn:=drop_nil hr hk
   have HE:Hid (f.blocks.all Ref.laid=true):=by show _=_;rw [hrest.out,hr];rfl
   subst hkn
   have hne:∀ l ∈ f.blocks,l≠[]:=by have:=hnone.out;rwa [List.take_length] at this
   have HCg':=Lib.hid (HCg.out hne)
   clear hr hrest hnone hne
   by_cases hpos:0<(Ref.before g 0).length
   ·have hpos':(0:Int)<((Ref.before g 0).length:Int):=by omega
    go_wp2_with (first
    | (go_at_call 119;refine (HCg'.out _ (hB0.trans hgr)).mono ?_;rintro e w1 ⟨vg,rfl,htab,g1⟩)
    | (go_at_call 120;refine (HCb.out _ _ _ htab).mono ?_;rintro e w2 ⟨vb,rfl,hvb,g2⟩;obtain ⟨A2,c2',rfl,-,hb2',-⟩:=hvb))
    go_ret
    exact ⟨ret_bool (by rw [HS.out];cases hbe:Ref.before g 0 with | nil=>(rw [hbe] at hpos;simp at hpos) | cons a b=>simp),(hB0.trans hgr).trans (g1.trans g2)⟩
   ·have hle:((Ref.before g 0).length:Int)≤0:=by omega
    have HLE:=Lib.hid hle
    go_wp2_with (first
    | (go_at_call 119;refine (HCg'.out _ (hB0.trans hgr)).mono ?_;rintro e w1 ⟨vg,rfl,htab,g1⟩)
    | (go_at_call 120;refine (HCb.out _ _ _ htab).mono ?_;rintro e w2 ⟨vb,rfl,hvb,g2⟩;obtain ⟨A2,c2',rfl,-,hb2',-⟩:=hvb))
    have HP:Hid (Ref.rules f=Ref.phisFrom g f.blocks 0):=by
     show _=_
     have:Ref.before g 0=[]:=List.eq_nil_of_length_eq_zero (by have:=HLE.out;omega)
     rw [HS.out,HE.out,this];simp
    have HTab:Hid (TabAt w2.heap.size w2 vg g):=htab.gr g2
    have hW2:Gr W w2:=hgr.trans (g1.trans g2)
    obtain ⟨-,-,-,d3⟩:=B0.out _ hW2
    clear htab c0 c1 c2 c3
    go_loopw [7,8,9] (fun b _ _ wr=>∃ k:Nat,k≤f.blocks.length∧b=.int .i64 k∧Gr w2 wr∧Hid (Ref.rules f=Ref.phisFrom g (f.blocks.drop k) k)) (fun b _ _ _=>f.blocks.length-(intOf b).toNat)
    case atStart=>exact ⟨0,Nat.zero_le _,rfl,Gr.refl _,HP⟩
    case round =>
     obtain ⟨k,hk,rfl,hgr2,hrest⟩:=hrel
     obtain ⟨wp,rfl⟩:∃ wp:World,wp=wr:=⟨_,rfl⟩
     obtain ⟨-,-,-,d31⟩:=B0.out _ (hW2.trans hgr2)
     clear d3
     rcases hr:f.blocks.drop k with _ | ⟨l,r⟩
     ·have hkn:=drop_nil hr hk
      have HE2:Hid (Ref.rules f=true):=by show _=_;rw [hrest.out,hr];rfl
      subst hkn
      clear hr hrest
      go_wp2
      go_ret
      exact ⟨ret_bool (by rw [HE2.out]),hB0.trans (hW2.trans hgr2)⟩
     ·obtain ⟨hlt,hl,hr'⟩:=drop_cons hr
      obtain ⟨u,hu,hul⟩:=HC.out k l hl
      have hu':=((hB0.trans (hW2.trans hgr2)).cell _ _ hbb).trans hu
      obtain ⟨Al,cl,rfl,p1,p2,p3⟩:=hul
      have P3:=Lib.hid p3
      have HU:=Lib.hid hu
      have HL:Hid (l ∈ f.blocks):=List.mem_of_getElem? hl
      have HR:Hid (Ref.rules f=(l.all (fun x=>decide (x.op≠28) || Ref.sameInts x.to (Ref.before g k)) && Ref.phisFrom g r (k+1))):=by show _=_;rw [hrest.out,hr];rfl
      have HR':Hid (f.blocks.drop (k+1)=r):=hr'
      clear hr hl hr' hrest hu p3
      go_wp2
      go_loopw [8,9] (fun i _ wr=>∃ j:Nat,j≤l.length∧i=.int .i64 j∧Gr w2 wr∧Hid (l.all (fun x=>decide (x.op≠28) || Ref.sameInts x.to (Ref.before g k))=(l.drop j).all (fun x=>decide (x.op≠28) || Ref.sameInts x.to (Ref.before g k)))) (fun i _ _=>l.length-(intOf i).toNat)
      case atStart=>exact ⟨0,Nat.zero_le _,rfl,hgr2,rfl⟩
      case round =>
       obtain ⟨j,hj,rfl,hgr3,hrest1⟩:=hrel
       obtain ⟨wx,rfl⟩:∃ wx:World,wx=wr:=⟨_,rfl⟩
       obtain ⟨-,-,-,d32⟩:=B0.out _ (hW2.trans hgr3)
       have hu1:=((hB0.trans (hW2.trans hgr3)).cell _ _ hbb).trans HU.out
       clear d31 hu'
       rcases hr1:l.drop j with _ | ⟨x,r1⟩
       ·have hjn:=drop_nil hr1 hj
        have HE3:Hid (l.all (fun x=>decide (x.op≠28) || Ref.sameInts x.to (Ref.before g k))=true):=by show _=_;rw [hrest1.out,hr1];rfl
        subst hjn
        clear hr1 hrest1
        go_wp2
        go_roundw
        case rel=>first | exact ⟨k+1,by omega,by go_num,hgr3,by (show _=_;rw [HR.out,HR'.out,HE3.out];simp)⟩ | ((repeat apply Exists.intro);refine ⟨?_,rfl⟩;exact ⟨k+1,by omega,by go_num,hgr3,by (show _=_;rw [HR.out,HR'.out,HE3.out];simp)⟩)
        case measure=>simp [intOf];omega
       ·obtain ⟨hlt1,hx,hr1'⟩:=drop_cons hr1
        obtain ⟨bl,ol,rfl,hbl,hcl⟩:=P3.out (by omega)
        obtain ⟨va,vt,i0,i1,i2,i3,i4,i5,hva,hvt⟩:=hcl j x hx
        have HR1:Hid (l.all (fun x=>decide (x.op≠28) || Ref.sameInts x.to (Ref.before g k))=((decide (x.op≠28) || Ref.sameInts x.to (Ref.before g k)) && r1.all (fun x=>decide (x.op≠28) || Ref.sameInts x.to (Ref.before g k)))):=by show _=_;rw [hrest1.out,hr1];rfl
        have HR1':Hid (l.drop (j+1)=r1):=hr1'
        have gw:=hB0.trans (hW2.trans hgr3)
        have j0:=(gw.cell _ _ hbl).trans i0
        have j1:=(gw.cell _ _ hbl).trans i1
        have j2:=(gw.cell _ _ hbl).trans i2
        have j3:=(gw.cell _ _ hbl).trans i3
        have j4:=(gw.cell _ _ hbl).trans i4
        have j5:=(gw.cell _ _ hbl).trans i5
        have HT:Hid (∀ w',Gr w w'→IntsAt w'.heap.size w' vt x.to):=fun w' q=>hvt.gr q
        obtain ⟨Aa,ca,rfl,-,-,-⟩:=hva
        obtain ⟨At,ct,rfl,-,-,-⟩:=hvt
        clear hr1 hx hr1' hrest1 hcl i0 i1 i2 i3 i4 i5
        obtain ⟨wy,hwy⟩:∃ wy,wx.alloc (.cells #[.int .i64 x.op,.int .i64 x.width,.int .i64 x.flags,.slice Aa x.args.length ca,.int .u32 x.imm,.slice At x.to.length ct] 67)=wy:=⟨_,rfl⟩
        have b1:∀ o,wy.cell? ⟨wx.heap.size,o,none⟩=(#[.int .i64 x.op,.int .i64 x.width,.int .i64 x.flags,.slice Aa x.args.length ca,.int .u32 x.imm,.slice At x.to.length ct]:Array Value)[o]?:=by
         intro o;rw [← hwy];exact cell_of_row _ _ _ _ _ _ (heap_alloc_new wx _)
        have hgy:Gr w2 wy:=by rw [← hwy];exact hgr3.alloc _
        have hys:wy.heap.size=wx.heap.size+1:=by rw [← hwy];simp
        have kp:Hid (∀ w',Gr wy w'→w'.cell? ⟨wx.heap.size,0,none⟩=some (.int .i64 x.op)∧w'.cell? ⟨wx.heap.size,5,none⟩=some (.slice At x.to.length ct)):=fun w' q=>⟨(q.cell wx.heap.size 0 (by omega)).trans (b1 0),(q.cell wx.heap.size 5 (by omega)).trans (b1 5)⟩
        obtain ⟨e0,e5⟩:=kp.out wy (Gr.refl _)
        clear b1
        rcases Decidable.em (x.op=28) with ho | ho
        ·have n28:(x.op == 28)=true:=by simp [ho]
         have HO:=Lib.hid ho
         obtain ⟨sm,hsm⟩:∃ sm,decide (x.to=Ref.before g k)=sm:=⟨_,rfl⟩
         have HSM:Hid (Ref.sameInts x.to (Ref.before g k)=sm):=by show _=_;rw [Ref.sameInts_eq,hsm]
         have HCS:Hid (∀ w1 v1,Gr w w1→IntsAt w1.heap.size w1 v1 (Ref.before g k)→Calls Tryz.prog 19 #[.slice At x.to.length ct,v1] w1 fun e w'=>e=.returned (.bool sm)∧Gr w1 w'):=by
          rw [← hsm];exact fun w1 v1 q h=>SameInts_any _ _ _ _ w1 (HT.out w1 q) h
         clear ho hsm
         go_wp2
         go_region_held3 (fun w'=>w'.cell? ⟨wx.heap.size,0,none⟩=some (.int .i64 x.op)∧w'.cell? ⟨wx.heap.size,5,none⟩=some (.slice At x.to.length ct)) (first | exact kp.out _ (Gr.refl wy).drew | exact kp.out _ g3 | exact kp.out _ g4) (first | (go_at_call 120;refine (HCb.out _ _ _ (HTab.out.gr hgy.drew)).mono ?_;rintro e w3 ⟨vb2,rfl,hvb2,g30⟩;have g3:Gr wy w3:=((Gr.refl wy).drew).trans g30) | (go_at_call 19;refine (HCS.out _ _ (hB0.trans (hW2.trans (hgy.trans g3))) hvb2).mono ?_;rintro e w4 ⟨rfl,g40⟩;have g4:Gr wy w4:=g3.trans g40))
         cases sm with
         | true =>
          go_wp2
          go_roundw
          case rel=>exact ⟨j+1,by omega,by go_num,hgy.trans g4,by (show _=_;rw [HR1.out,HSM.out,HR1'.out];simp)⟩
          case measure=>simp [intOf];omega
         | false =>
          go_wp2
          go_ret
          exact ⟨ret_bool (by rw [HR.out,HR1.out,HSM.out,HO.out];simp),hB0.trans (hW2.trans (hgy.trans g4))⟩
        ·have n28:(x.op == 28)=false:=by simp [ho]
         have HO:=Lib.hid ho
         clear ho
         go_wp2
         go_quiet (fail)
         go_wp2
         go_roundw
         case rel=>exact ⟨j+1,by omega,by go_num,hgy.drewN _,by (show _=_;rw [HR1.out,HR1'.out];simp [HO.out])⟩
         case measure=>simp [intOf];omega
  ·obtain ⟨hlt,hl,hr'⟩:=drop_cons hr
   obtain ⟨u,hu,hul⟩:=HC.out k l hl
   have hu':=((hB0.trans hgr).cell _ _ hbb).trans hu
   obtain ⟨Al,cl,rfl,p1,p2,p3⟩:=hul
   have hlen:l.length≤100000:=hwf.out l (List.mem_of_getElem? hl)
   have HR:Hid (f.blocks.all Ref.laid=(Ref.laid l && r.all Ref.laid)):=by show _=_;rw [hrest.out,hr];rfl
   have HR':Hid (f.blocks.drop (k+1)=r):=hr'
   have HN:Hid (l≠[]→∀ y ∈ f.blocks.take (k+1),y≠[]):=by
    intro h y hy
    obtain ⟨h1,e1⟩:=List.getElem?_eq_some_iff.1 hl
    rw [List.take_succ_eq_append_getElem h1,e1] at hy
    rcases List.mem_append.1 hy with h2 | h2
    ·exact hnone.out y h2
    ·simp at h2;subst h2;exact h
   have P3:=Lib.hid p3
   clear hr hl hr' hrest hu p3 hnone
   by_cases hl0:l.length=0
   ·have n0:((l.length:Int) == 0)=true:=by simp [hl0]
    have HE:Hid (Ref.laid l=false):=by show _=_;rw [List.eq_nil_of_length_eq_zero hl0];rfl
    clear hl0
    go_wp2_with fail
    go_ret
    exact ⟨ret_bool (by rw [HS.out,HR.out,HE.out];simp),hB0.trans hgr⟩
   ·have n0:((l.length:Int) == 0)=false:=by rw [beq_eq_false_iff_ne];omega
    have hne:l≠[]:=fun h=>hl0 (by rw [h];rfl)
    have HN':=Lib.hid (HN.out hne)
    have HLD:Hid (Ref.laid l=Ref.laidFrom l true):=by show _=_;unfold Ref.laid;cases l with | nil=>exact absurd rfl hne | cons a b=>rfl
    obtain ⟨bl,ol,rfl,hbl,hcl⟩:=P3.out (by omega)
    have HCL:=Lib.hid hcl
    clear hl0 hne hcl HN
    go_wp2_with fail
    go_loopw [5] (fun i wr=>∃ j:Nat,j≤l.length∧i=.int .i64 j∧Gr W wr∧Hid (Ref.laidFrom l true=Ref.laidFrom (l.drop j) (prevB l j))) (fun i _=>l.length-(intOf i).toNat)
    case atStart=>exact ⟨0,Nat.zero_le _,rfl,hgr,rfl⟩
    case round =>
     obtain ⟨j,hj,rfl,hgr1,hrest1⟩:=hrel
     clear hu' c0 c1 c2 c3
     rcases hr1:l.drop j with _ | ⟨x,r1⟩
     ·have hjn:=drop_nil hr1 hj
      have HE3:Hid (Ref.laidFrom l true=true):=by show _=_;rw [hrest1.out,hr1];rfl
      subst hjn
      clear hr1 hrest1
      go_wp2_with fail
      go_roundw
      case rel=>exact ⟨k+1,by omega,by go_num,hgr1,by (show _=_;rw [HR.out,HR'.out,HLD.out,HE3.out];simp),HN'.out⟩
      case measure=>simp [intOf];omega
     ·obtain ⟨hlt1,hx,hr1'⟩:=drop_cons hr1
      obtain ⟨va,vt,i0,-,-,-,-,-,-,-⟩:=HCL.out j x hx
      have j0:=((hB0.trans hgr1).cell _ _ hbl).trans i0
      have HR1:Hid (Ref.laidFrom l true=((Ref.isLast x.op == r1.isEmpty) && (decide (x.op≠28) || prevB l j) && Ref.laidFrom r1 (decide (x.op=28)))):=by show _=_;rw [hrest1.out,hr1];rfl
      have HR1':Hid (Ref.laidFrom r1 (decide (x.op=28))=Ref.laidFrom (l.drop (j+1)) (prevB l (j+1))):=by show _=_;rw [prevB_succ l j x hx,hr1']
      have hre:r1.isEmpty=decide ((j:Int)=(l.length:Int)-1):=by
       have h1:r1.length=l.length-(j+1):=by rw [← hr1'];simp
       cases r1 with
       | nil=>rw [List.length_nil] at h1;simp only [List.isEmpty_nil];symm;rw [decide_eq_true_eq];omega
       | cons a b=>rw [List.length_cons] at h1;simp only [List.isEmpty_cons];symm;rw [decide_eq_false_iff_not];omega
      obtain ⟨em,hem⟩:∃ em,((j:Int) == (l.length:Int)-1)=em:=⟨_,rfl⟩
      have HEM:Hid (r1.isEmpty=em):=by show _=_;rw [hre,← hem];rfl
      obtain ⟨la,hla⟩:∃ la,Ref.isLast x.op=la:=⟨_,rfl⟩
      have HCI:Hid (∀ w1,Calls Tryz.prog 118 #[.int .i64 x.op] w1 fun e w'=>e=.returned (.bool la)∧w1=w'):=by rw [← hla];exact fun w1=>isLast_any x.op w1
      have HLA:=Lib.hid hla
      have HXC:Hid (∀ j' x',l[j']?=some x'→w.cell? ⟨bl,ol+j' * 6,none⟩=some (.int .i64 x'.op)):=fun j' x' h=>by obtain ⟨_,_,i0,-⟩:=HCL.out j' x' h;exact i0
      clear hr1 hx hr1' hrest1 i0 hre hla
      by_cases heq:em=la
      ·subst heq
       by_cases hj0:j=0
       ·have HPB:Hid (prevB l j=true):=by show _=_;rw [hj0];rfl
        have hz:(j:Int)≤0:=by omega
        clear hj0
        cases em <;>
        ·go_wp2_with (go_at_call 118;refine (HCI.out _).mono ?_;rintro e w1 ⟨rfl,rfl⟩)
         go_roundw
         case rel=>exact ⟨j+1,by omega,by go_num,hgr1,by (show _=_;rw [HR1.out,HLA.out,HEM.out,HPB.out,HR1'.out];simp)⟩
         case measure=>simp [intOf];omega
       ·obtain ⟨p,hp⟩:∃ p,p+1=j:=⟨j-1,by omega⟩
        obtain ⟨x',hx'⟩:∃ x',l[p]?=some x':=⟨l[p]'(by omega),by simp [show p<l.length by omega]⟩
        have j1:=((hB0.trans hgr1).cell _ _ hbl).trans (HXC.out p x' hx')
        have HPB:Hid (prevB l j=decide (x'.op=28)):=by show _=_;rw [← hp];exact prevB_succ l p x' hx'
        have wj:(j:Int)-1=p:=by omega
        have hz:(0:Int)<j:=by omega
        have hpl:(p:Int)<(l.length:Int):=by omega
        clear hx' hj0 hp
        cases em <;>
        ·go_wp2_with (go_at_call 118;refine (HCI.out _).mono ?_;rintro e w1 ⟨rfl,rfl⟩)
         all_goals first
          | (go_ret;exact ⟨ret_bool (by rw [HS.out,HR.out,HLD.out,HR1.out,HLA.out,HEM.out,HPB.out];grind),hB0.trans hgr1⟩)
          | (go_roundw
             case rel=>exact ⟨j+1,by omega,by go_num,hgr1,by (show _=_;rw [HR1.out,HLA.out,HEM.out,HPB.out,HR1'.out];grind)⟩
             case measure=>simp [intOf];omega)
      ·have HNE:=Lib.hid heq
       clear heq
       cases em <;> cases la <;> first
        | exact absurd rfl HNE.out
        | (go_wp2_with (go_at_call 118;refine (HCI.out _).mono ?_;rintro e w1 ⟨rfl,rfl⟩)
           go_ret
           exact ⟨ret_bool (by rw [HS.out,HR.out,HLD.out,HR1.out,HLA.out,HEM.out];simp),hB0.trans hgr1⟩)
end Go.Proofs.YthfhamagopbgcaaGreat

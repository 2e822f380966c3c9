/- typed and its closures. -/
import Derived.Test.YthfhamagopbgcaaGreatG12
import Derived.Deep.QuietTactic
import Derived.BigQuiet
import Derived.Deep.RegionWith
namespace Go.Proofs.YthfhamagopbgcaaGreat
open Go.RowKit

/-- The kind of an Arg. -/
theorem typed1_any (i:Nat) (args ks:List Int) (Bx Bk:Nat) (va vk:Value) (w:World) (hx:w.cell? ⟨Bx,3,none⟩=some va) (hk:w.cell? ⟨Bk,0,none⟩=some vk) (ha:IntsAt w.heap.size w va args) (hks:IntsAt w.heap.size w vk ks) (hi:i<args.length) :
  Calls Tryz.prog 111 #[.int .i64 (i:Int),.pointer (some ⟨Bx,0,none⟩),.pointer (some ⟨Bk,0,none⟩)] w fun e w'=>e=.returned (.int .i64 (Ir.kv ks (args.getD i 0)))∧w=w':=by
 obtain ⟨Aa,ca,rfl,a1,a2,a3⟩:=ha
 obtain ⟨Ak,ck,rfl,k1,k2,k3⟩:=hks
 obtain ⟨ba,oa,rfl,hba,hca⟩:=a3 (by omega)
 obtain ⟨z,hz⟩:∃ z,args[i]?=some z:=⟨args[i],by simp [hi]⟩
 have hcell:=hca i z hz
 have HZ:Hid (args[i]?.getD 0=z):=by show _=_;simp [hz]
 have hi':(i:Int)<args.length:=by omega
 clear a3 hca hz hi
 by_cases h0:z<0
 ·go_enter Tryz.func111, Tryz.ntmps111
  go_wp2
  go_ret
  exact ⟨ret_int (by rw [HZ.out,Ir.kv,if_pos (by omega)]),rfl⟩
 ·by_cases h1:(ks.length:Int)≤z
  ·clear k3
   go_enter Tryz.func111, Tryz.ntmps111
   go_wp2
   go_ret
   exact ⟨ret_int (by rw [HZ.out,Ir.kv,if_pos (by omega)]),rfl⟩
  ·obtain ⟨n,rfl⟩:=Int.eq_ofNat_of_zero_le (show 0≤z by omega)
   obtain ⟨bk,ok,rfl,hbk,hck⟩:=k3 (by omega)
   obtain ⟨y,hy⟩:∃ y,ks[n]?=some y:=⟨ks[n]'(by omega),List.getElem?_eq_getElem (by omega)⟩
   have hcell2:=hck n y hy
   have HY:Hid (Ir.kv ks (n:Int)=y):=by show _=_;rw [Ir.kv,if_neg (by omega)];simp [List.getD,hy]
   have hn1:(n:Int)<ks.length:=by omega
   clear k3 hck hy h0 h1
   go_enter Tryz.func111, Tryz.ntmps111
   go_wp2
   go_ret
   exact ⟨ret_int (by rw [List.getD_eq_getElem?_getD,HZ.out,HY.out]),rfl⟩

theorem typed2_any (k:Int) (args ks:List Int) (Bx Bo:Nat) (va p1 p2:Value) (w:World) (hx:w.cell? ⟨Bx,3,none⟩=some va) (ho:w.cell? ⟨Bo,0,none⟩=some (.func (.func 111) #[] #[p1,p2])) (ha:IntsAt w.heap.size w va args)
  (H1:Hid (∀ i:Nat,i<args.length→Calls Tryz.prog 111 #[.int .i64 (i:Int),p1,p2] w fun e w'=>e=.returned (.int .i64 (Ir.kv ks (args.getD i 0)))∧w=w')) :
  Calls Tryz.prog 112 #[.int .i64 k,.pointer (some ⟨Bx,0,none⟩),.pointer (some ⟨Bo,0,none⟩)] w fun e w'=>e=.returned (.bool (args.all fun v=>decide (Ir.kv ks v=k)))∧w=w':=by
 obtain ⟨Aa,ca,rfl,a1,a2,-⟩:=ha
 go_enter Tryz.func112, Tryz.ntmps112
 go_wp2
 go_loop [5,9] (fun _ i=>∃ j:Nat,j≤args.length∧i=.int .i64 j∧Hid ((args.all fun v=>decide (Ir.kv ks v=k))=((args.drop j).all fun v=>decide (Ir.kv ks v=k)))) (fun _ i=>args.length-(intOf i).toNat)
 case atStart=>exact ⟨0,Nat.zero_le _,rfl,rfl⟩
 case round =>
  obtain ⟨j,hj,rfl,hrest⟩:=hrel
  rcases hr:args.drop j with _ | ⟨z,r⟩
  ·have hjn:=drop_nil hr hj
   have HE:Hid ((args.all fun v=>decide (Ir.kv ks v=k))=true):=by show _=_;rw [hrest.out,hr];rfl
   subst hjn
   clear hr hrest
   go_wp2
   go_ret
   exact ⟨ret_bool (by rw [HE.out]),rfl⟩
  ·obtain ⟨hlt,hz,hr'⟩:=drop_cons hr
   have HC:=Lib.hid (H1.out j hlt)
   have hg:args.getD j 0=z:=by simp [List.getD,hz]
   rw [hg] at HC
   obtain ⟨y,hy⟩:∃ y,Ir.kv ks z=y:=⟨_,rfl⟩
   have HR:Hid ((args.all fun v=>decide (Ir.kv ks v=k))=(decide (y=k) && r.all fun v=>decide (Ir.kv ks v=k))):=by show _=_;rw [hrest.out,hr,List.all_cons,hy]
   have HR':Hid (args.drop (j+1)=r):=hr'
   rw [hy] at HC
   clear hr hz hr' hrest hy hg
   by_cases hq:y=k
   ·have hq2:(y != k)=false:=by simp [hq]
    have HQ:=Lib.hid hq
    clear hq
    go_wp2_with (go_at_call 111;refine HC.out.mono ?_;rintro e w1 ⟨rfl,rfl⟩)
    go_round
    case rel=>exact ⟨j+1,by omega,by go_num,by (show _=_;rw [HR.out,HR'.out];simp [HQ.out])⟩
    case measure=>simp [intOf];omega
   ·have hq2:(y != k)=true:=by simp [hq]
    go_wp2_with (go_at_call 111;refine HC.out.mono ?_;rintro e w1 ⟨rfl,rfl⟩)
    go_ret
    exact ⟨ret_bool (by rw [HR.out];simp [hq]),rfl⟩

/-- A box that has been laid: its cells, in every later world. -/
theorem cell_box {V W:World} {B:Nat} (c:Array Value) (t:TypeId) (i:Nat) (g:Gr (V.alloc (.cells c t)) W) (hB:V.heap.size=B):W.cell? ⟨B,i,none⟩=c[i]?:=by
 subst hB
 exact (g.cell V.heap.size i (by simp)).trans (cell_of_row _ _ _ _ _ _ (heap_alloc_new V _))

set_option maxRecDepth 100000 in
set_option maxHeartbeats 4000000 in
theorem ityped_any (f:Fn) (x:Ins) (ks:List Int) (vp vs vb:Value) (Aa At Ak:Option Addr) (ca ct ck:Nat) (w:World) (ha:IntsAt w.heap.size w (.slice Aa x.args.length ca) x.args) (hk:IntsAt w.heap.size w (.slice Ak ks.length ck) ks)
  (hl:(Ir.classOf x.op=3→2≤x.args.length)∧(Ir.classOf x.op=4→3≤x.args.length)∧(Ir.classOf x.op=5→1≤x.args.length)∧(Ir.classOf x.op=6→1≤x.args.length)∧(Ir.classOf x.op=11→2≤x.args.length)∧(Ir.classOf x.op=12→1≤x.args.length)∧(Ir.classOf x.op=13→2≤x.args.length)∧(Ir.classOf x.op=16→1≤x.args.length)) :
  Calls Tryz.prog 68 #[.agg #[vp,.int .i64 f.ret,vs,vb],.agg #[.int .i64 x.op,.int .i64 x.width,.int .i64 x.flags,.slice Aa x.args.length ca,.int .u32 x.imm,.slice At x.to.length ct],.slice Ak ks.length ck] w fun e w' =>
   e=.returned (.bool (Ir.typed f x ks))∧Gr w w':=by
 obtain ⟨W,hW⟩:∃ W,(((w.alloc (.cells #[vp,.int .i64 f.ret,vs,vb] 25)).alloc (.cells #[.int .i64 x.op,.int .i64 x.width,.int .i64 x.flags,.slice Aa x.args.length ca,.int .u32 x.imm,.slice At x.to.length ct] 67)).alloc (.cells #[.slice Ak ks.length ck] 22)).alloc (.cells #[.func (.func 111) #[] #[.pointer (some ⟨w.heap.size+1,0,none⟩),.pointer (some ⟨w.heap.size+1+1,0,none⟩)]] 117)=W:=⟨_,rfl⟩
 have hst:=store_new (((w.alloc (.cells #[vp,.int .i64 f.ret,vs,vb] 25)).alloc (.cells #[.int .i64 x.op,.int .i64 x.width,.int .i64 x.flags,.slice Aa x.args.length ca,.int .u32 x.imm,.slice At x.to.length ct] 67)).alloc (.cells #[.slice Ak ks.length ck] 22)) (.func (.func 111) #[] #[.pointer (some ⟨w.heap.size+1,0,none⟩),.pointer (some ⟨w.heap.size+1+1,0,none⟩)]) .nilFunc 117 (w.heap.size+1+1+1) (by simp) rfl
 rw [hW] at hst
 have hB0:Gr w W:=by rw [← hW];exact ((((Gr.refl w).alloc _).alloc _).alloc _).alloc _
 have g0:Gr (w.alloc (.cells #[vp,.int .i64 f.ret,vs,vb] 25)) W:=by rw [← hW];exact (((Gr.refl _).alloc _).alloc _).alloc _
 have g1:Gr ((w.alloc (.cells #[vp,.int .i64 f.ret,vs,vb] 25)).alloc (.cells #[.int .i64 x.op,.int .i64 x.width,.int .i64 x.flags,.slice Aa x.args.length ca,.int .u32 x.imm,.slice At x.to.length ct] 67)) W:=by rw [← hW];exact ((Gr.refl _).alloc _).alloc _
 have g2:Gr (((w.alloc (.cells #[vp,.int .i64 f.ret,vs,vb] 25)).alloc (.cells #[.int .i64 x.op,.int .i64 x.width,.int .i64 x.flags,.slice Aa x.args.length ca,.int .u32 x.imm,.slice At x.to.length ct] 67)).alloc (.cells #[.slice Ak ks.length ck] 22)) W:=by rw [← hW];exact (Gr.refl _).alloc _
 have hWs:W.heap.size=w.heap.size+4:=by rw [← hW];simp
 have g3:Gr W W:=Gr.refl _
 have c1:W.cell? ⟨w.heap.size,1,none⟩=some (.int .i64 f.ret):=cell_box _ _ 1 g0 rfl
 have d0:W.cell? ⟨w.heap.size+1,0,none⟩=some (.int .i64 x.op):=cell_box _ _ 0 g1 (by simp)
 have d1:W.cell? ⟨w.heap.size+1,1,none⟩=some (.int .i64 x.width):=cell_box _ _ 1 g1 (by simp)
 have d3:W.cell? ⟨w.heap.size+1,3,none⟩=some (.slice Aa x.args.length ca):=cell_box _ _ 3 g1 (by simp)
 have k0:W.cell? ⟨w.heap.size+1+1,0,none⟩=some (.slice Ak ks.length ck):=cell_box _ _ 0 g2 (by simp)
 have o0:W.cell? ⟨w.heap.size+1+1+1,0,none⟩=some (.func (.func 111) #[] #[.pointer (some ⟨w.heap.size+1,0,none⟩),.pointer (some ⟨w.heap.size+1+1,0,none⟩)]):=by
  rw [← hW] at g3 ⊢;exact cell_box _ _ 0 g3 (by simp)
 clear g0 g1 g2 g3
 have H1:Hid (∀ (i:Nat) w1,Gr W w1→i<x.args.length→Calls Tryz.prog 111 #[.int .i64 (i:Int),.pointer (some ⟨w.heap.size+1,0,none⟩),.pointer (some ⟨w.heap.size+1+1,0,none⟩)] w1 fun e w'=>e=.returned (.int .i64 (Ir.kof ks x i))∧w1=w'):=by
  intro i w1 q hi
  exact typed1_any i x.args ks _ _ _ _ w1 ((q.cell _ _ (by omega)).trans d3) ((q.cell _ _ (by omega)).trans k0) (ha.gr (hB0.trans q)) (hk.gr (hB0.trans q)) hi
 have H2:Hid (∀ (k:Int) w1,Gr W w1→Calls Tryz.prog 112 #[.int .i64 k,.pointer (some ⟨w.heap.size+1,0,none⟩),.pointer (some ⟨w.heap.size+1+1+1,0,none⟩)] w1 fun e w'=>e=.returned (.bool (Ir.each ks x k))∧w1=w'):=by
  intro k w1 q
  exact typed2_any k x.args ks _ _ _ _ _ w1 ((q.cell _ _ (by omega)).trans d3) ((q.cell _ _ (by omega)).trans o0) (ha.gr (hB0.trans q)) (fun i hi=>H1.out i w1 q hi)
 have HK:Hid (∀ w1,Calls Tryz.prog 113 #[.int .i64 x.op] w1 fun e w'=>e=.returned (.int .i64 (Ir.classOf x.op))∧w1=w'):=fun w1=>classOf_any x.op w1
 have HR:Hid (Ir.classOf x.op=0∨Ir.classOf x.op=1∨Ir.classOf x.op=2∨Ir.classOf x.op=3∨Ir.classOf x.op=4∨Ir.classOf x.op=5∨Ir.classOf x.op=6∨Ir.classOf x.op=7∨Ir.classOf x.op=8∨Ir.classOf x.op=9∨Ir.classOf x.op=10∨Ir.classOf x.op=11∨Ir.classOf x.op=12∨Ir.classOf x.op=13∨Ir.classOf x.op=14∨Ir.classOf x.op=15∨Ir.classOf x.op=16∨Ir.classOf x.op=17∨Ir.classOf x.op=18):=by
  have:=classOf_range x.op
  show _∨_
  omega
 have HT0:Hid (∀ c,Ir.classOf x.op=c→Ir.typed f x ks=if c=2∨c=7∨c=8∨c=14 then Ir.each ks x x.width
     else if c=3 then Ref.isWidth (Ir.kof ks x 0) && Ir.each ks x (Ir.kof ks x 0)
     else if c=4 then decide (Ir.kof ks x 0=1) && decide (Ir.kof ks x 1=x.width) && decide (Ir.kof ks x 2=x.width)
     else if c=5 then Ref.isWidth (Ir.kof ks x 0) && decide (Ir.kof ks x 0<x.width)
     else if c=6 then Ref.isWidth (Ir.kof ks x 0) && decide (x.width<Ir.kof ks x 0)
     else if c=11 then decide (Ir.kof ks x 0=33) && Ref.isWidth (Ir.kof ks x 1)
     else if c=12 then decide (Ir.kof ks x 0=33)
     else if c=13 then decide (Ir.kof ks x 0=33) && Ref.isMem (Ir.kof ks x 1)
     else if c=16 then decide (Ir.kof ks x 0=1)
     else if c=17 then Ir.each ks x f.ret
     else true):=by
  intro c h;unfold Ir.typed;rw [h]
 obtain ⟨hl3,hl4,hl5,hl6,hl11,hl12,hl13,hl16⟩:=hl
 clear ha hk
 rcases HR.out with h | h | h | h | h | h | h | h | h | h | h | h | h | h | h | h | h | h | h
 ·have HT:=Lib.hid (HT0.out _ h)
  rw [h] at HK
  clear h hl3 hl4 hl5 hl6 hl11 hl12 hl13 hl16 HT0 HR H1 H2
  go_enter Tryz.func68, Tryz.ntmps68
  go_wp2_with (go_at_call 113;refine (HK.out _).mono ?_;rintro e w1 ⟨rfl,rfl⟩)
  go_ret
  exact ⟨ret_bool (by rw [HT.out];rfl),hB0⟩
 ·have HT:=Lib.hid (HT0.out _ h)
  rw [h] at HK
  clear h hl3 hl4 hl5 hl6 hl11 hl12 hl13 hl16 HT0 HR H1 H2
  go_enter Tryz.func68, Tryz.ntmps68
  go_wp2_with (go_at_call 113;refine (HK.out _).mono ?_;rintro e w1 ⟨rfl,rfl⟩)
  go_ret
  exact ⟨ret_bool (by rw [HT.out];rfl),hB0⟩
 ·have HT:Hid (Ir.typed f x ks=Ir.each ks x x.width):=by show _=_;rw [HT0.out _ h];rfl
  have HE:=Lib.hid (H2.out x.width)
  obtain ⟨q,hq⟩:∃ q,Ir.each ks x x.width=q:=⟨_,rfl⟩
  rw [hq] at HT HE
  rw [h] at HK
  clear h hl3 hl4 hl5 hl6 hl11 hl12 hl13 hl16 HT0 HR H1 H2 hq
  go_enter Tryz.func68, Tryz.ntmps68
  go_wp2_with (first | (go_at_call 113;refine (HK.out _).mono ?_;rintro e w1 ⟨rfl,rfl⟩) | (go_at_call 112;refine (HE.out _ (Gr.refl _)).mono ?_;rintro e w1 ⟨rfl,rfl⟩))
  go_ret
  exact ⟨ret_bool (by rw [HT.out]),hB0⟩
 ·have HT:Hid (Ir.typed f x ks=(Ref.isWidth (Ir.kof ks x 0) && Ir.each ks x (Ir.kof ks x 0))):=by show _=_;rw [HT0.out _ h];rfl
  have C0:Hid (∀ w1,Gr W w1→Calls Tryz.prog 111 #[.int .i64 0,.pointer (some ⟨w.heap.size+1,0,none⟩),.pointer (some ⟨w.heap.size+1+1,0,none⟩)] w1 fun e w'=>e=.returned (.int .i64 (Ir.kof ks x 0))∧w1=w'):=fun w1 q=>H1.out 0 w1 q (by have:=hl3 h;omega)
  have HE:=Lib.hid (H2.out (Ir.kof ks x 0))
  obtain ⟨y0,hy0⟩:∃ y,Ir.kof ks x 0=y:=⟨_,rfl⟩
  rw [hy0] at HT C0 HE
  rw [h] at HK
  clear h hl3 hl4 hl5 hl6 hl11 hl12 hl13 hl16 HT0 HR H1 H2 hy0
  obtain ⟨q,hq⟩:∃ q,Ir.each ks x y0=q:=⟨_,rfl⟩
  rw [hq] at HT HE
  clear hq
  have HN:Hid (∀ w1,Calls Tryz.prog 102 #[.int .i64 y0] w1 fun e w'=>e=.returned (.bool (Ref.isWidth y0))∧w1=w'):=fun w1=>isNumber_any y0 w1
  obtain ⟨iw,hiw⟩:∃ iw,Ref.isWidth y0=iw:=⟨_,rfl⟩
  rw [hiw] at HT HN
  clear hiw
  cases iw
  all_goals go_enter Tryz.func68, Tryz.ntmps68
  all_goals go_wp2_with (first | (go_at_call 113;refine (HK.out _).mono ?_;rintro e w1 ⟨rfl,rfl⟩) | (go_at_call 111;refine (C0.out _ (Gr.refl _)).mono ?_;rintro e w1 ⟨rfl,rfl⟩) | (go_at_call 102;refine (HN.out _).mono ?_;rintro e w1 ⟨rfl,rfl⟩) | (go_at_call 112;refine (HE.out _ (Gr.refl _)).mono ?_;rintro e w1 ⟨rfl,rfl⟩))
  all_goals go_ret
  all_goals exact ⟨ret_bool (by rw [HT.out];rfl),hB0⟩
 ·have HT:Hid (Ir.typed f x ks=(decide (Ir.kof ks x 0=1) && decide (Ir.kof ks x 1=x.width) && decide (Ir.kof ks x 2=x.width))):=by show _=_;rw [HT0.out _ h];rfl
  have C0:Hid (∀ w1,Gr W w1→Calls Tryz.prog 111 #[.int .i64 0,.pointer (some ⟨w.heap.size+1,0,none⟩),.pointer (some ⟨w.heap.size+1+1,0,none⟩)] w1 fun e w'=>e=.returned (.int .i64 (Ir.kof ks x 0))∧w1=w'):=fun w1 q=>H1.out 0 w1 q (by have:=hl4 h;omega)
  have C1:Hid (∀ w1,Gr W w1→Calls Tryz.prog 111 #[.int .i64 1,.pointer (some ⟨w.heap.size+1,0,none⟩),.pointer (some ⟨w.heap.size+1+1,0,none⟩)] w1 fun e w'=>e=.returned (.int .i64 (Ir.kof ks x 1))∧w1=w'):=fun w1 q=>H1.out 1 w1 q (by have:=hl4 h;omega)
  have C2:Hid (∀ w1,Gr W w1→Calls Tryz.prog 111 #[.int .i64 2,.pointer (some ⟨w.heap.size+1,0,none⟩),.pointer (some ⟨w.heap.size+1+1,0,none⟩)] w1 fun e w'=>e=.returned (.int .i64 (Ir.kof ks x 2))∧w1=w'):=fun w1 q=>H1.out 2 w1 q (by have:=hl4 h;omega)
  obtain ⟨y0,hy0⟩:∃ y,Ir.kof ks x 0=y:=⟨_,rfl⟩
  rw [hy0] at HT C0
  obtain ⟨y1,hy1⟩:∃ y,Ir.kof ks x 1=y:=⟨_,rfl⟩
  rw [hy1] at HT C1
  obtain ⟨y2,hy2⟩:∃ y,Ir.kof ks x 2=y:=⟨_,rfl⟩
  rw [hy2] at HT C2
  rw [h] at HK
  clear h hl3 hl4 hl5 hl6 hl11 hl12 hl13 hl16 HT0 HR H1 H2 hy0 hy1 hy2
  obtain ⟨a0,h0⟩:∃ a0,(y0 == 1)=a0:=⟨_,rfl⟩
  obtain ⟨a1,h1⟩:∃ a1,(y1 == x.width)=a1:=⟨_,rfl⟩
  obtain ⟨a2,h2⟩:∃ a2,(y2 == x.width)=a2:=⟨_,rfl⟩
  have HT2:Hid (Ir.typed f x ks=(a0 && a1 && a2)):=by show _=_;rw [HT.out,← h0,← h1,← h2];rfl
  cases a0
  all_goals cases a1
  all_goals cases a2
  all_goals go_enter Tryz.func68, Tryz.ntmps68
  all_goals go_wp2_with (go_at_call 113;refine (HK.out _).mono ?_;rintro e w1 ⟨rfl,rfl⟩)
  all_goals go_quiet (first | fail | (go_at_call_of 111 (Value.int IntKind.i64 0);exact quiet_same (C0.out _ ((Gr.refl _).drewN _))) | (go_at_call_of 111 (Value.int IntKind.i64 1);exact quiet_same (C1.out _ ((Gr.refl _).drewN _))) | (go_at_call_of 111 (Value.int IntKind.i64 2);exact quiet_same (C2.out _ ((Gr.refl _).drewN _))))
  all_goals go_wp2
  all_goals go_ret
  all_goals exact ⟨ret_bool (by rw [HT2.out];rfl),hB0.drewN _⟩
 ·have HT:Hid (Ir.typed f x ks=(Ref.isWidth (Ir.kof ks x 0) && decide (Ir.kof ks x 0<x.width))):=by show _=_;rw [HT0.out _ h];rfl
  have C0:Hid (∀ w1,Gr W w1→Calls Tryz.prog 111 #[.int .i64 0,.pointer (some ⟨w.heap.size+1,0,none⟩),.pointer (some ⟨w.heap.size+1+1,0,none⟩)] w1 fun e w'=>e=.returned (.int .i64 (Ir.kof ks x 0))∧w1=w'):=fun w1 q=>H1.out 0 w1 q (by have:=hl5 h;omega)
  obtain ⟨y0,hy0⟩:∃ y,Ir.kof ks x 0=y:=⟨_,rfl⟩
  rw [hy0] at HT C0
  rw [h] at HK
  clear h hl3 hl4 hl5 hl6 hl11 hl12 hl13 hl16 HT0 HR H1 H2 hy0
  have HN:Hid (∀ w1,Calls Tryz.prog 102 #[.int .i64 y0] w1 fun e w'=>e=.returned (.bool (Ref.isWidth y0))∧w1=w'):=fun w1=>isNumber_any y0 w1
  obtain ⟨iw,hiw⟩:∃ iw,Ref.isWidth y0=iw:=⟨_,rfl⟩
  rw [hiw] at HT HN
  clear hiw
  obtain ⟨d,hd⟩:∃ d,decide (y0<x.width)=d:=⟨_,rfl⟩
  rw [hd] at HT
  cases iw
  all_goals cases d
  all_goals go_enter Tryz.func68, Tryz.ntmps68
  all_goals go_wp2_with (go_at_call 113;refine (HK.out _).mono ?_;rintro e w1 ⟨rfl,rfl⟩)
  all_goals go_quiet (first | fail | (go_at_call 111;exact quiet_same (C0.out _ ((Gr.refl _).drewN _))) | (go_at_call 102;exact quiet_same (HN.out _)))
  all_goals go_wp2
  all_goals go_ret
  all_goals exact ⟨ret_bool (by rw [HT.out];rfl),hB0.drewN _⟩
 ·have HT:Hid (Ir.typed f x ks=(Ref.isWidth (Ir.kof ks x 0) && decide (x.width<Ir.kof ks x 0))):=by show _=_;rw [HT0.out _ h];rfl
  have C0:Hid (∀ w1,Gr W w1→Calls Tryz.prog 111 #[.int .i64 0,.pointer (some ⟨w.heap.size+1,0,none⟩),.pointer (some ⟨w.heap.size+1+1,0,none⟩)] w1 fun e w'=>e=.returned (.int .i64 (Ir.kof ks x 0))∧w1=w'):=fun w1 q=>H1.out 0 w1 q (by have:=hl6 h;omega)
  obtain ⟨y0,hy0⟩:∃ y,Ir.kof ks x 0=y:=⟨_,rfl⟩
  rw [hy0] at HT C0
  rw [h] at HK
  clear h hl3 hl4 hl5 hl6 hl11 hl12 hl13 hl16 HT0 HR H1 H2 hy0
  have HN:Hid (∀ w1,Calls Tryz.prog 102 #[.int .i64 y0] w1 fun e w'=>e=.returned (.bool (Ref.isWidth y0))∧w1=w'):=fun w1=>isNumber_any y0 w1
  obtain ⟨iw,hiw⟩:∃ iw,Ref.isWidth y0=iw:=⟨_,rfl⟩
  rw [hiw] at HT HN
  clear hiw
  obtain ⟨d,hd⟩:∃ d,decide (x.width<y0)=d:=⟨_,rfl⟩
  rw [hd] at HT
  cases iw
  all_goals cases d
  all_goals go_enter Tryz.func68, Tryz.ntmps68
  all_goals go_wp2_with (go_at_call 113;refine (HK.out _).mono ?_;rintro e w1 ⟨rfl,rfl⟩)
  all_goals go_quiet (first | fail | (go_at_call 111;exact quiet_same (C0.out _ ((Gr.refl _).drewN _))) | (go_at_call 102;exact quiet_same (HN.out _)))
  all_goals go_wp2
  all_goals go_ret
  all_goals exact ⟨ret_bool (by rw [HT.out];rfl),hB0.drewN _⟩
 ·have HT:Hid (Ir.typed f x ks=Ir.each ks x x.width):=by show _=_;rw [HT0.out _ h];rfl
  have HE:=Lib.hid (H2.out x.width)
  obtain ⟨q,hq⟩:∃ q,Ir.each ks x x.width=q:=⟨_,rfl⟩
  rw [hq] at HT HE
  rw [h] at HK
  clear h hl3 hl4 hl5 hl6 hl11 hl12 hl13 hl16 HT0 HR H1 H2 hq
  go_enter Tryz.func68, Tryz.ntmps68
  go_wp2_with (first | (go_at_call 113;refine (HK.out _).mono ?_;rintro e w1 ⟨rfl,rfl⟩) | (go_at_call 112;refine (HE.out _ (Gr.refl _)).mono ?_;rintro e w1 ⟨rfl,rfl⟩))
  go_ret
  exact ⟨ret_bool (by rw [HT.out]),hB0⟩
 ·have HT:Hid (Ir.typed f x ks=Ir.each ks x x.width):=by show _=_;rw [HT0.out _ h];rfl
  have HE:=Lib.hid (H2.out x.width)
  obtain ⟨q,hq⟩:∃ q,Ir.each ks x x.width=q:=⟨_,rfl⟩
  rw [hq] at HT HE
  rw [h] at HK
  clear h hl3 hl4 hl5 hl6 hl11 hl12 hl13 hl16 HT0 HR H1 H2 hq
  go_enter Tryz.func68, Tryz.ntmps68
  go_wp2_with (first | (go_at_call 113;refine (HK.out _).mono ?_;rintro e w1 ⟨rfl,rfl⟩) | (go_at_call 112;refine (HE.out _ (Gr.refl _)).mono ?_;rintro e w1 ⟨rfl,rfl⟩))
  go_ret
  exact ⟨ret_bool (by rw [HT.out]),hB0⟩
 ·have HT:=Lib.hid (HT0.out _ h)
  rw [h] at HK
  clear h hl3 hl4 hl5 hl6 hl11 hl12 hl13 hl16 HT0 HR H1 H2
  go_enter Tryz.func68, Tryz.ntmps68
  go_wp2_with (go_at_call 113;refine (HK.out _).mono ?_;rintro e w1 ⟨rfl,rfl⟩)
  go_ret
  exact ⟨ret_bool (by rw [HT.out];rfl),hB0⟩
 ·have HT:=Lib.hid (HT0.out _ h)
  rw [h] at HK
  clear h hl3 hl4 hl5 hl6 hl11 hl12 hl13 hl16 HT0 HR H1 H2
  go_enter Tryz.func68, Tryz.ntmps68
  go_wp2_with (go_at_call 113;refine (HK.out _).mono ?_;rintro e w1 ⟨rfl,rfl⟩)
  go_ret
  exact ⟨ret_bool (by rw [HT.out];rfl),hB0⟩
 ·have HT:Hid (Ir.typed f x ks=(decide (Ir.kof ks x 0=33) && Ref.isWidth (Ir.kof ks x 1))):=by show _=_;rw [HT0.out _ h];rfl
  have C0:Hid (∀ w1,Gr W w1→Calls Tryz.prog 111 #[.int .i64 0,.pointer (some ⟨w.heap.size+1,0,none⟩),.pointer (some ⟨w.heap.size+1+1,0,none⟩)] w1 fun e w'=>e=.returned (.int .i64 (Ir.kof ks x 0))∧w1=w'):=fun w1 q=>H1.out 0 w1 q (by have:=hl11 h;omega)
  have C1:Hid (∀ w1,Gr W w1→Calls Tryz.prog 111 #[.int .i64 1,.pointer (some ⟨w.heap.size+1,0,none⟩),.pointer (some ⟨w.heap.size+1+1,0,none⟩)] w1 fun e w'=>e=.returned (.int .i64 (Ir.kof ks x 1))∧w1=w'):=fun w1 q=>H1.out 1 w1 q (by have:=hl11 h;omega)
  obtain ⟨y0,hy0⟩:∃ y,Ir.kof ks x 0=y:=⟨_,rfl⟩
  rw [hy0] at HT C0
  obtain ⟨y1,hy1⟩:∃ y,Ir.kof ks x 1=y:=⟨_,rfl⟩
  rw [hy1] at HT C1
  rw [h] at HK
  clear h hl3 hl4 hl5 hl6 hl11 hl12 hl13 hl16 HT0 HR H1 H2 hy0 hy1
  have HN:Hid (∀ w1,Calls Tryz.prog 102 #[.int .i64 y1] w1 fun e w'=>e=.returned (.bool (Ref.isWidth y1))∧w1=w'):=fun w1=>isNumber_any y1 w1
  obtain ⟨iw,hiw⟩:∃ iw,Ref.isWidth y1=iw:=⟨_,rfl⟩
  rw [hiw] at HT HN
  clear hiw
  obtain ⟨a0,h0⟩:∃ a0,(y0 == 33)=a0:=⟨_,rfl⟩
  have HT2:Hid (Ir.typed f x ks=(a0 && iw)):=by show _=_;rw [HT.out,← h0];rfl
  cases a0
  all_goals go_enter Tryz.func68, Tryz.ntmps68
  all_goals go_wp2_with (first | (go_at_call 113;refine (HK.out _).mono ?_;rintro e w1 ⟨rfl,rfl⟩) | (go_at_call_of 111 (Value.int IntKind.i64 0);refine (C0.out _ (Gr.refl _)).mono ?_;rintro e w1 ⟨rfl,rfl⟩) | (go_at_call_of 111 (Value.int IntKind.i64 1);refine (C1.out _ (Gr.refl _)).mono ?_;rintro e w1 ⟨rfl,rfl⟩) | (go_at_call 102;refine (HN.out _).mono ?_;rintro e w1 ⟨rfl,rfl⟩))
  all_goals go_ret
  all_goals exact ⟨ret_bool (by rw [HT2.out];rfl),hB0⟩
 ·have HT:Hid (Ir.typed f x ks=(decide (Ir.kof ks x 0=33))):=by show _=_;rw [HT0.out _ h];rfl
  have C0:Hid (∀ w1,Gr W w1→Calls Tryz.prog 111 #[.int .i64 0,.pointer (some ⟨w.heap.size+1,0,none⟩),.pointer (some ⟨w.heap.size+1+1,0,none⟩)] w1 fun e w'=>e=.returned (.int .i64 (Ir.kof ks x 0))∧w1=w'):=fun w1 q=>H1.out 0 w1 q (by have:=hl12 h;omega)
  obtain ⟨y0,hy0⟩:∃ y,Ir.kof ks x 0=y:=⟨_,rfl⟩
  rw [hy0] at HT C0
  rw [h] at HK
  clear h hl3 hl4 hl5 hl6 hl11 hl12 hl13 hl16 HT0 HR H1 H2 hy0
  go_enter Tryz.func68, Tryz.ntmps68
  go_wp2_with (first | (go_at_call 113;refine (HK.out _).mono ?_;rintro e w1 ⟨rfl,rfl⟩) | (go_at_call 111;refine (C0.out _ (Gr.refl _)).mono ?_;rintro e w1 ⟨rfl,rfl⟩))
  go_ret
  exact ⟨ret_bool (by rw [HT.out];rfl),hB0⟩
 ·have HT:Hid (Ir.typed f x ks=(decide (Ir.kof ks x 0=33) && Ref.isMem (Ir.kof ks x 1))):=by show _=_;rw [HT0.out _ h];rfl
  have C0:Hid (∀ w1,Gr W w1→Calls Tryz.prog 111 #[.int .i64 0,.pointer (some ⟨w.heap.size+1,0,none⟩),.pointer (some ⟨w.heap.size+1+1,0,none⟩)] w1 fun e w'=>e=.returned (.int .i64 (Ir.kof ks x 0))∧w1=w'):=fun w1 q=>H1.out 0 w1 q (by have:=hl13 h;omega)
  have C1:Hid (∀ w1,Gr W w1→Calls Tryz.prog 111 #[.int .i64 1,.pointer (some ⟨w.heap.size+1,0,none⟩),.pointer (some ⟨w.heap.size+1+1,0,none⟩)] w1 fun e w'=>e=.returned (.int .i64 (Ir.kof ks x 1))∧w1=w'):=fun w1 q=>H1.out 1 w1 q (by have:=hl13 h;omega)
  obtain ⟨y0,hy0⟩:∃ y,Ir.kof ks x 0=y:=⟨_,rfl⟩
  rw [hy0] at HT C0
  obtain ⟨y1,hy1⟩:∃ y,Ir.kof ks x 1=y:=⟨_,rfl⟩
  rw [hy1] at HT C1
  rw [h] at HK
  clear h hl3 hl4 hl5 hl6 hl11 hl12 hl13 hl16 HT0 HR H1 H2 hy0 hy1
  have HN:Hid (∀ w1,Calls Tryz.prog 114 #[.int .i64 y1] w1 fun e w'=>e=.returned (.bool (Ref.isMem y1))∧w1=w'):=fun w1=>isMemory_any y1 w1
  obtain ⟨iw,hiw⟩:∃ iw,Ref.isMem y1=iw:=⟨_,rfl⟩
  rw [hiw] at HT HN
  clear hiw
  obtain ⟨a0,h0⟩:∃ a0,(y0 == 33)=a0:=⟨_,rfl⟩
  have HT2:Hid (Ir.typed f x ks=(a0 && iw)):=by show _=_;rw [HT.out,← h0];rfl
  cases a0
  all_goals go_enter Tryz.func68, Tryz.ntmps68
  all_goals go_wp2_with (first | (go_at_call 113;refine (HK.out _).mono ?_;rintro e w1 ⟨rfl,rfl⟩) | (go_at_call_of 111 (Value.int IntKind.i64 0);refine (C0.out _ (Gr.refl _)).mono ?_;rintro e w1 ⟨rfl,rfl⟩) | (go_at_call_of 111 (Value.int IntKind.i64 1);refine (C1.out _ (Gr.refl _)).mono ?_;rintro e w1 ⟨rfl,rfl⟩) | (go_at_call 114;refine (HN.out _).mono ?_;rintro e w1 ⟨rfl,rfl⟩))
  all_goals go_ret
  all_goals exact ⟨ret_bool (by rw [HT2.out];rfl),hB0⟩
 ·have HT:Hid (Ir.typed f x ks=Ir.each ks x x.width):=by show _=_;rw [HT0.out _ h];rfl
  have HE:=Lib.hid (H2.out x.width)
  obtain ⟨q,hq⟩:∃ q,Ir.each ks x x.width=q:=⟨_,rfl⟩
  rw [hq] at HT HE
  rw [h] at HK
  clear h hl3 hl4 hl5 hl6 hl11 hl12 hl13 hl16 HT0 HR H1 H2 hq
  go_enter Tryz.func68, Tryz.ntmps68
  go_wp2_with (first | (go_at_call 113;refine (HK.out _).mono ?_;rintro e w1 ⟨rfl,rfl⟩) | (go_at_call 112;refine (HE.out _ (Gr.refl _)).mono ?_;rintro e w1 ⟨rfl,rfl⟩))
  go_ret
  exact ⟨ret_bool (by rw [HT.out]),hB0⟩
 ·have HT:=Lib.hid (HT0.out _ h)
  rw [h] at HK
  clear h hl3 hl4 hl5 hl6 hl11 hl12 hl13 hl16 HT0 HR H1 H2
  go_enter Tryz.func68, Tryz.ntmps68
  go_wp2_with (go_at_call 113;refine (HK.out _).mono ?_;rintro e w1 ⟨rfl,rfl⟩)
  go_ret
  exact ⟨ret_bool (by rw [HT.out];rfl),hB0⟩
 ·have HT:Hid (Ir.typed f x ks=(decide (Ir.kof ks x 0=1))):=by show _=_;rw [HT0.out _ h];rfl
  have C0:Hid (∀ w1,Gr W w1→Calls Tryz.prog 111 #[.int .i64 0,.pointer (some ⟨w.heap.size+1,0,none⟩),.pointer (some ⟨w.heap.size+1+1,0,none⟩)] w1 fun e w'=>e=.returned (.int .i64 (Ir.kof ks x 0))∧w1=w'):=fun w1 q=>H1.out 0 w1 q (by have:=hl16 h;omega)
  obtain ⟨y0,hy0⟩:∃ y,Ir.kof ks x 0=y:=⟨_,rfl⟩
  rw [hy0] at HT C0
  rw [h] at HK
  clear h hl3 hl4 hl5 hl6 hl11 hl12 hl13 hl16 HT0 HR H1 H2 hy0
  go_enter Tryz.func68, Tryz.ntmps68
  go_wp2_with (first | (go_at_call 113;refine (HK.out _).mono ?_;rintro e w1 ⟨rfl,rfl⟩) | (go_at_call 111;refine (C0.out _ (Gr.refl _)).mono ?_;rintro e w1 ⟨rfl,rfl⟩))
  go_ret
  exact ⟨ret_bool (by rw [HT.out];rfl),hB0⟩
 ·have HT:Hid (Ir.typed f x ks=Ir.each ks x f.ret):=by show _=_;rw [HT0.out _ h];rfl
  have HE:=Lib.hid (H2.out f.ret)
  obtain ⟨q,hq⟩:∃ q,Ir.each ks x f.ret=q:=⟨_,rfl⟩
  rw [hq] at HT HE
  rw [h] at HK
  clear h hl3 hl4 hl5 hl6 hl11 hl12 hl13 hl16 HT0 HR H1 H2 hq
  go_enter Tryz.func68, Tryz.ntmps68
  go_wp2_with (first | (go_at_call 113;refine (HK.out _).mono ?_;rintro e w1 ⟨rfl,rfl⟩) | (go_at_call 112;refine (HE.out _ (Gr.refl _)).mono ?_;rintro e w1 ⟨rfl,rfl⟩))
  go_ret
  exact ⟨ret_bool (by rw [HT.out]),hB0⟩
 ·have HT:=Lib.hid (HT0.out _ h)
  rw [h] at HK
  clear h hl3 hl4 hl5 hl6 hl11 hl12 hl13 hl16 HT0 HR H1 H2
  go_enter Tryz.func68, Tryz.ntmps68
  go_wp2_with (go_at_call 113;refine (HK.out _).mono ?_;rintro e w1 ⟨rfl,rfl⟩)
  go_ret
  exact ⟨ret_bool (by rw [HT.out];rfl),hB0⟩
end Go.Proofs.YthfhamagopbgcaaGreat

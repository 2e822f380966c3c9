/- Small functions of the program; the graph. -/
import Derived.Test.YthfhamagopbgcaaGreatG01
import Derived.Shelf.Abstract
import Derived.Test.YthfhamagopbgcaaGreatG00
import Derived.Test.YthfhamagopbgcaaGreatG04
import Derived.Deep.WholeRow
namespace Go.Proofs.YthfhamagopbgcaaGreat
open Go.RowKit

namespace Ir
/-- The place of the first element of which p holds, counted from k; -1 if there is none. -/
def findI {α:Type} (p:α→Bool):List α→Nat→Int
 | [],_=>-1
 | x::r,k=>if p x then k else findI p r (k+1)
theorem findI_any {α:Type} (p:α→Bool):∀ (l:List α) (k:Nat),decide (0≤findI p l k)=l.any p
 | [],k=>by simp [findI]
 | x::r,k=>by
  rw [findI]
  cases h:p x
  ·simp [h,findI_any p r (k+1)]
  ·simp [h]
def isNumber (n:Int):Bool:=decide (1≤n) && decide (n≤32)
def isLast (n:Int):Bool:=decide (29≤n) && decide (n≤32)
def outside (n:Nat) (z:Int):Bool:=decide (z<0) || decide ((n:Int)≤z)
end Ir

theorem isNumber_any (n:Int) (w:World):Calls Tryz.prog 102 #[.int .i64 n] w fun e w'=>e=.returned (.bool (Ref.isWidth n))∧w=w':=by
 go_enter Tryz.func102, Tryz.ntmps102
 go_wp2
 all_goals go_ret
 all_goals exact ⟨ret_bool (by grind [Ref.isWidth]),rfl⟩
theorem bisWidth_any (n:Int) (w:World):Calls Tryz.prog 70 #[.int .i64 n] w fun e w'=>e=.returned (.bool (Ref.isWidth n))∧w=w':=by
 go_enter Tryz.func70, Tryz.ntmps70
 go_wp2
 all_goals go_ret
 all_goals exact ⟨ret_bool (by grind [Ref.isWidth]),rfl⟩
theorem iisLast_any (n:Int) (w:World):Calls Tryz.prog 108 #[.int .i64 n] w fun e w'=>e=.returned (.bool (Ref.isLast n))∧w=w':=by
 go_enter Tryz.func108, Tryz.ntmps108
 go_wp2
 all_goals go_ret
 all_goals exact ⟨ret_bool (by grind [Ref.isLast]),rfl⟩
theorem isMemory_any (n:Int) (w:World):Calls Tryz.prog 114 #[.int .i64 n] w fun e w'=>e=.returned (.bool (Ref.isMem n))∧w=w':=by
 go_enter Tryz.func114, Tryz.ntmps114
 go_wp2
 all_goals go_ret
 all_goals exact ⟨ret_bool (by grind [Ref.isMem]),rfl⟩

/-- isHead's two closures. -/
theorem isHead1_any (n:Int) (w:World):Calls Tryz.prog 101 #[.int .i64 n] w fun e w'=>e=.returned (.bool (!Ref.isWidth n))∧w=w':=by
 have C:=Lib.hid (isNumber_any n w)
 go_enter Tryz.func101, Tryz.ntmps101
 go_wp2_with (go_at_call 102;refine C.out.mono ?_;rintro e w1 ⟨rfl,rfl⟩)
 go_ret
 exact ⟨rfl,rfl⟩
theorem isHead2_any (n:Int) (w:World):Calls Tryz.prog 103 #[.int .i64 n] w fun e w'=>e=.returned (.bool (!Ref.isSlot n))∧w=w':=by
 go_enter Tryz.func103, Tryz.ntmps103
 go_wp2
 all_goals go_ret
 all_goals exact ⟨ret_bool (by grind [Ref.isSlot]),rfl⟩
theorem fval1_any (A:Option Addr) (n c:Nat) (w:World):Calls Tryz.prog 136 #[.slice A n c] w fun e w'=>e=.returned (.bool (decide (2<n)))∧w=w':=by
 by_cases h:2<n
 ·have h':(2:Int)<n:=by omega
  go_enter Tryz.func136, Tryz.ntmps136
  go_wp2
  go_ret
  exact ⟨ret_bool (by simp [h]),rfl⟩
 ·have h':(n:Int)≤2:=by omega
  go_enter Tryz.func136, Tryz.ntmps136
  go_wp2
  go_ret
  exact ⟨ret_bool (by simp;omega),rfl⟩

/-- slices.IndexFunc at []int, for whatever predicate (it may lay blocks of its own). -/
theorem IndexFunc_any (g:Nat) (lb:Array Value) (eg:∀ args w,(callFunc g args).run Tryz.prog w=.ok (.enter g args) w) (p:Int→Bool) (v:Value) (zs:List Int) (w:World) (hz:IntsAt w.heap.size w v zs)
  (hp:Hid (∀ z ∈ zs,∀ W,Gr w W→Calls Tryz.prog g (#[.int .i64 z]++lb) W fun e w'=>e=.returned (.bool (p z))∧Gr W w')) :
  Calls Tryz.prog 72 #[v,.func (.func g) #[] lb] w fun e w'=>e=.returned (.int .i64 (Ir.findI p zs 0))∧Gr w w':=by
 obtain ⟨A,c,rfl,h1,h2,h3⟩:=hz
 go_enter Tryz.func72, Tryz.ntmps72
 go_wp2
 go_loopw [5,8] (fun _ i wr=>∃ k:Nat,k≤zs.length∧i=.int .i64 k∧Gr w wr∧Hid (Ir.findI p zs 0=Ir.findI p (zs.drop k) k)) (fun _ i _=>zs.length-(intOf i).toNat)
 case atStart=>exact ⟨0,Nat.zero_le _,rfl,Gr.refl _,rfl⟩
 case round =>
  obtain ⟨k,hk,rfl,hgr,hrest⟩:=hrel
  obtain ⟨wo,rfl⟩:∃ wo:World,wo=wr:=⟨_,rfl⟩
  rcases hr:zs.drop k with _ | ⟨z,r⟩
  ·have hkn:=drop_nil hr hk
   have HE:Hid (Ir.findI p zs 0=-1):=by show _=_;rw [hrest.out,hr];rfl
   subst hkn
   clear hr hrest
   go_wp2
   go_ret
   exact ⟨ret_int (by rw [HE.out]),hgr⟩
  ·obtain ⟨hlt,hx,hr'⟩:=drop_cons hr
   obtain ⟨b,o,rfl,hb,hc⟩:=h3 (by omega)
   have hx':=(hgr.cell _ _ hb).trans (hc k z hx)
   have HR:Hid (Ir.findI p zs 0=if p z then (k:Int) else Ir.findI p r (k+1)):=by show _=_;rw [hrest.out,hr];rfl
   have HR':Hid (zs.drop (k+1)=r):=hr'
   have HCP:=Lib.hid (hp.out z (List.mem_of_getElem? hx) wo hgr)
   clear hr hx hr' hrest hc h3
   obtain ⟨q,hq⟩:∃ q,p z=q:=⟨_,rfl⟩
   rw [hq] at HR HCP
   clear hq
   cases q with
   | true =>
    go_wp2_with (go_at_fn g;refine HCP.out.mono ?_;rintro e w1 ⟨rfl,g1⟩)
    go_ret
    exact ⟨ret_int (by rw [HR.out];simp),hgr.trans g1⟩
   | false =>
    go_wp2_with (go_at_fn g;refine HCP.out.mono ?_;rintro e w1 ⟨rfl,g1⟩)
    go_roundw
    case rel=>exact ⟨k+1,by omega,by go_num,hgr.trans g1,by (show _=_;rw [HR.out,HR'.out];simp)⟩
    case measure=>simp [intOf];omega

theorem ContainsFunc_any (g:Nat) (lb:Array Value) (eg:∀ args w,(callFunc g args).run Tryz.prog w=.ok (.enter g args) w) (p:Int→Bool) (v:Value) (zs:List Int) (w:World) (hz:IntsAt w.heap.size w v zs)
  (hp:Hid (∀ z ∈ zs,∀ W,Gr w W→Calls Tryz.prog g (#[.int .i64 z]++lb) W fun e w'=>e=.returned (.bool (p z))∧Gr W w')) :
  Calls Tryz.prog 40 #[v,.func (.func g) #[] lb] w fun e w'=>e=.returned (.bool (zs.any p))∧Gr w w':=by
 have C:=Lib.hid (IndexFunc_any g lb eg p v zs w hz hp)
 have HB:Hid (decide (0≤Ir.findI p zs 0)=zs.any p):=Ir.findI_any p zs 0
 obtain ⟨i,hi⟩:∃ i,Ir.findI p zs 0=i:=⟨_,rfl⟩
 rw [hi] at C HB
 clear hi hp hz eg
 by_cases h:0≤i
 ·go_enter Tryz.func40, Tryz.ntmps40
  go_wp2_with (go_at_call 72;refine C.out.mono ?_;rintro e w1 ⟨rfl,g1⟩)
  go_ret
  exact ⟨ret_bool (by rw [← HB.out];try simp [h]),g1⟩
 ·go_enter Tryz.func40, Tryz.ntmps40
  go_wp2_with (go_at_call 72;refine C.out.mono ?_;rintro e w1 ⟨rfl,g1⟩)
  go_ret
  exact ⟨ret_bool (by rw [← HB.out];try simp [h]),g1⟩
end Go.Proofs.YthfhamagopbgcaaGreat

namespace Go.Proofs.YthfhamagopbgcaaGreat
open Go.RowKit

namespace Ir
def isHead (f:Fn):Bool:=f.params.all Ref.isWidth && decide (0≤f.ret) && decide (f.ret≤32) && f.slots.all Ref.isSlot
theorem any_not {α:Type} (p:α→Bool) (l:List α):(l.any fun z=>!p z)=!l.all p:=by
 induction l with
 | nil=>rfl
 | cons a r ih=>simp [ih,Bool.not_and]
end Ir

set_option maxHeartbeats 1000000 in
theorem size_any (v:Value) (f:Fn) (w:World) (hf:FnAt w.heap.size w v f) (hs:f.blocks.length≤100000) :
  Calls Tryz.prog 62 #[v] w fun e w'=>e=.returned (.int .i64 (Ref.total f.blocks))∧Gr w w':=by
 obtain ⟨vp,vs,vb,rfl,hp,hs',hb⟩:=hf
 obtain ⟨Ap,cp,rfl,hp1,hp2,-⟩:=hp
 obtain ⟨As,cs,rfl,hs1,hs2,-⟩:=hs'
 obtain ⟨Ab,cb,rfl,hb1,hb2,hb3⟩:=hb
 have hB0:Gr w (w.alloc (.cells #[.slice Ap f.params.length cp,.int .i64 f.ret,.slice As f.slots.length cs,.slice Ab f.blocks.length cb] 25)):=(Gr.refl _).alloc _
 go_enter Tryz.func62, Tryz.ntmps62
 go_wp2
 go_loop [3,5,9] (fun s _ b=>∃ k N:Nat,k≤f.blocks.length∧b=.int .i64 k∧s=.int .i64 N∧N≤17592186044416 * k∧Hid (N=Ref.total (f.blocks.take k))) (fun _ _ b=>f.blocks.length-(intOf b).toNat)
 case atStart=>exact ⟨0,0,Nat.zero_le _,rfl,rfl,by omega,by show _=_;simp [Ref.total]⟩
 case round =>
  obtain ⟨k,N,hk,rfl,rfl,hN,hrest⟩:=hrel
  by_cases hlt:k<f.blocks.length
  ·obtain ⟨bb,ob,rfl,hbb,hcells⟩:=hb3 (by omega)
   obtain ⟨l,hl⟩:∃ l,f.blocks[k]?=some l:=⟨f.blocks[k],by simp [hlt]⟩
   obtain ⟨u,hu,hul⟩:=hcells k l hl
   obtain ⟨Al,cl,rfl,hl1,hl2,-⟩:=hul
   have HL:Hid (Ref.total (f.blocks.take (k+1))=Ref.total (f.blocks.take k)+l.length):=by
    show _=_
    rw [Ref.total_take_succ _ _ _ hl]
   clear hl hcells hb3
   go_wp2
   go_round
   case rel=>exact ⟨k+1,N+l.length,by omega,by go_num,by go_num,by omega,by show _=_;rw [HL.out,hrest.out]⟩
   case measure=>simp [intOf];omega
  ·obtain rfl:k=f.blocks.length:=by omega
   go_wp2
   go_ret
   exact ⟨ret_int (by rw [hrest.out,List.take_length]),hB0⟩

set_option maxRecDepth 10000 in
set_option maxHeartbeats 1000000 in
theorem isHead_any (v:Value) (f:Fn) (w:World) (hf:FnAt w.heap.size w v f) :
  Calls Tryz.prog 63 #[v] w fun e w'=>e=.returned (.bool (Ir.isHead f))∧Gr w w':=by
 obtain ⟨vp,vs,vb,rfl,hp,hs,hb⟩:=hf
 have HC1:Hid (∀ w1,Gr w w1→Calls Tryz.prog 40 #[vp,.func (.func 101) #[] #[]] w1 fun e w'=>e=.returned (.bool (!f.params.all Ref.isWidth))∧Gr w1 w'):=by
  intro w1 g1
  rw [← Ir.any_not]
  exact ContainsFunc_any _ _ (enters_of Tryz.func101 (by kernel_rfl) rfl) _ _ _ _ (hp.gr g1) (fun z _ W _=>(isHead1_any z W).mono fun _ _ h=>⟨h.1,h.2 ▸ Gr.refl _⟩)
 have HC2:Hid (∀ w1,Gr w w1→Calls Tryz.prog 40 #[vs,.func (.func 103) #[] #[]] w1 fun e w'=>e=.returned (.bool (!f.slots.all Ref.isSlot))∧Gr w1 w'):=by
  intro w1 g1
  rw [← Ir.any_not]
  exact ContainsFunc_any _ _ (enters_of Tryz.func103 (by kernel_rfl) rfl) _ _ _ _ (hs.gr g1) (fun z _ W _=>(isHead2_any z W).mono fun _ _ h=>⟨h.1,h.2 ▸ Gr.refl _⟩)
 obtain ⟨Ap,cp,rfl,hp1,hp2,-⟩:=hp
 obtain ⟨As,cs,rfl,hs1,hs2,-⟩:=hs
 obtain ⟨Ab,cb,rfl,hb1,hb2,-⟩:=hb
 obtain ⟨W,hW⟩:∃ W,w.alloc (.cells #[.slice Ap f.params.length cp,.int .i64 f.ret,.slice As f.slots.length cs,.slice Ab f.blocks.length cb] 25)=W:=⟨_,rfl⟩
 have hB0:Gr w W:=by rw [← hW];exact (Gr.refl w).alloc _
 have hWs:W.heap.size=w.heap.size+1:=by rw [← hW];simp
 have b0:∀ o,W.cell? ⟨w.heap.size,o,none⟩=(#[.slice Ap f.params.length cp,.int .i64 f.ret,.slice As f.slots.length cs,.slice Ab f.blocks.length cb]:Array Value)[o]?:=by
  intro o;rw [← hW];exact cell_of_row _ _ _ _ _ _ (heap_alloc_new w _)
 have B0:Hid (∀ w',Gr W w'→w'.cell? ⟨w.heap.size,0,none⟩=some (.slice Ap f.params.length cp)∧w'.cell? ⟨w.heap.size,1,none⟩=some (.int .i64 f.ret)∧w'.cell? ⟨w.heap.size,2,none⟩=some (.slice As f.slots.length cs)) :=
  fun w' g=>⟨(g.cell w.heap.size 0 (by omega)).trans (b0 0),(g.cell w.heap.size 1 (by omega)).trans (b0 1),(g.cell w.heap.size 2 (by omega)).trans (b0 2)⟩
 obtain ⟨k0,k1,k2⟩:=B0.out W (Gr.refl _)
 clear b0
 have HH:Hid (Ir.isHead f=(f.params.all Ref.isWidth && decide (0≤f.ret) && decide (f.ret≤32) && f.slots.all Ref.isSlot)):=by show _=_;rfl
 obtain ⟨pa,hpa⟩:∃ pa,f.params.all Ref.isWidth=pa:=⟨_,rfl⟩
 obtain ⟨sa,hsa⟩:∃ sa,f.slots.all Ref.isSlot=sa:=⟨_,rfl⟩
 rw [hpa] at HC1 HH
 rw [hsa] at HC2 HH
 clear hpa hsa
 go_enter Tryz.func63, Tryz.ntmps63
 cases pa with
 | false =>
  go_wp2_with (go_at_call 40;first | (refine (HC1.out _ hB0).mono ?_;rintro e w1 ⟨rfl,g1⟩))
  go_ret
  exact ⟨ret_bool (by rw [HH.out];simp),hB0.trans g1⟩
 | true =>
  by_cases hr:f.ret<0∨32<f.ret
  ·have HX:Hid (Ir.isHead f=false):=by show _=_;rw [HH.out];rcases hr with hr | hr <;> simp <;> omega
   go_wp2_with (go_at_call 40;first | (refine (HC1.out _ hB0).mono ?_;rintro e w1 ⟨rfl,g1⟩;obtain ⟨q0,q1,q2⟩:=B0.out _ g1))
   all_goals first | omega | (go_ret;exact ⟨ret_bool (by rw [HX.out]),hB0.trans g1⟩)
  ·have r1:0≤f.ret:=by omega
   have r2:f.ret≤32:=by omega
   clear hr
   go_wp2_with (go_at_call 40;first | (refine (HC2.out _ (hB0.trans g1)).mono ?_;rintro e w2 ⟨rfl,g2⟩) | (refine (HC1.out _ hB0).mono ?_;rintro e w1 ⟨rfl,g1⟩;obtain ⟨q0,q1,q2⟩:=B0.out _ g1))
   go_ret
   exact ⟨ret_bool (by rw [HH.out];simp [r1,r2]),hB0.trans (g1.trans g2)⟩

def Ir.classOf (op:Int):Int :=
 if op=0 then 1 else if op=14 then 3 else if op=15 then 4 else if op=16∨op=17 then 5 else if op=18 then 6 else if op=19∨op=20 then 7 else if op=21 then 8
 else if op=22∨op=23 then 9 else if op=24 then 10 else if op=25 then 11 else if op=26 then 12 else if op=27 then 13 else if op=28 then 14 else if op=29 then 15
 else if op=30 then 16 else if op=31 then 17 else if op=32 then 18 else if 1≤op∧op≤13 then 2 else 0
def Ir.flagsOf (op:Int):Int :=
 if op=1∨op=2∨op=3∨op=11 then 3 else if op=4∨op=6∨op=12∨op=13 then 4 else if op=25 then 8 else 0
set_option maxHeartbeats 2000000 in
set_option maxRecDepth 10000 in
theorem classOf_any (n:Int) (w:World):Calls Tryz.prog 113 #[.int .i64 n] w fun e w'=>e=.returned (.int .i64 (Ir.classOf n))∧w=w':=by
 go_enter Tryz.func113, Tryz.ntmps113
 go_wp2
 all_goals go_ret
 all_goals exact ⟨ret_int (by grind [Ir.classOf]),rfl⟩
set_option maxHeartbeats 2000000 in
theorem flagsOf_any (n:Int) (w:World):Calls Tryz.prog 106 #[.int .i64 n] w fun e w'=>e=.returned (.int .i64 (Ir.flagsOf n))∧w=w':=by
 go_enter Tryz.func106, Tryz.ntmps106
 go_wp2
 all_goals go_ret
 all_goals exact ⟨ret_int (by grind [Ir.flagsOf]),rfl⟩

set_option maxHeartbeats 1000000 in
theorem Index_any (v:Value) (zs:List Int) (n:Int) (w:World) (hz:IntsAt w.heap.size w v zs) :
  Calls Tryz.prog 61 #[v,.int .i64 n] w fun e w'=>e=.returned (.int .i64 (Ir.findI (fun z=>decide (z=n)) zs 0))∧w=w':=by
 obtain ⟨A,c,rfl,h1,h2,h3⟩:=hz
 go_enter Tryz.func61, Tryz.ntmps61
 go_wp2
 go_loop [5,8] (fun _ i=>∃ k:Nat,k≤zs.length∧i=.int .i64 k∧Hid (Ir.findI (fun z=>decide (z=n)) zs 0=Ir.findI (fun z=>decide (z=n)) (zs.drop k) k)) (fun _ i=>zs.length-(intOf i).toNat)
 case atStart=>exact ⟨0,Nat.zero_le _,rfl,rfl⟩
 case round =>
  obtain ⟨k,hk,rfl,hrest⟩:=hrel
  rcases hr:zs.drop k with _ | ⟨z,r⟩
  ·have hkn:=drop_nil hr hk
   have HE:Hid (Ir.findI (fun z=>decide (z=n)) zs 0=-1):=by show _=_;rw [hrest.out,hr];rfl
   subst hkn
   clear hr hrest
   go_wp2
   go_ret
   exact ⟨ret_int (by rw [HE.out]),rfl⟩
  ·obtain ⟨hlt,hx,hr'⟩:=drop_cons hr
   obtain ⟨b,o,rfl,hb,hc⟩:=h3 (by omega)
   have hx':=hc k z hx
   have HR:Hid (Ir.findI (fun z=>decide (z=n)) zs 0=if z=n then (k:Int) else Ir.findI (fun z=>decide (z=n)) r (k+1)):=by show _=_;rw [hrest.out,hr];simp [Ir.findI]
   have HR':Hid (zs.drop (k+1)=r):=hr'
   clear hr hx hr' hrest hc h3
   by_cases h:z=n
   ·subst h
    go_wp2
    go_ret
    exact ⟨ret_int (by rw [HR.out];simp),rfl⟩
   ·have hb1:(n == z)=false:=by simp;exact fun e=>h e.symm
    go_wp2
    go_round
    case rel=>exact ⟨k+1,by omega,by go_num,by (show _=_;rw [HR.out,HR'.out];simp [h])⟩
    case measure=>simp [intOf];omega

theorem Contains_any (v:Value) (zs:List Int) (n:Int) (w:World) (hz:IntsAt w.heap.size w v zs) :
  Calls Tryz.prog 56 #[v,.int .i64 n] w fun e w'=>e=.returned (.bool (Ref.has zs n))∧w=w':=by
 have C:=Lib.hid (Index_any v zs n w hz)
 have HB:Hid (decide (0≤Ir.findI (fun z=>decide (z=n)) zs 0)=Ref.has zs n):=Ir.findI_any _ zs 0
 obtain ⟨i,hi⟩:∃ i,Ir.findI (fun z=>decide (z=n)) zs 0=i:=⟨_,rfl⟩
 rw [hi] at C HB
 clear hi hz
 by_cases h:0≤i
 ·go_enter Tryz.func56, Tryz.ntmps56
  go_wp2_with (go_at_call 61;refine C.out.mono ?_;rintro e w1 ⟨rfl,rfl⟩)
  go_ret
  exact ⟨ret_bool (by rw [← HB.out];try simp [h]),rfl⟩
 ·go_enter Tryz.func56, Tryz.ntmps56
  go_wp2_with (go_at_call 61;refine C.out.mono ?_;rintro e w1 ⟨rfl,rfl⟩)
  go_ret
  exact ⟨ret_bool (by rw [← HB.out];try simp [h]),rfl⟩
end Go.Proofs.YthfhamagopbgcaaGreat

namespace Go.Proofs.YthfhamagopbgcaaGreat
open Go.RowKit

namespace Ir
/-- A graph's first error. -/
def gval (g:List (List Int)):Int :=
 if g.length<1∨10<g.length then 3 else if g.any (fun l=>decide (2<l.length))=true then 3 else if g.any (fun l=>l.any (outside g.length))=true then 1 else 0
def noded (g:List (List Int)) (l:List Int):Int:=if gval g=0 then (if l.any (outside g.length)=true then 4 else 0) else gval g
end Ir

/-- slices.IndexFunc at [][]int, for whatever predicate. -/
theorem IndexFuncT_any (g:Nat) (lb:Array Value) (eg:∀ args w,(callFunc g args).run Tryz.prog w=.ok (.enter g args) w) (p:List Int→Bool) (v:Value) (t:List (List Int)) (w:World) (hz:TabAt w.heap.size w v t)
  (hp:Hid (∀ l ∈ t,∀ W u,Gr w W→IntsAt W.heap.size W u l→Calls Tryz.prog g (#[u]++lb) W fun e w'=>e=.returned (.bool (p l))∧Gr W w')) :
  Calls Tryz.prog 95 #[v,.func (.func g) #[] lb] w fun e w'=>e=.returned (.int .i64 (Ir.findI p t 0))∧Gr w w':=by
 obtain ⟨A,c,rfl,h1,h2,h3⟩:=hz
 go_enter Tryz.func95, Tryz.ntmps95
 go_wp2
 go_loopw [5,8] (fun _ i wr=>∃ k:Nat,k≤t.length∧i=.int .i64 k∧Gr w wr∧Hid (Ir.findI p t 0=Ir.findI p (t.drop k) k)) (fun _ i _=>t.length-(intOf i).toNat)
 case atStart=>exact ⟨0,Nat.zero_le _,rfl,Gr.refl _,rfl⟩
 case round =>
  obtain ⟨k,hk,rfl,hgr,hrest⟩:=hrel
  obtain ⟨wo,rfl⟩:∃ wo:World,wo=wr:=⟨_,rfl⟩
  rcases hr:t.drop k with _ | ⟨l,r⟩
  ·have hkn:=drop_nil hr hk
   have HE:Hid (Ir.findI p t 0=-1):=by show _=_;rw [hrest.out,hr];rfl
   subst hkn
   clear hr hrest
   go_wp2
   go_ret
   exact ⟨ret_int (by rw [HE.out]),hgr⟩
  ·obtain ⟨hlt,hx,hr'⟩:=drop_cons hr
   obtain ⟨b,o,rfl,hb,hc⟩:=h3 (by omega)
   obtain ⟨u,hu,hul⟩:=hc k l hx
   have hx':=(hgr.cell _ _ hb).trans hu
   have HR:Hid (Ir.findI p t 0=if p l then (k:Int) else Ir.findI p r (k+1)):=by show _=_;rw [hrest.out,hr];rfl
   have HR':Hid (t.drop (k+1)=r):=hr'
   have HCP:=Lib.hid (hp.out l (List.mem_of_getElem? hx) wo u hgr (hul.gr hgr))
   clear hr hx hr' hrest hc h3 hu hul
   obtain ⟨q,hq⟩:∃ q,p l=q:=⟨_,rfl⟩
   rw [hq] at HR HCP
   clear hq
   cases q with
   | true =>
    go_wp2_with (go_at_fn g;refine HCP.out.mono ?_;rintro e w1 ⟨rfl,g1⟩)
    go_ret
    exact ⟨ret_int (by rw [HR.out];simp),hgr.trans g1⟩
   | false =>
    go_wp2_with (go_at_fn g;refine HCP.out.mono ?_;rintro e w1 ⟨rfl,g1⟩)
    go_roundw
    case rel=>exact ⟨k+1,by omega,by go_num,hgr.trans g1,by (show _=_;rw [HR.out,HR'.out];simp)⟩
    case measure=>simp [intOf];omega

theorem ContainsFuncT_any (g:Nat) (lb:Array Value) (eg:∀ args w,(callFunc g args).run Tryz.prog w=.ok (.enter g args) w) (p:List Int→Bool) (v:Value) (t:List (List Int)) (w:World) (hz:TabAt w.heap.size w v t)
  (hp:Hid (∀ l ∈ t,∀ W u,Gr w W→IntsAt W.heap.size W u l→Calls Tryz.prog g (#[u]++lb) W fun e w'=>e=.returned (.bool (p l))∧Gr W w')) :
  Calls Tryz.prog 54 #[v,.func (.func g) #[] lb] w fun e w'=>e=.returned (.bool (t.any p))∧Gr w w':=by
 have C:=Lib.hid (IndexFuncT_any g lb eg p v t w hz hp)
 have HB:Hid (decide (0≤Ir.findI p t 0)=t.any p):=Ir.findI_any p t 0
 obtain ⟨i,hi⟩:∃ i,Ir.findI p t 0=i:=⟨_,rfl⟩
 rw [hi] at C HB
 clear hi hp hz eg
 by_cases h:0≤i
 ·go_enter Tryz.func54, Tryz.ntmps54
  go_wp2_with (go_at_call 95;refine C.out.mono ?_;rintro e w1 ⟨rfl,g1⟩)
  go_ret
  exact ⟨ret_bool (by rw [← HB.out];try simp [h]),g1⟩
 ·go_enter Tryz.func54, Tryz.ntmps54
  go_wp2_with (go_at_call 95;refine C.out.mono ?_;rintro e w1 ⟨rfl,g1⟩)
  go_ret
  exact ⟨ret_bool (by rw [← HB.out];try simp [h]),g1⟩

/-- A number outside of the graph whose slice lies in the variable that is captured. -/
theorem fval2_any (n:Int) (B:Nat) (A:Option Addr) (len c:Nat) (w:World) (hc:w.cell? ⟨B,0,none⟩=some (.slice A len c)) :
  Calls Tryz.prog 137 #[.int .i64 n,.pointer (some ⟨B,0,none⟩)] w fun e w'=>e=.returned (.bool (Ir.outside len n))∧w=w':=by
 go_enter Tryz.func137, Tryz.ntmps137
 go_wp2
 all_goals go_ret
 all_goals exact ⟨ret_bool (by unfold Ir.outside;grind),rfl⟩
theorem noded1_any (n:Int) (B:Nat) (A:Option Addr) (len c:Nat) (w:World) (hc:w.cell? ⟨B,0,none⟩=some (.slice A len c)) :
  Calls Tryz.prog 168 #[.int .i64 n,.pointer (some ⟨B,0,none⟩)] w fun e w'=>e=.returned (.bool (Ir.outside len n))∧w=w':=by
 go_enter Tryz.func168, Tryz.ntmps168
 go_wp2
 all_goals go_ret
 all_goals exact ⟨ret_bool (by unfold Ir.outside;grind),rfl⟩

set_option maxRecDepth 10000 in
set_option maxHeartbeats 2000000 in
theorem fval_any (v:Value) (g:List (List Int)) (w:World) (hg:TabAt w.heap.size w v g) :
  Calls Tryz.prog 97 #[v] w fun e w'=>e=.returned (.int .i64 (Ir.gval g))∧Gr w w':=by
 have hg0:=hg
 obtain ⟨A,c,rfl,h1,h2,h3⟩:=hg
 by_cases hb:g.length<1∨10<g.length
 ·have hB0:Gr w (w.alloc (.cells #[.slice A g.length c] 27)):=(Gr.refl _).alloc _
  have HV:Hid (Ir.gval g=3):=by show _=_;unfold Ir.gval;rw [if_pos hb]
  clear hg0 h3
  go_enter Tryz.func97, Tryz.ntmps97
  go_wp2
  all_goals first | omega | (go_ret;exact ⟨ret_int (by rw [HV.out]),hB0⟩)
 obtain ⟨W,hW⟩:∃ W,w.alloc (.cells #[.slice A g.length c] 27)=W:=⟨_,rfl⟩
 have hB0:Gr w W:=by rw [← hW];exact (Gr.refl w).alloc _
 have hWs:W.heap.size=w.heap.size+1:=by rw [← hW];simp
 have b0:W.cell? ⟨w.heap.size,0,none⟩=some (.slice A g.length c):=by
  rw [← hW];exact cell_of_row _ _ _ _ _ _ (heap_alloc_new w _)
 have B0:Hid (∀ w',Gr W w'→w'.cell? ⟨w.heap.size,0,none⟩=some (.slice A g.length c)):=fun w' q=>(q.cell w.heap.size 0 (by omega)).trans b0
 have HV0:Hid (Ir.gval g=if g.any (fun l=>decide (2<l.length))=true then 3 else if g.any (fun l=>l.any (Ir.outside g.length))=true then 1 else 0):=by show _=_;unfold Ir.gval;rw [if_neg hb]
 have HC1:Hid (Calls Tryz.prog 54 #[.slice A g.length c,.func (.func 136) #[] #[]] W fun e w'=>e=.returned (.bool (g.any fun l=>decide (2<l.length)))∧Gr W w') :=
  ContainsFuncT_any _ _ (enters_of Tryz.func136 (by kernel_rfl) rfl) _ _ _ _ (hg0.gr hB0) (fun l _ W' u _ hu=>by
    obtain ⟨A',c',rfl,-,-,-⟩:=hu
    exact (fval1_any A' l.length c' W').mono fun _ _ h=>⟨h.1,h.2 ▸ Gr.refl _⟩)
 have HC2:Hid (∀ l w1 u,Gr W w1→IntsAt w1.heap.size w1 u l→Calls Tryz.prog 40 #[u,.func (.func 137) #[] #[.pointer (some ⟨w.heap.size,0,none⟩)]] w1 fun e w'=>e=.returned (.bool (l.any (Ir.outside g.length)))∧Gr w1 w') :=
  fun l w1 u g1 hu=>ContainsFunc_any _ _ (enters_of Tryz.func137 (by kernel_rfl) rfl) _ _ _ _ hu (fun z _ W' g2 =>
    (fval2_any z w.heap.size A g.length c W' (B0.out W' (g1.trans g2))).mono fun _ _ h=>⟨h.1,h.2 ▸ Gr.refl _⟩)
 have z1:(1:Int)≤g.length:=by omega
 have z2:(g.length:Int)≤10:=by omega
 obtain ⟨bg,og,rfl,hbg,hcg⟩:=h3 (by omega)
 have HG:=Lib.hid hcg
 obtain ⟨q,hq⟩:∃ q,(g.any fun l=>decide (2<l.length))=q:=⟨_,rfl⟩
 rw [hq] at HV0 HC1
 clear hg0 h3 hcg hb hq
 go_enter Tryz.func97, Tryz.ntmps97
 cases q with
 | true =>
  go_wp2_with (go_at_call 54;refine HC1.out.mono ?_;rintro e w1 ⟨rfl,g1⟩)
  go_ret
  exact ⟨ret_int (by rw [HV0.out];simp),hB0.trans g1⟩
 | false =>
  go_wp2_with (go_at_call 54;refine HC1.out.mono ?_;rintro e w1 ⟨rfl,g1⟩;have b1:=B0.out _ g1)
  clear b0
  go_loopw [4,19] (fun _ i wr=>∃ k:Nat,k≤g.length∧i=.int .i64 k∧Gr w1 wr∧Hid ((g.any fun l=>l.any (Ir.outside g.length))=((g.drop k).any fun l=>l.any (Ir.outside g.length)))) (fun _ i _=>g.length-(intOf i).toNat)
  case atStart=>exact ⟨0,Nat.zero_le _,rfl,Gr.refl _,rfl⟩
  case round =>
   obtain ⟨k,hk,rfl,hgr,hrest⟩:=hrel
   obtain ⟨wo,rfl⟩:∃ wo:World,wo=wr:=⟨_,rfl⟩
   have b2:=B0.out _ (g1.trans hgr)
   clear b1
   rcases hr:g.drop k with _ | ⟨l,r⟩
   ·have hkn:=drop_nil hr hk
    have HE:Hid (Ir.gval g=0):=by show _=_;rw [HV0.out,hrest.out,hr];simp
    subst hkn
    clear hr hrest
    go_wp2
    go_ret
    exact ⟨ret_int (by rw [HE.out]),hB0.trans (g1.trans hgr)⟩
   ·obtain ⟨hlt,hx,hr'⟩:=drop_cons hr
    obtain ⟨u,hu,hul⟩:=HG.out k l hx
    have hx':=((hB0.trans (g1.trans hgr)).cell _ _ hbg).trans hu
    have HR:Hid ((g.any fun l=>l.any (Ir.outside g.length))=(l.any (Ir.outside g.length) || r.any fun l=>l.any (Ir.outside g.length))):=by show _=_;rw [hrest.out,hr];rfl
    have HR':Hid (g.drop (k+1)=r):=hr'
    have HCP:=Lib.hid (HC2.out l wo u (g1.trans hgr) (hul.gr (hB0.trans (g1.trans hgr))))
    clear hr hx hr' hrest hu hul
    obtain ⟨q,hq⟩:∃ q,l.any (Ir.outside g.length)=q:=⟨_,rfl⟩
    rw [hq] at HR HCP
    clear hq
    cases q with
    | true =>
     go_wp2_with (go_at_call 40;refine HCP.out.mono ?_;rintro e w2 ⟨rfl,g2⟩)
     go_ret
     exact ⟨ret_int (by rw [HV0.out,HR.out];simp),hB0.trans (g1.trans (hgr.trans g2))⟩
    | false =>
     go_wp2_with (go_at_call 40;refine HCP.out.mono ?_;rintro e w2 ⟨rfl,g2⟩)
     go_roundw
     case rel=>exact ⟨k+1,by omega,by go_num,hgr.trans g2,by (show _=_;rw [HR.out,HR'.out];simp)⟩
     case measure=>simp [intOf];omega

set_option maxRecDepth 10000 in
set_option maxHeartbeats 2000000 in
theorem noded_any (v u:Value) (g:List (List Int)) (l:List Int) (w:World) (hg:TabAt w.heap.size w v g) (hu:IntsAt w.heap.size w u l) :
  Calls Tryz.prog 141 #[v,u] w fun e w'=>e=.returned (.int .i64 (Ir.noded g l))∧Gr w w':=by
 have hg0:=hg
 obtain ⟨A,c,rfl,h1,h2,-⟩:=hg
 obtain ⟨W,hW⟩:∃ W,w.alloc (.cells #[.slice A g.length c] 27)=W:=⟨_,rfl⟩
 have hB0:Gr w W:=by rw [← hW];exact (Gr.refl w).alloc _
 have hWs:W.heap.size=w.heap.size+1:=by rw [← hW];simp
 have b0:W.cell? ⟨w.heap.size,0,none⟩=some (.slice A g.length c):=by
  rw [← hW];exact cell_of_row _ _ _ _ _ _ (heap_alloc_new w _)
 have B0:Hid (∀ w',Gr W w'→w'.cell? ⟨w.heap.size,0,none⟩=some (.slice A g.length c)):=fun w' q=>(q.cell w.heap.size 0 (by omega)).trans b0
 have HC1:=Lib.hid (fval_any _ g W (hg0.gr hB0))
 have HC2:Hid (∀ w1,Gr W w1→Calls Tryz.prog 40 #[u,.func (.func 168) #[] #[.pointer (some ⟨w.heap.size,0,none⟩)]] w1 fun e w'=>e=.returned (.bool (l.any (Ir.outside g.length)))∧Gr w1 w') :=
  fun w1 g1=>ContainsFunc_any _ _ (enters_of Tryz.func168 (by kernel_rfl) rfl) _ _ _ _ (hu.gr (hB0.trans g1)) (fun z _ W' g2 =>
    (noded1_any z w.heap.size A g.length c W' (B0.out W' (g1.trans g2))).mono fun _ _ h=>⟨h.1,h.2 ▸ Gr.refl _⟩)
 have HV:Hid (Ir.noded g l=if Ir.gval g=0 then (if l.any (Ir.outside g.length)=true then 4 else 0) else Ir.gval g):=by show _=_;rfl
 obtain ⟨e,he⟩:∃ e,Ir.gval g=e:=⟨_,rfl⟩
 obtain ⟨q,hq⟩:∃ q,l.any (Ir.outside g.length)=q:=⟨_,rfl⟩
 rw [he] at HC1 HV
 rw [hq] at HC2 HV
 clear hg0 hu he hq
 by_cases h0:e=0
 ·subst h0
  go_enter Tryz.func141, Tryz.ntmps141
  cases q with
  | true =>
   go_wp2_with (first | (go_at_call 97;refine HC1.out.mono ?_;rintro e w1 ⟨rfl,g1⟩;have b1:=B0.out _ g1) | (go_at_call 40;refine (HC2.out _ g1).mono ?_;rintro e w2 ⟨rfl,g2⟩))
   go_ret
   exact ⟨ret_int (by rw [HV.out];simp),hB0.trans (g1.trans g2)⟩
  | false =>
   go_wp2_with (first | (go_at_call 97;refine HC1.out.mono ?_;rintro e w1 ⟨rfl,g1⟩;have b1:=B0.out _ g1) | (go_at_call 40;refine (HC2.out _ g1).mono ?_;rintro e w2 ⟨rfl,g2⟩))
   go_ret
   exact ⟨ret_int (by rw [HV.out];simp),hB0.trans (g1.trans g2)⟩
 ·have hb:(e == 0)=false:=by simp [h0]
  go_enter Tryz.func141, Tryz.ntmps141
  go_wp2_with (go_at_call 97;refine HC1.out.mono ?_;rintro e w1 ⟨rfl,g1⟩;have b1:=B0.out _ g1)
  go_ret
  exact ⟨ret_int (by rw [HV.out,if_neg h0]),hB0.trans g1⟩
end Go.Proofs.YthfhamagopbgcaaGreat

namespace Go.Proofs.YthfhamagopbgcaaGreat
open Go.RowKit

/-- A set of nodes, by value: ten bools. -/
def nv (bs:List Bool):Value:=.agg (bs.map Value.bool).toArray
theorem ten {α:Type} (bs:List α) (h:bs.length=10):∃ a b c d e f g i j k,bs=[a,b,c,d,e,f,g,i,j,k]:=by
 match bs,h with
 | [a,b,c,d,e,f,g,i,j,k],_=>exact ⟨a,b,c,d,e,f,g,i,j,k,rfl⟩
namespace Ir
/-- The places of the true ones, counted from k. -/
def listFrom:List Bool→Nat→List Int
 | [],_=>[]
 | b::r,k=>if b then (k:Int)::listFrom r (k+1) else listFrom r (k+1)
def beforeBits (g:List (List Int)) (z:Int) (n:Nat):List Bool:=(List.range 10).map fun a=>decide (a<n) && Ref.has (g.getD a []) z
end Ir
theorem listFrom_len:∀ (bs:List Bool) (k:Nat),(Ir.listFrom bs k).length≤bs.length
 | [],_=>Nat.le_refl _
 | b::r,k=>by
  rw [Ir.listFrom];have:=listFrom_len r (k+1)
  split <;> simp <;> omega

theorem idx0 (a0 a1 a2 a3 a4 a5 a6 a7 a8 a9:Bool) (w:World):(Instr.index 140 (Value.agg #[Value.bool a0,Value.bool a1,Value.bool a2,Value.bool a3,Value.bool a4,Value.bool a5,Value.bool a6,Value.bool a7,Value.bool a8,Value.bool a9]) (.int .i64 0)).run Tryz.prog w=.ok (.bool a0) w:=by kernel_rfl
theorem idx1 (a0 a1 a2 a3 a4 a5 a6 a7 a8 a9:Bool) (w:World):(Instr.index 140 (Value.agg #[Value.bool a0,Value.bool a1,Value.bool a2,Value.bool a3,Value.bool a4,Value.bool a5,Value.bool a6,Value.bool a7,Value.bool a8,Value.bool a9]) (.int .i64 1)).run Tryz.prog w=.ok (.bool a1) w:=by kernel_rfl
theorem idx2 (a0 a1 a2 a3 a4 a5 a6 a7 a8 a9:Bool) (w:World):(Instr.index 140 (Value.agg #[Value.bool a0,Value.bool a1,Value.bool a2,Value.bool a3,Value.bool a4,Value.bool a5,Value.bool a6,Value.bool a7,Value.bool a8,Value.bool a9]) (.int .i64 2)).run Tryz.prog w=.ok (.bool a2) w:=by kernel_rfl
theorem idx3 (a0 a1 a2 a3 a4 a5 a6 a7 a8 a9:Bool) (w:World):(Instr.index 140 (Value.agg #[Value.bool a0,Value.bool a1,Value.bool a2,Value.bool a3,Value.bool a4,Value.bool a5,Value.bool a6,Value.bool a7,Value.bool a8,Value.bool a9]) (.int .i64 3)).run Tryz.prog w=.ok (.bool a3) w:=by kernel_rfl
theorem idx4 (a0 a1 a2 a3 a4 a5 a6 a7 a8 a9:Bool) (w:World):(Instr.index 140 (Value.agg #[Value.bool a0,Value.bool a1,Value.bool a2,Value.bool a3,Value.bool a4,Value.bool a5,Value.bool a6,Value.bool a7,Value.bool a8,Value.bool a9]) (.int .i64 4)).run Tryz.prog w=.ok (.bool a4) w:=by kernel_rfl
theorem idx5 (a0 a1 a2 a3 a4 a5 a6 a7 a8 a9:Bool) (w:World):(Instr.index 140 (Value.agg #[Value.bool a0,Value.bool a1,Value.bool a2,Value.bool a3,Value.bool a4,Value.bool a5,Value.bool a6,Value.bool a7,Value.bool a8,Value.bool a9]) (.int .i64 5)).run Tryz.prog w=.ok (.bool a5) w:=by kernel_rfl
theorem idx6 (a0 a1 a2 a3 a4 a5 a6 a7 a8 a9:Bool) (w:World):(Instr.index 140 (Value.agg #[Value.bool a0,Value.bool a1,Value.bool a2,Value.bool a3,Value.bool a4,Value.bool a5,Value.bool a6,Value.bool a7,Value.bool a8,Value.bool a9]) (.int .i64 6)).run Tryz.prog w=.ok (.bool a6) w:=by kernel_rfl
theorem idx7 (a0 a1 a2 a3 a4 a5 a6 a7 a8 a9:Bool) (w:World):(Instr.index 140 (Value.agg #[Value.bool a0,Value.bool a1,Value.bool a2,Value.bool a3,Value.bool a4,Value.bool a5,Value.bool a6,Value.bool a7,Value.bool a8,Value.bool a9]) (.int .i64 7)).run Tryz.prog w=.ok (.bool a7) w:=by kernel_rfl
theorem idx8 (a0 a1 a2 a3 a4 a5 a6 a7 a8 a9:Bool) (w:World):(Instr.index 140 (Value.agg #[Value.bool a0,Value.bool a1,Value.bool a2,Value.bool a3,Value.bool a4,Value.bool a5,Value.bool a6,Value.bool a7,Value.bool a8,Value.bool a9]) (.int .i64 8)).run Tryz.prog w=.ok (.bool a8) w:=by kernel_rfl
theorem idx9 (a0 a1 a2 a3 a4 a5 a6 a7 a8 a9:Bool) (w:World):(Instr.index 140 (Value.agg #[Value.bool a0,Value.bool a1,Value.bool a2,Value.bool a3,Value.bool a4,Value.bool a5,Value.bool a6,Value.bool a7,Value.bool a8,Value.bool a9]) (.int .i64 9)).run Tryz.prog w=.ok (.bool a9) w:=by kernel_rfl
theorem index_ten (bs:List Bool) (h:bs.length=10) (k:Nat) (b:Bool) (hb:bs[k]?=some b) (w:World):(Instr.index 140 (nv bs) (.int .i64 (k:Int))).run Tryz.prog w=.ok (.bool b) w:=by
 obtain ⟨a0,a1,a2,a3,a4,a5,a6,a7,a8,a9,rfl⟩:=ten bs h
 have hk:k<10:=by have:=(List.getElem?_eq_some_iff.1 hb).1;simpa using this
 rcases (by omega:k=0∨k=1∨k=2∨k=3∨k=4∨k=5∨k=6∨k=7∨k=8∨k=9) with rfl | rfl | rfl | rfl | rfl | rfl | rfl | rfl | rfl | rfl
 all_goals (simp at hb;subst hb)
 ·exact idx0 _ _ _ _ _ _ _ _ _ _ w
 ·exact idx1 _ _ _ _ _ _ _ _ _ _ w
 ·exact idx2 _ _ _ _ _ _ _ _ _ _ w
 ·exact idx3 _ _ _ _ _ _ _ _ _ _ w
 ·exact idx4 _ _ _ _ _ _ _ _ _ _ w
 ·exact idx5 _ _ _ _ _ _ _ _ _ _ w
 ·exact idx6 _ _ _ _ _ _ _ _ _ _ w
 ·exact idx7 _ _ _ _ _ _ _ _ _ _ w
 ·exact idx8 _ _ _ _ _ _ _ _ _ _ w
 ·exact idx9 _ _ _ _ _ _ _ _ _ _ w

set_option maxRecDepth 10000 in
set_option maxHeartbeats 4000000 in
theorem list_any (bs:List Bool) (hb:bs.length=10) (w:World) :
  Calls Tryz.prog 99 #[nv bs] w fun e w'=>∃ v,e=.returned v∧IntsAt w'.heap.size w' v (Ir.listFrom bs 0)∧Gr w w':=by
 obtain ⟨i0,hi,hz0,hz1,hz2⟩:=info_parts info_int
 have HL:Hid (∀ k,k<10→∃ b,bs[k]?=some b):=fun k hk=>⟨bs[k]'(by omega),by simp [show k<bs.length by omega]⟩
 have HB:Hid (bs.length=10):=hb
 have HO:Hid (Ir.listFrom bs 0=[]++Ir.listFrom (bs.drop 0) 0):=rfl
 obtain ⟨out,hout⟩:∃ out,Ir.listFrom bs 0=out:=⟨_,rfl⟩
 rw [hout] at HO ⊢
 have HOL:Hid (out.length≤10):=by rw [← hout];show _≤10;have:=listFrom_len bs 0;omega
 clear hout
 obtain ⟨a0,a1,a2,a3,a4,a5,a6,a7,a8,a9,hbs⟩:=ten bs hb
 have HBS:=Lib.hid hbs
 rw [show nv bs=.agg #[Value.bool a0,Value.bool a1,Value.bool a2,Value.bool a3,Value.bool a4,Value.bool a5,Value.bool a6,Value.bool a7,Value.bool a8,Value.bool a9] by rw [hbs];rfl]
 clear hbs
 go_enter Tryz.func99, Tryz.ntmps99
 go_wp2
 have HIX:Hid (∀ (k:Nat) (b:Bool),bs[k]?=some b→∀ w,(Instr.index 140 (Value.agg #[Value.bool a0,Value.bool a1,Value.bool a2,Value.bool a3,Value.bool a4,Value.bool a5,Value.bool a6,Value.bool a7,Value.bool a8,Value.bool a9]) (.int .i64 (k:Int))).run Tryz.prog w=.ok (.bool b) w):=by
  intro k b h w
  have:=index_ten bs hb k b h w
  rw [HBS.out] at this
  exact this
 clear hb
 have hB0:Gr w (w.alloc (.cells #[Value.bool a0,Value.bool a1,Value.bool a2,Value.bool a3,Value.bool a4,Value.bool a5,Value.bool a6,Value.bool a7,Value.bool a8,Value.bool a9] 140)):=(Gr.refl _).alloc _
 go_loopw [3,4,5,7] (fun s _ _ i wr=>∃ (k:Nat) (done:List Int),k≤10∧i=.int .i64 k∧Own1 w.heap.size 3 wr s (done.map (Value.int .i64))∧Gr w wr∧Hid (out=done++Ir.listFrom (bs.drop k) k)) (fun _ _ _ i _=>10-(intOf i).toNat)
 case atStart=>exact ⟨0,[],Nat.zero_le _,rfl,Own1.nil _ _ _,hB0,HO⟩
 case round =>
  obtain ⟨k,done,hk,rfl,hown,hgr,hrest⟩:=hrel
  by_cases hlt:k<10
  ·obtain ⟨b,hb⟩:=HL.out k hlt
   have hx:=HIX.out k b hb
   have HR:Hid (out=done++(if b then (k:Int)::Ir.listFrom (bs.drop (k+1)) (k+1) else Ir.listFrom (bs.drop (k+1)) (k+1))):=by
    show _=_
    rw [hrest.out]
    have e:bs.drop k=b::bs.drop (k+1):=by
     obtain ⟨h1,h2⟩:=List.getElem?_eq_some_iff.1 hb
     rw [List.drop_eq_getElem_cons h1,h2]
    rw [e];rfl
   have hlen:done.length≤10:=by have:=HOL.out;have:=congrArg List.length hrest.out;simp at this;omega
   clear hb hrest
   have hki:(k:Int)<10:=by omega
   cases b with
   | true =>
    go_wp2_with (at_builtin;refine app1 Tryz.underlying22 hi hz0 hz1 hz2 rfl (by omega) rfl _ _ rfl rfl hown rfl rfl (by simp;omega) hgr.size ?_;intro A1 c1 w1 hown1 hb1 _)
    go_roundw
    case rel=>exact ⟨k+1,done++[(k:Int)],by omega,by go_num,by simpa using hown1,hgr.below hb1 (Nat.le_refl _),by (show _=_;rw [HR.out];simp)⟩
    case measure=>simp [intOf];omega
   | false =>
    go_wp2
    go_roundw
    case rel=>exact ⟨k+1,done,by omega,by go_num,hown,hgr,by (show _=_;rw [HR.out];simp)⟩
    case measure=>simp [intOf];omega
  ·obtain rfl:k=10:=by omega
   have HE:Hid (out=done):=by show _=_;rw [hrest.out,show bs.drop 10=[] by simp [HB.out]];simp [Ir.listFrom]
   clear hrest
   go_wp2
   go_ret
   have hl:done.length≤10:=by have:=HOL.out;rw [HE.out] at this;exact this
   exact ⟨_,rfl,by rw [HE.out];have:=hown.ints (by omega);exact this,hgr⟩
end Go.Proofs.YthfhamagopbgcaaGreat

namespace Go.Proofs.YthfhamagopbgcaaGreat
open Go.RowKit

/-- A set of nodes in a block of the call's own. -/
def ARow (B hb:Nat) (w:World) (bs:List Bool):Prop:=w.ownsRow B 140 1 (.slice (some ⟨hb,0,none⟩) 10 10) 10 (bs.map Value.bool)
section
variable {B hb:Nat} {w w':World} {bs:List Bool}
theorem ARow.len (h:ARow B hb w bs):bs.length=10:=by have:=h.1;simpa using this
theorem ARow.cell (h:ARow B hb w bs) (j:Nat) (b:Bool) (hj:bs[j]?=some b):w.cell? ⟨hb,j,none⟩=some (.bool b):=by
 have hl:=h.len
 have hlt:=(List.getElem?_eq_some_iff.1 hj).1
 rw [World.ownsRow.cellAt h j (by omega),List.getElem?_map,hj];rfl
theorem ARow.frozen (h:ARow B hb w bs) (j:Nat):w.frozen? ⟨hb,j,none⟩=false:=World.ownsRow.frozenAt h j
theorem ARow.set_ (h:ARow B hb w bs) (j:Nat) (b:Bool):ARow B hb (w.setCell ⟨hb,j,none⟩ (.bool b)) (bs.set j b):=by
 have:=(World.ownsRow.stored h j (.bool b)).1
 unfold ARow;rw [List.map_set];exact this
theorem ARow.fresh (h:w.heap[hb]?=some (.cells #[.bool false,.bool false,.bool false,.bool false,.bool false,.bool false,.bool false,.bool false,.bool false,.bool false] 140 (0,0))) (hB:B≤hb):ARow B hb w (List.replicate 10 false) :=
 ⟨rfl,.inr ⟨hb,10,_,rfl,hB,h,Nat.le_refl _,by simp [maxLen],rfl,rfl⟩⟩
theorem ARow.heap (h:ARow B hb w bs):w.heap[hb]?=some (.cells (bs.map Value.bool).toArray 140 (0,0)):=by
 obtain ⟨hl,h2⟩:=h
 rcases h2 with ⟨h,-⟩ | ⟨g,cap,cur,e,-,hg,-,-,hs,ht⟩
 ·cases h
 ·cases e
  rw [hg]
  have:cur.toList=bs.map Value.bool:=by rw [← ht];exact (List.take_of_length_le (by simp [hs])).symm
  rw [← this]
theorem ARow.of (h:w.heap[hb]?=some (.cells (bs.map Value.bool).toArray 140 (0,0))) (hl:bs.length=10) (hB:B≤hb):ARow B hb w bs :=
 ⟨by simpa using hl,.inr ⟨hb,10,_,rfl,hB,h,Nat.le_refl _,by simp [maxLen],by simpa using hl,by simp [List.take_of_length_le,hl]⟩⟩
theorem ARow.lt (h:ARow B hb w bs):hb<w.heap.size:=by
 have:=h.heap
 exact (Array.getElem?_eq_some_iff.1 this).1
/-- What turns in another block. -/
theorem ARow.other (h:ARow B hb w bs) (hh:w'.heap[hb]?=w.heap[hb]?):ARow B hb w' bs:=by
 have h1:=h
 obtain ⟨hl,h2⟩:=h
 refine ⟨hl,?_⟩
 rcases h2 with ⟨h,e⟩ | ⟨g,cap,cur,e,hB,hg,r⟩
 ·exact .inl ⟨h,e⟩
 ·cases e
  exact .inr ⟨hb,10,cur,rfl,hB,hh.trans hg,r⟩
end

theorem bits_len (g:List (List Int)) (z:Int) (n:Nat):(Ir.beforeBits g z n).length=10:=by simp [Ir.beforeBits]
theorem bits_succ (g:List (List Int)) (z:Int) (n:Nat) (l:List Int) (h:g[n]?=some l) (hn:n<10):(Ir.beforeBits g z n).set n (Ref.has l z)=Ir.beforeBits g z (n+1):=by
 apply List.ext_getElem?
 intro i
 unfold Ir.beforeBits
 rw [List.getElem?_set]
 by_cases e:n=i
 ·subst e
  simp [hn,List.getD,h]
 ·by_cases hi:i<10
  ·simp [e,hi]
   by_cases h2:i<n
   ·simp [h2,show i<n+1 by omega]
   ·simp [h2,show ¬ i<n+1 by omega]
  ·simp [e,hi]

set_option maxRecDepth 10000 in
set_option maxHeartbeats 4000000 in
theorem ibefore_any (v:Value) (g:List (List Int)) (z:Int) (w:World) (hg:TabAt w.heap.size w v g) (hn:g.length≤10) :
  Calls Tryz.prog 142 #[v,.int .i64 z] w fun e w'=>e=.returned (nv (Ir.beforeBits g z g.length))∧Gr w w':=by
 obtain ⟨A,c,rfl,h1,h2,h3⟩:=hg
 have hr0:∀ W:World,W=(w.alloc (.cells #[.bool false,.bool false,.bool false,.bool false,.bool false,.bool false,.bool false,.bool false,.bool false,.bool false] 140)).alloc (.cells #[.bool false,.bool false,.bool false,.bool false,.bool false,.bool false,.bool false,.bool false,.bool false,.bool false] 140)→ARow w.heap.size w.heap.size W (List.replicate 10 false)∧ARow w.heap.size (w.heap.size+1) W (List.replicate 10 false)∧Gr w W:=by
  intro W hW
  subst hW
  exact ⟨ARow.fresh (heap_alloc2_old w _ _) (Nat.le_refl _),ARow.fresh (heap_alloc2_new w _ _) (by omega),((Gr.refl w).alloc _).alloc _⟩
 obtain ⟨r1,r2,r3⟩:=hr0 _ rfl
 clear hr0
 have hz:Ir.beforeBits g z 0=List.replicate 10 false:=by simp [Ir.beforeBits];rfl
 rw [← hz] at r2
 clear hz
 go_enter Tryz.func142, Tryz.ntmps142
 go_wp2
 go_loopw [6,7,10] (fun _ _ i wr=>∃ k:Nat,k≤g.length∧i=.int .i64 k∧ARow w.heap.size w.heap.size wr (List.replicate 10 false)∧ARow w.heap.size (w.heap.size+1) wr (Ir.beforeBits g z k)∧Gr w wr) (fun _ _ i _=>g.length-(intOf i).toNat)
 case atStart=>exact ⟨0,Nat.zero_le _,rfl,r1,r2,r3⟩
 case round =>
  obtain ⟨k,hk,rfl,hr1,hr2,hgr⟩:=hrel
  obtain ⟨wo,rfl⟩:∃ wo:World,wo=wr:=⟨_,rfl⟩
  clear r1 r2 r3
  by_cases hlt:k<g.length
  ·obtain ⟨b,o,rfl,hb,hc⟩:=h3 (by omega)
   obtain ⟨l,hl⟩:∃ l,g[k]?=some l:=⟨g[k],by simp [hlt]⟩
   obtain ⟨u,hu,hul⟩:=hc k l hl
   have hu':=(hgr.cell _ _ hb).trans hu
   have HC:=Lib.hid (Contains_any u l z wo (hul.gr hgr))
   have HB:Hid ((Ir.beforeBits g z k).set k (Ref.has l z)=Ir.beforeBits g z (k+1)):=bits_succ g z k l hl (by omega)
   obtain ⟨y,hy⟩:∃ y,(Ir.beforeBits g z k)[k]?=some y:=⟨(Ir.beforeBits g z k)[k]'(by rw [bits_len];omega),by simp [show k<(Ir.beforeBits g z k).length by rw [bits_len];omega]⟩
   have hcell:=hr2.cell k y hy
   have hfz:=hr2.frozen k
   have hk10:(k:Int)<10:=by omega
   clear hl hc hu hul h3 hy
   go_wp2_with (go_at_call 56;refine HC.out.mono ?_;rintro e w' ⟨rfl,rfl⟩)
   go_roundw
   case rel=>exact ⟨k+1,by omega,by go_num,hr1.other (heap_setCell_other _ _ _ _ (by show w.heap.size≠w.heap.size+1;omega)),by rw [← HB.out];exact hr2.set_ k _,hgr.setCell (by simp) _⟩
   case measure=>simp [intOf];omega
  ·obtain rfl:k=g.length:=by omega
   have HL:=Lib.hid hr2.len
   obtain ⟨bs,hbs⟩:∃ bs,Ir.beforeBits g z g.length=bs:=⟨_,rfl⟩
   rw [hbs] at hr2 HL
   have HBS:=Lib.hid hbs
   clear hbs
   obtain ⟨a0,a1,a2,a3,a4,a5,a6,a7,a8,a9,rfl⟩:=ten bs HL.out
   have c0:=hr2.cell 0 _ rfl
   have c1:=hr2.cell 1 _ rfl
   have c2:=hr2.cell 2 _ rfl
   have c3:=hr2.cell 3 _ rfl
   have c4:=hr2.cell 4 _ rfl
   have c5:=hr2.cell 5 _ rfl
   have c6:=hr2.cell 6 _ rfl
   have c7:=hr2.cell 7 _ rfl
   have c8:=hr2.cell 8 _ rfl
   have c9:=hr2.cell 9 _ rfl
   have d0:=hr1.cell 0 _ rfl
   have f0:=hr1.frozen 0
   have d1:=hr1.cell 1 _ rfl
   have f1:=hr1.frozen 1
   have d2:=hr1.cell 2 _ rfl
   have f2:=hr1.frozen 2
   have d3:=hr1.cell 3 _ rfl
   have f3:=hr1.frozen 3
   have d4:=hr1.cell 4 _ rfl
   have f4:=hr1.frozen 4
   have d5:=hr1.cell 5 _ rfl
   have f5:=hr1.frozen 5
   have d6:=hr1.cell 6 _ rfl
   have f6:=hr1.frozen 6
   have d7:=hr1.cell 7 _ rfl
   have f7:=hr1.frozen 7
   have d8:=hr1.cell 8 _ rfl
   have f8:=hr1.frozen 8
   have d9:=hr1.cell 9 _ rfl
   have f9:=hr1.frozen 9
   go_wp2
   refine bodyPost_ret (by simp [results,Tryz.results142,go_sem, *];rfl) rfl ?_
   refine ⟨ret_val (by rw [HBS.out];rfl),?_⟩
   iterate 10 refine Gr.setCell ?_ (Nat.le_refl w.heap.size) _
   exact hgr

theorem listFrom_before (g:List (List Int)) (z:Int):∀ (m b:Nat),g.length≤b+m→Ir.listFrom ((List.range' b m).map fun a=>decide (a<g.length) && Ref.has (g.getD a []) z) b=Ref.beforeFrom z (g.drop b) b
 | 0,b,h=>by rw [List.drop_eq_nil_of_le (by omega)];rfl
 | m+1,b,h=>by
  rw [List.range'_succ,List.map_cons,Ir.listFrom,listFrom_before g z m (b+1) (by omega)]
  by_cases hb:b<g.length
  ·rw [List.drop_eq_getElem_cons hb,Ref.beforeFrom]
   simp [hb,List.getD]
  ·rw [List.drop_eq_nil_of_le (by omega),List.drop_eq_nil_of_le (by omega)]
   simp [hb,Ref.beforeFrom]
theorem list_before (g:List (List Int)) (z:Int) (h:g.length≤10):Ir.listFrom (Ir.beforeBits g z g.length) 0=Ref.before g z:=by
 unfold Ir.beforeBits Ref.before
 rw [List.range_eq_range',listFrom_before g z 10 0 (by omega)]
 rfl

theorem gval_len {g:List (List Int)} (h:Ir.gval g=0):1≤g.length∧g.length≤10:=by
 unfold Ir.gval at h
 split at h
 ·cases h
 ·omega
theorem noded_one {g:List (List Int)} {z:Int} (h:Ir.gval g=0) (h0:0≤z) (h1:z<g.length):Ir.noded g [z]=0:=by
 unfold Ir.noded
 rw [if_pos h]
 simp [Ir.outside];omega
theorem ints_new1 (w:World) (z:Int):IntsAt (w.heap.size+1) (w.alloc (.cells #[.int .i64 z] 3)) (.slice (some ⟨w.heap.size,0,none⟩) 1 1) [z]:=by
 refine ⟨_,_,rfl,Nat.le_refl _,by simp,fun _=>⟨_,_,rfl,by omega,fun j y hy=>?_⟩⟩
 have:j=0:=by have:=(List.getElem?_eq_some_iff.1 hy).1;simp at this;omega
 subst this
 simp at hy;subst hy
 exact cell_of_row _ _ _ _ _ _ (heap_alloc_new w _)

set_option maxRecDepth 10000 in
set_option maxHeartbeats 2000000 in
/-- flow.Before on a right graph at one of its nodes. -/
theorem Before_any (v:Value) (g:List (List Int)) (z:Int) (w:World) (hg:TabAt w.heap.size w v g) (hv:Ir.gval g=0) (h0:0≤z) (h1:z<g.length) :
  Calls Tryz.prog 109 #[v,.int .i64 z] w fun e w'=>∃ u,e=.returned (.tuple #[u,.int .i64 0])∧IntsAt w'.heap.size w' u (Ref.before g z)∧Gr w w':=by
 have hn:=(gval_len hv).2
 obtain ⟨W,hW⟩:∃ W,w.alloc (.cells #[.int .i64 z] 3)=W:=⟨_,rfl⟩
 have hB0:Gr w W:=by rw [← hW];exact (Gr.refl w).alloc _
 have hu:IntsAt W.heap.size W (.slice (some ⟨w.heap.size,0,none⟩) 1 1) [z]:=by rw [← hW];simpa using ints_new1 w z
 have HC1:=Lib.hid (noded_any v _ g [z] W (hg.gr hB0) hu)
 rw [noded_one hv h0 h1] at HC1
 have HC2:Hid (∀ w1,Gr w w1→Calls Tryz.prog 142 #[v,.int .i64 z] w1 fun e w'=>e=.returned (nv (Ir.beforeBits g z g.length))∧Gr w1 w'):=fun w1 g1=>ibefore_any v g z w1 (hg.gr g1) hn
 have HC3:Hid (∀ w1,Calls Tryz.prog 99 #[nv (Ir.beforeBits g z g.length)] w1 fun e w'=>∃ v,e=.returned v∧IntsAt w'.heap.size w' v (Ref.before g z)∧Gr w1 w'):=by
  rw [← list_before g z hn];exact fun w1=>list_any _ (bits_len _ _ _) w1
 obtain ⟨bits,hbits⟩:∃ bits,nv (Ir.beforeBits g z g.length)=bits:=⟨_,rfl⟩
 rw [hbits] at HC2 HC3
 clear hbits hg hv hu
 go_enter Tryz.func109, Tryz.ntmps109
 go_wp2_with (first
   | (go_at_call 141;refine HC1.out.mono ?_;rintro e w1 ⟨rfl,g1⟩)
   | (go_at_call 142;refine (HC2.out _ (hB0.trans g1)).mono ?_;rintro e w2 ⟨rfl,g2⟩)
   | (go_at_call 99;refine (HC3.out _).mono ?_;rintro e w3 ⟨vl,rfl,hl,g3⟩))
 go_ret2
 exact ⟨vl,rfl,hl,hB0.trans (g1.trans (g2.trans g3))⟩
end Go.Proofs.YthfhamagopbgcaaGreat

namespace Go.Proofs.YthfhamagopbgcaaGreat
open Go.RowKit

namespace Ir
/-- A way leads from v to i, and not through but. -/
inductive From (g:List (List Int)) (but:Int):Nat→Nat→Prop
 | here (v:Nat) (h:(v:Int)≠but):From g but v v
 | step (v i:Nat) (t:Int) (h:(v:Int)≠but) (ht:t ∈ g.getD v []) (hr:From g but t.toNat i):From g but v i
def cnt (s:List Bool):Nat:=s.countP (fun b=>!b)
/-- What a visit of v makes of a set. -/
def Vis (g:List (List Int)) (but:Int) (s s':List Bool) (v:Nat):Prop :=
 (∀ i:Nat,s[i]?=some true→s'[i]?=some true)∧((v:Int)=but∨s'[v]?=some true)∧(∀ i:Nat,s'[i]?=some true→s[i]?=some true∨From g but v i) ∧
  (∀ i:Nat,s'[i]?=some true→s[i]?=some true∨∀ t ∈ g.getD i [],t=but∨s'[t.toNat]?=some true)
/-- What has been seen when some of the successors of v have been visited; s1: with v itself. -/
def VisL (g:List (List Int)) (but:Int) (s1 si:List Bool) (l done:List Int):Prop :=
 (∀ i:Nat,s1[i]?=some true→si[i]?=some true)∧(∀ t ∈ done,t=but∨si[t.toNat]?=some true)∧(∀ i:Nat,si[i]?=some true→s1[i]?=some true∨∃ t ∈ l,From g but t.toNat i) ∧
  (∀ i:Nat,si[i]?=some true→s1[i]?=some true∨∀ t ∈ g.getD i [],t=but∨si[t.toNat]?=some true)
theorem Vis.same (g:List (List Int)) (but:Int) (s:List Bool) (v:Nat) (h:(v:Int)=but∨s[v]?=some true):Vis g but s s v :=
 ⟨fun _ h=>h,h,fun _ h=>.inl h,fun _ h=>.inl h⟩
theorem VisL.start (g:List (List Int)) (but:Int) (s1:List Bool) (l:List Int):VisL g but s1 s1 l [] :=
 ⟨fun _ h=>h,fun t ht=>by simp at ht,fun _ h=>.inl h,fun _ h=>.inl h⟩
theorem VisL.more {g:List (List Int)} {but:Int} {s1 si sj:List Bool} {l done:List Int} {t:Int} (h:VisL g but s1 si l done) (hv:Vis g but si sj t.toNat) (ht0:0≤t) (ht:t ∈ l):VisL g but s1 sj l (done++[t]):=by
 obtain ⟨a1,a2,a3,a4⟩:=h
 obtain ⟨b1,b2,b3,b4⟩:=hv
 refine ⟨fun i hi=>b1 i (a1 i hi),?_,?_,?_⟩
 ·intro u hu
  rcases List.mem_append.1 hu with hu | hu
  ·rcases a2 u hu with h | h
   ·exact .inl h
   ·exact .inr (b1 _ h)
  ·simp at hu;subst hu
   rcases b2 with h | h
   ·left;omega
   ·exact .inr h
 ·intro i hi
  rcases b3 i hi with h | h
  ·exact a3 i h
  ·exact .inr ⟨t,ht,h⟩
 ·intro i hi
  rcases b4 i hi with h | h
  ·rcases a4 i h with h | h
   ·exact .inl h
   ·exact .inr fun u hu=>(h u hu).imp_right (b1 _)
  ·exact .inr h
theorem VisL.done {g:List (List Int)} {but:Int} {s si:List Bool} {l:List Int} {v:Nat} (h:VisL g but (s.set v true) si l l) (hl:g[v]?=some l) (hv:(v:Int)≠but) (hlt:v<s.length):Vis g but s si v:=by
 obtain ⟨a1,a2,a3,a4⟩:=h
 have hs:(s.set v true)[v]?=some true:=by simp [hlt]
 have hset:∀ i:Nat,(s.set v true)[i]?=some true→i=v∨s[i]?=some true:=by
  intro i hi
  rw [List.getElem?_set] at hi
  split at hi
  ·left;omega
  ·exact .inr hi
 have hget:g.getD v []=l:=by simp [List.getD,hl]
 refine ⟨fun i hi=>a1 i ?_,.inr (a1 v hs),?_,?_⟩
 ·rw [List.getElem?_set]
  split
  ·rename_i e;subst e;simp
  ·exact hi
 ·intro i hi
  rcases a3 i hi with h | ⟨t,ht,h⟩
  ·rcases hset i h with rfl | h
   ·exact .inr (.here _ hv)
   ·exact .inl h
  ·exact .inr (.step v i t hv (by rw [hget];exact ht) h)
 ·intro i hi
  rcases a4 i hi with h | h
  ·rcases hset i h with rfl | h
   ·right;rw [hget];exact a2
   ·exact .inl h
  ·exact .inr h
theorem cnt_le:∀ (s s':List Bool),s.length=s'.length→(∀ i:Nat,s[i]?=some true→s'[i]?=some true)→cnt s'≤cnt s
 | [],[],_,_=>Nat.le_refl _
 | a::r,b::q,hl,h=>by
  have ih:=cnt_le r q (by simpa using hl) (fun i hi=>by have:=h (i+1) (by simpa using hi);simpa using this)
  have h0:=h 0
  unfold cnt at *
  cases a <;> cases b <;> simp_all <;> omega
theorem cnt_set:∀ (s:List Bool) (v:Nat),s[v]?=some false→cnt (s.set v true)+1=cnt s
 | [],v,h=>by simp at h
 | a::r,0,h=>by simp at h;subst h;simp [cnt]
 | a::r,v+1,h=>by
  have:=cnt_set r v (by simpa using h)
  unfold cnt at *
  cases a <;> simp [List.set] <;> omega
end Ir

section
variable (g:List (List Int)) (but:Int) (vg:Value) (w0:World) (bb gb:Nat)
/-- The value of 'visit'. -/
def visitV (bb hb gb:Nat):Value:=.func (.func 138) #[] #[.pointer (some ⟨bb,0,none⟩),.pointer (some ⟨hb,0,none⟩),.pointer (some ⟨gb,0,none⟩),.pointer (some ⟨hb+1,0,none⟩)]

set_option maxRecDepth 10000 in
set_option maxHeartbeats 4000000 in
theorem visit_any (hg:TabAt w0.heap.size w0 vg g) (hn:g.length≤10) (hok:Hid (∀ l ∈ g,∀ t ∈ l,0≤t∧t<(g.length:Int))) (hbb:bb<w0.heap.size) (hgb:gb<w0.heap.size)
  (hcb:w0.cell? ⟨bb,0,none⟩=some (.int .i64 but)) (hcg:w0.cell? ⟨gb,0,none⟩=some vg) :
  ∀ (n:Nat) (s:List Bool) (v:Nat) (w:World),Ir.cnt s≤n→v<g.length→Gr w0 w→ARow w0.heap.size w0.heap.size w s→w.cell? ⟨w0.heap.size+1,0,none⟩=some (visitV bb w0.heap.size gb) →
   Calls Tryz.prog 138 #[.int .i64 v,.pointer (some ⟨bb,0,none⟩),.pointer (some ⟨w0.heap.size,0,none⟩),.pointer (some ⟨gb,0,none⟩),.pointer (some ⟨w0.heap.size+1,0,none⟩)] w fun e w' =>
    e=.returned (.tuple #[])∧∃ s',Ir.Vis g but s s' v∧ARow w0.heap.size w0.heap.size w' s'∧Gr w0 w'∧w'.cell? ⟨w0.heap.size+1,0,none⟩=some (visitV bb w0.heap.size gb):=by
 intro n
 induction n with
 | zero =>
  intro s v w hc hv hgr hrow hvis
  have hl:=hrow.len
  have hb1:=(hgr.cell _ 0 hbb).trans hcb
  have hsv:s[v]?=some true:=by
   have:v<s.length:=by omega
   cases h:s[v]'this with
   | true=>simp [this,h]
   | false =>
    have:=Ir.cnt_set s v (by simp [this,h])
    omega
  have hcv:=hrow.cell v true hsv
  have hk10:(v:Int)<10:=by omega
  have HV:Hid (Ir.Vis g but s s v):=Ir.Vis.same g but s v (.inr hsv)
  have HR:=Lib.hid hrow
  clear hl hsv hrow hc
  rcases Decidable.em ((v:Int)=but) with h | h
  ·have hb:((v:Int) == but)=true:=by simp [h]
   go_enter Tryz.func138, Tryz.ntmps138
   go_wp2
   refine bodyPost_ret (results_none rfl _ _ _) rfl ?_
   exact ⟨rfl,s,HV.out,HR.out,hgr,hvis⟩
  ·have hb:((v:Int) == but)=false:=by simp [h]
   go_enter Tryz.func138, Tryz.ntmps138
   go_wp2
   refine bodyPost_ret (results_none rfl _ _ _) rfl ?_
   exact ⟨rfl,s,HV.out,HR.out,hgr,hvis⟩
 | succ n ih =>
  intro s v w hc hv hgr hrow hvis
  have hl:=hrow.len
  have hb1:=(hgr.cell _ 0 hbb).trans hcb
  have hk10:(v:Int)<10:=by omega
  obtain ⟨y,hy⟩:∃ y,s[v]?=some y:=⟨s[v]'(by omega),by simp [show v<s.length by omega]⟩
  have hcv:=hrow.cell v y hy
  have hfv:=hrow.frozen v
  rcases Decidable.em ((v:Int)=but) with h | h
  ·have hb:((v:Int) == but)=true:=by simp [h]
   have HV:Hid (Ir.Vis g but s s v):=Ir.Vis.same g but s v (.inl h)
   have HR:=Lib.hid hrow
   clear hl hy hrow hc h ih
   go_enter Tryz.func138, Tryz.ntmps138
   go_wp2
   refine bodyPost_ret (results_none rfl _ _ _) rfl ?_
   exact ⟨rfl,s,HV.out,HR.out,hgr,hvis⟩
  ·have hb:((v:Int) == but)=false:=by simp [h]
   cases y with
   | true =>
    have HV:Hid (Ir.Vis g but s s v):=Ir.Vis.same g but s v (.inr hy)
    have HR:=Lib.hid hrow
    clear hl hy hrow hc h ih
    go_enter Tryz.func138, Tryz.ntmps138
    go_wp2
    refine bodyPost_ret (results_none rfl _ _ _) rfl ?_
    exact ⟨rfl,s,HV.out,HR.out,hgr,hvis⟩
   | false =>
    have hcs:Ir.cnt (s.set v true)≤n:=by have:=Ir.cnt_set s v hy;omega
    obtain ⟨l,hll⟩:∃ l,g[v]?=some l:=⟨g[v],by simp [hv]⟩
    have HD:Hid (∀ si,Ir.VisL g but (s.set v true) si l l→Ir.Vis g but s si v):=fun si q=>q.done hll h (by omega)
    have HOK:Hid (∀ t ∈ l,0≤t∧t<(g.length:Int)):=hok.out l (List.mem_of_getElem? hll)
    have hrow1:=hrow.set_ v true
    obtain ⟨s1,hs1⟩:∃ s1,s.set v true=s1:=⟨_,rfl⟩
    rw [hs1] at hrow1 HD hcs
    have hgr1:Gr w0 (w.setCell ⟨w0.heap.size,v,none⟩ (.bool true)):=hgr.setCell (Nat.le_refl _) _
    have hvis1:(w.setCell ⟨w0.heap.size,v,none⟩ (.bool true)).cell? ⟨w0.heap.size+1,0,none⟩=some (visitV bb w0.heap.size gb):=by
     exact (World.cell?_setCell_other _ _ _ _ (by simp)).trans hvis
    obtain ⟨Ag,cg,rfl,-,-,g3⟩:=hg
    obtain ⟨bg,og,rfl,hbg,hct⟩:=g3 (by omega)
    obtain ⟨u,hu,hul⟩:=hct v l hll
    have hgc:=(hgr1.cell _ 0 hgb).trans hcg
    have hu1:=(hgr1.cell _ _ hbg).trans hu
    obtain ⟨Al,cl,rfl,p1,p2,p3⟩:=hul
    have P3:=Lib.hid p3
    have IH:=Lib.hid ih
    have zv:(v:Int)<(g.length:Int):=by omega
    have HS1:Hid (Ir.VisL g but s1 s1 l (l.take 0)):=Ir.VisL.start g but s1 l
    have HCS:Hid (Ir.cnt s1≤n):=hcs
    have HR1:=Lib.hid hrow1
    clear hl hy hrow hc h ih hll hs1 hct g3 hu p3 hrow1 hcs
    go_enter Tryz.func138, Tryz.ntmps138
    go_wp2
    go_loopw [7,23] (fun _ i wr=>∃ (k:Nat) (si:List Bool),k≤l.length∧i=.int .i64 k∧Gr w0 wr∧wr.cell? ⟨w0.heap.size+1,0,none⟩=some (visitV bb w0.heap.size gb)∧Hid (ARow w0.heap.size w0.heap.size wr si)∧Hid (Ir.VisL g but s1 si l (l.take k))) (fun _ i _=>l.length-(intOf i).toNat)
    case atStart=>exact ⟨0,s1,Nat.zero_le _,rfl,hgr1,hvis1,HR1,HS1⟩
    case round =>
     obtain ⟨k,si,hk,rfl,hgrk,hvk,HRk,HSk⟩:=hrel
     obtain ⟨wo,rfl⟩:∃ wo:World,wo=wr:=⟨_,rfl⟩
     rcases hr:l.drop k with _ | ⟨t,r⟩
     ·have hkn:=drop_nil hr hk
      subst hkn
      have HF:Hid (Ir.Vis g but s si v):=HD.out si (by have:=HSk.out;rwa [List.take_length] at this)
      clear hr
      go_wp2
      go_end0
      exact ⟨rfl,si,HF.out,HRk.out,hgrk,hvk⟩
     ·obtain ⟨hlt,hx,hr'⟩:=drop_cons hr
      obtain ⟨b,o,rfl,hb2,hcl⟩:=P3.out (by omega)
      have ht:=hcl k t hx
      have ht1:=(hgrk.cell _ _ hb2).trans ht
      have hmem:=List.mem_of_getElem? hx
      obtain ⟨q0,q1⟩:=HOK.out t hmem
      obtain ⟨tn,rfl⟩:=Int.eq_ofNat_of_zero_le q0
      have htn:tn<g.length:=by omega
      have hcnt:Ir.cnt si≤n:=Nat.le_trans (Ir.cnt_le s1 si (by rw [HR1.out.len,HRk.out.len]) HSk.out.1) HCS.out
      have HCV:=Lib.hid (IH.out si tn wo hcnt htn hgrk HRk.out hvk)
      have HT:Hid (l.take (k+1)=l.take k++[(tn:Int)]):=by
       show _=_
       obtain ⟨e1,e2⟩:=List.getElem?_eq_some_iff.1 hx
       rw [List.take_succ_eq_append_getElem e1,e2]
      have HMEM:=Lib.hid hmem
      clear hr hx hr' hcl ht hmem hcnt
      unfold visitV at hvk
      go_wp2_with (go_at_call 138;(refine HCV.out.mono ?_;rintro e w2 ⟨rfl,sj,hv2,hrow2,hgr2,hvis2⟩))
      go_roundw
      case rel=>exact ⟨k+1,sj,by omega,by go_num,hgr2,hvis2,hrow2,by (show Ir.VisL _ _ _ _ _ _;rw [HT.out];exact HSk.out.more (by simpa using hv2) (by omega) HMEM.out)⟩
      case measure=>simp [intOf];omega
end
end Go.Proofs.YthfhamagopbgcaaGreat

namespace Go.Proofs.YthfhamagopbgcaaGreat
open Go.RowKit

namespace Ir
theorem vis_from {g:List (List Int)} {but:Int} {s s':List Bool} (h:Vis g but s s' 0) (hs:∀ i:Nat,s[i]?≠some true) (hok:∀ l ∈ g,∀ t ∈ l,0≤t∧t<(g.length:Int)):∀ i:Nat,s'[i]?=some true↔From g but 0 i:=by
 obtain ⟨-,h2,h3,h4⟩:=h
 have key:∀ v i,From g but v i→s'[v]?=some true→s'[i]?=some true:=by
  intro v i hf
  induction hf with
  | here v h=>exact fun h=>h
  | step v i t h ht hr ih =>
   intro hv
   apply ih
   rcases h4 v hv with h5 | h5
   ·exact absurd h5 (hs v)
   ·rcases h5 t ht with h6 | h6
    ·exfalso
     have h7:(t.toNat:Int)≠but:=by cases hr with | here _ q=>exact q | step _ _ _ q _ _=>exact q
     have h8:0≤t:=by
      cases hl:g[v]? with
      | none=>simp [List.getD,hl] at ht
      | some l =>
       have hm:t ∈ l:=by simpa [List.getD,hl] using ht
       exact (hok l (List.mem_of_getElem? hl) t hm).1
     omega
    ·exact h6
 intro i
 constructor
 ·intro hi
  rcases h3 i hi with h | h
  ·exact absurd h (hs i)
  ·exact h
 ·intro hf
  refine key 0 i hf ?_
  rcases h2 with h | h
  ·exfalso
   cases hf with
   | here _ q=>exact q h
   | step _ _ _ q _ _=>exact q h
  ·exact h
/-- The set of the nodes that are reached, not through but. -/
def IsReach (g:List (List Int)) (but:Int) (s:List Bool):Prop:=s.length=10∧∀ i:Nat,s[i]?=some true↔From g but 0 i
end Ir
theorem gval_ok {g:List (List Int)} (h:Ir.gval g=0):∀ l ∈ g,∀ t ∈ l,0≤t∧t<(g.length:Int):=by
 intro l hl t ht
 unfold Ir.gval at h
 split at h
 ·cases h
 ·split at h
  ·cases h
  ·split at h
   ·cases h
   ·rename_i h3
    have:Ir.outside g.length t=false:=by
     cases q:Ir.outside g.length t with
     | false=>rfl
     | true=>exact absurd (List.any_eq_true.2 ⟨l,hl,List.any_eq_true.2 ⟨t,ht,q⟩⟩) h3
    unfold Ir.outside at this
    simp at this
    omega

theorem store_new (V:World) (x y:Value) (t:TypeId) (n:Nat) (hn:n=V.heap.size) (hx:x.oneCell'=true):Sem.run Tryz.prog (store ⟨n,0,none⟩ x) (V.alloc (.cells #[y] t))=.ok () (V.alloc (.cells #[x] t)):=by
 subst hn
 have h:=heap_alloc_new V (.cells #[y] t)
 have hc:=cell_of_one h
 have hf:=free_of_one h
 rw [run_store _ _ _ _ _ hx,hc]
 simp only [hf]
 rw [World.setCell_alloc_at _ _ _ _ _ rfl]
 rfl

set_option maxRecDepth 10000 in
set_option maxHeartbeats 4000000 in
theorem reach_any (vg:Value) (g:List (List Int)) (but:Int) (w:World) (hg:TabAt w.heap.size w vg g) (hv:Ir.gval g=0) :
  Calls Tryz.prog 98 #[vg,.int .i64 but] w fun e w'=>∃ s,e=.returned (nv s)∧Ir.IsReach g but s∧Gr w w':=by
 obtain ⟨hn1,hn⟩:=gval_len hv
 have hok:=gval_ok hv
 have hg0:=hg
 obtain ⟨A,c,rfl,-,-,-⟩:=hg
 have prep:∃ w0 W,((((w.alloc (.cells #[.slice A g.length c] 27)).alloc (.cells #[.int .i64 but] 3)).alloc (.cells #[Value.bool false,Value.bool false,Value.bool false,Value.bool false,Value.bool false,Value.bool false,Value.bool false,Value.bool false,Value.bool false,Value.bool false] 140)).alloc (.cells #[Value.bool false,Value.bool false,Value.bool false,Value.bool false,Value.bool false,Value.bool false,Value.bool false,Value.bool false,Value.bool false,Value.bool false] 140)).alloc (.cells #[visitV (w.heap.size+1) (w.heap.size+3) w.heap.size] 179)=W ∧
   Gr w w0∧w0.heap.size=w.heap.size+3∧w0.cell? ⟨w.heap.size,0,none⟩=some (.slice A g.length c)∧w0.cell? ⟨w.heap.size+1,0,none⟩=some (.int .i64 but)∧ARow w.heap.size (w.heap.size+2) w0 (List.replicate 10 false)∧Gr w0 W ∧
   ARow w0.heap.size (w.heap.size+3) W (List.replicate 10 false)∧W.cell? ⟨w.heap.size+3+1,0,none⟩=some (visitV (w.heap.size+1) (w.heap.size+3) w.heap.size):=by
  obtain ⟨w0,hw0⟩:∃ w0,((w.alloc (.cells #[.slice A g.length c] 27)).alloc (.cells #[.int .i64 but] 3)).alloc (.cells #[Value.bool false,Value.bool false,Value.bool false,Value.bool false,Value.bool false,Value.bool false,Value.bool false,Value.bool false,Value.bool false,Value.bool false] 140)=w0:=⟨_,rfl⟩
  have hws:w0.heap.size=w.heap.size+3:=by rw [← hw0];simp
  refine ⟨w0,_,rfl,?_,hws,?_,?_,?_,?_,?_,?_⟩
  ·rw [← hw0];exact (((Gr.refl w).alloc _).alloc _).alloc _
  ·rw [← hw0];exact (((Gr.refl _).alloc _).cell w.heap.size 0 (by simp;omega)).trans ((((Gr.refl _).alloc _).cell w.heap.size 0 (by simp)).trans (cell_of_row _ _ _ _ _ _ (heap_alloc_new w _)))
  ·rw [← hw0]
   have e:(w.alloc (.cells #[.slice A g.length c] 27)).heap.size=w.heap.size+1:=by simp
   have:=cell_of_row _ _ 0 _ _ _ (heap_alloc_new (w.alloc (.cells #[.slice A g.length c] 27)) (.cells #[.int .i64 but] 3))
   rw [e] at this
   exact (((Gr.refl _).alloc _).cell (w.heap.size+1) 0 (by simp)).trans this
  ·rw [← hw0]
   refine ARow.fresh ?_ (by omega)
   have e:((w.alloc (.cells #[.slice A g.length c] 27)).alloc (.cells #[.int .i64 but] 3)).heap.size=w.heap.size+2:=by simp
   have:=heap_alloc_new ((w.alloc (.cells #[.slice A g.length c] 27)).alloc (.cells #[.int .i64 but] 3)) (.cells #[Value.bool false,Value.bool false,Value.bool false,Value.bool false,Value.bool false,Value.bool false,Value.bool false,Value.bool false,Value.bool false,Value.bool false] 140)
   rw [e] at this
   exact this
  ·rw [hw0];exact ((Gr.refl w0).alloc _).alloc _
  ·rw [hw0,← hws];exact ARow.fresh (heap_alloc2_old w0 _ _) (Nat.le_refl _)
  ·rw [hw0,← hws];exact cell_of_row _ _ _ _ _ _ (heap_alloc2_new w0 _ _)
 obtain ⟨w0,W,hW,hB0,hws,hgb,hbb,hr0,hgW,hrW,hvW⟩:=prep
 have HC:Hid (Calls Tryz.prog 138 #[.int .i64 0,.pointer (some ⟨w.heap.size+1,0,none⟩),.pointer (some ⟨w.heap.size+3,0,none⟩),.pointer (some ⟨w.heap.size,0,none⟩),.pointer (some ⟨w.heap.size+3+1,0,none⟩)] W fun e w' =>
       e=.returned (.tuple #[])∧∃ s',Ir.Vis g but (List.replicate 10 false) s' 0∧ARow w0.heap.size (w.heap.size+3) w' s'∧Gr w0 w'):=by
  have:=visit_any g but (.slice A g.length c) w0 (w.heap.size+1) w.heap.size (hg0.gr hB0) hn hok (by omega) (by omega) hbb hgb 10 (List.replicate 10 false) 0 W (by simp [Ir.cnt]) (by omega) hgW (by rw [hws];rw [hws] at hrW;exact hrW) (by rw [hws];exact hvW)
  rw [hws] at this ⊢
  exact this.mono fun _ _ ⟨h1,s',h2,h3,h4,_⟩=>⟨h1,s',h2,h3,h4⟩
 have HF:Hid (∀ s',Ir.Vis g but (List.replicate 10 false) s' 0→s'.length=10→Ir.IsReach g but s'):=fun s' h hl=>⟨hl,Ir.vis_from h (fun i=>by rw [List.getElem?_replicate];split <;> simp) hok⟩
 unfold visitV at hW
 have hst:=store_new ((((w.alloc (.cells #[.slice A g.length c] 27)).alloc (.cells #[.int .i64 but] 3)).alloc (.cells #[Value.bool false,Value.bool false,Value.bool false,Value.bool false,Value.bool false,Value.bool false,Value.bool false,Value.bool false,Value.bool false,Value.bool false] 140)).alloc (.cells #[Value.bool false,Value.bool false,Value.bool false,Value.bool false,Value.bool false,Value.bool false,Value.bool false,Value.bool false,Value.bool false,Value.bool false] 140)) (visitV (w.heap.size+1) (w.heap.size+1+1+1) w.heap.size) .nilFunc 179 (w.heap.size+1+1+1+1) (by simp) rfl
 rw [show w.heap.size+3=w.heap.size+1+1+1 by omega] at hW HC hvW
 unfold visitV at hst hvW
 rw [hW] at hst
 have HR0:=Lib.hid hr0
 have HWS:=Lib.hid hws
 clear hg0 hv hok hgb hbb hr0 hrW hgW hws
 go_enter Tryz.func98, Tryz.ntmps98
 go_wp2_with (go_at_call 138;refine HC.out.mono ?_;rintro e w1 ⟨rfl,s,hvis,hrow,hgr⟩;have HI:=Lib.hid (HF.out s hvis hrow.len);clear hvis;have hr1:ARow w.heap.size (w.heap.size+1+1) w1 (List.replicate 10 false):=HR0.out.other (hgr.heap _ (by have:=HWS.out;omega));obtain ⟨a0,a1,a2,a3,a4,a5,a6,a7,a8,a9,rfl⟩:=ten s hrow.len;have c0:=hrow.cell 0 _ rfl;have c1:=hrow.cell 1 _ rfl;have c2:=hrow.cell 2 _ rfl;have c3:=hrow.cell 3 _ rfl;have c4:=hrow.cell 4 _ rfl;have c5:=hrow.cell 5 _ rfl;have c6:=hrow.cell 6 _ rfl;have c7:=hrow.cell 7 _ rfl;have c8:=hrow.cell 8 _ rfl;have c9:=hrow.cell 9 _ rfl;have d0:=hr1.cell 0 _ rfl;have f0:=hr1.frozen 0;have d1:=hr1.cell 1 _ rfl;have f1:=hr1.frozen 1;have d2:=hr1.cell 2 _ rfl;have f2:=hr1.frozen 2;have d3:=hr1.cell 3 _ rfl;have f3:=hr1.frozen 3;have d4:=hr1.cell 4 _ rfl;have f4:=hr1.frozen 4;have d5:=hr1.cell 5 _ rfl;have f5:=hr1.frozen 5;have d6:=hr1.cell 6 _ rfl;have f6:=hr1.frozen 6;have d7:=hr1.cell 7 _ rfl;have f7:=hr1.frozen 7;have d8:=hr1.cell 8 _ rfl;have f8:=hr1.frozen 8;have d9:=hr1.cell 9 _ rfl;have f9:=hr1.frozen 9;clear hvW hrow hr1)
 refine bodyPost_ret (by simp [results,Tryz.results98,go_sem, *];rfl) rfl ?_
 refine ⟨_,rfl,HI.out,?_⟩
 iterate 10 refine Gr.setCell ?_ (by show w.heap.size≤w.heap.size+1+1;omega) _
 exact hB0.trans hgr
end Go.Proofs.YthfhamagopbgcaaGreat

namespace Go.Proofs.YthfhamagopbgcaaGreat

namespace Ir
section
variable {g:List (List Int)} {but:Int}
theorem From.ne {v i:Nat} (h:From g but v i):(v:Int)≠but:=by cases h with | here _ q=>exact q | step _ _ _ q _ _=>exact q
theorem From.snoc {v i:Nat} (h:From g but v i):∀ {t:Int},t ∈ g.getD i []→(t.toNat:Int)≠but→From g but v t.toNat:=by
 induction h with
 | here v q=>exact fun ht hn=>.step v _ _ q ht (.here _ hn)
 | step v i t q ht _ ih=>exact fun ht' hn=>.step v _ t q ht (ih ht' hn)

def Sound (g:List (List Int)) (but:Int) (out:List Bool):Prop:=∀ i:Nat,out[i]?=some true→From g but 0 i
def Leq (a b:List Bool):Prop:=a.length=b.length∧∀ i:Nat,a[i]?=some true→b[i]?=some true
theorem Leq.refl (a:List Bool):Leq a a:=⟨rfl,fun _ h=>h⟩
theorem Leq.trans {a b c:List Bool} (h:Leq a b) (k:Leq b c):Leq a c:=⟨h.1.trans k.1,fun i hi=>k.2 i (h.2 i hi)⟩
theorem cnt_lt:∀ (s s':List Bool),Leq s s'→s≠s'→cnt s'<cnt s
 | [],[],_,h=>absurd rfl h
 | [],_::_,h,_=>by have:=h.1;simp at this
 | _::_,[],h,_=>by have:=h.1;simp at this
 | a::r,b::q,hl,h=>by
  have hrq:Leq r q:=⟨by have:=hl.1;simpa using this,fun i hi=>by have:=hl.2 (i+1) (by simpa using hi);simpa using this⟩
  have h0:=hl.2 0
  by_cases e:r=q
  ·subst e
   unfold cnt
   cases a <;> cases b <;> simp_all
  ·have:=cnt_lt r q hrq e
   unfold cnt at *
   cases a <;> cases b <;> simp_all <;> omega

theorem edge_leq (out:List Bool) (t:Int):Leq out (Ref.spreadEdge but out t):=by
 unfold Ref.spreadEdge
 split
 ·exact Leq.refl _
 ·refine ⟨by simp,fun i hi=>?_⟩
  rw [List.getElem?_set]
  split
  ·rename_i e;subst e;have:=(List.getElem?_eq_some_iff.1 hi).1;simp [this]
  ·exact hi
theorem edges_leq (l:List Int):∀ (out:List Bool),Leq out (l.foldl (Ref.spreadEdge but) out):=by
 induction l with
 | nil=>exact fun _=>Leq.refl _
 | cons t r ih=>exact fun out=>(edge_leq out t).trans (ih _)
theorem block_leq (out:List Bool) (b:Nat):Leq out (Ref.spreadBlock but g out b):=by
 unfold Ref.spreadBlock
 split
 ·exact edges_leq _ _
 ·exact Leq.refl _
theorem blocks_leq (l:List Nat):∀ (out:List Bool),Leq out (l.foldl (Ref.spreadBlock but g) out):=by
 induction l with
 | nil=>exact fun _=>Leq.refl _
 | cons t r ih=>exact fun out=>(block_leq out t).trans (ih _)

theorem edge_sound {out:List Bool} {t:Int} (h:Sound g but out) (ht:t≠but→From g but 0 t.toNat):Sound g but (Ref.spreadEdge but out t):=by
 unfold Ref.spreadEdge
 split
 ·exact h
 ·rename_i hn
  intro i hi
  rw [List.getElem?_set] at hi
  split at hi
  ·rename_i e;subst e;exact ht hn
  ·exact h i hi
theorem edges_sound (l:List Int):∀ {out:List Bool},Sound g but out→(∀ t ∈ l,t≠but→From g but 0 t.toNat)→Sound g but (l.foldl (Ref.spreadEdge but) out):=by
 induction l with
 | nil=>exact fun h _=>h
 | cons t r ih=>exact fun h ht=>ih (edge_sound h (ht t (by simp))) fun u hu=>ht u (by simp [hu])
theorem getD_true {out:List Bool} {b:Nat} (h:out.getD b false=true):out[b]?=some true:=by
 cases q:out[b]? with
 | none=>simp [List.getD,q] at h
 | some x=>simp [List.getD,q] at h;rw [h]
theorem block_sound {out:List Bool} {b:Nat} (hok:∀ l ∈ g,∀ t ∈ l,0≤t∧t<(g.length:Int)) (h:Sound g but out):Sound g but (Ref.spreadBlock but g out b):=by
 unfold Ref.spreadBlock
 split
 ·rename_i hb
  refine edges_sound _ h fun t ht hn=>(h b (getD_true hb)).snoc ht ?_
  cases hl:g[b]? with
  | none=>simp [List.getD,hl] at ht
  | some l =>
   have hm:t ∈ l:=by simpa [List.getD,hl] using ht
   have:=(hok l (List.mem_of_getElem? hl) t hm).1
   omega
 ·exact h
theorem blocks_sound (hok:∀ l ∈ g,∀ t ∈ l,0≤t∧t<(g.length:Int)) (l:List Nat):∀ {out:List Bool},Sound g but out→Sound g but (l.foldl (Ref.spreadBlock but g) out):=by
 induction l with
 | nil=>exact fun h=>h
 | cons t r ih=>exact fun h=>ih (block_sound hok h)
theorem spread_sound (hok:∀ l ∈ g,∀ t ∈ l,0≤t∧t<(g.length:Int)):∀ (n:Nat) {out:List Bool},Sound g but out→Sound g but (Ref.spread but g n out)
 | 0,_,h=>h
 | n+1,_,h=>spread_sound hok n (blocks_sound hok _ h)
theorem spread_leq:∀ (n:Nat) (out:List Bool),Leq out (Ref.spread but g n out)
 | 0,_=>Leq.refl _
 | n+1,out=>(blocks_leq _ out).trans (spread_leq n _)

/-- Nothing more is reached from what is reached. -/
def Closed (g:List (List Int)) (but:Int) (out:List Bool):Prop:=∀ b:Nat,out[b]?=some true→∀ t ∈ g.getD b [],t=but∨out[t.toNat]?=some true
theorem edges_set (l:List Int):∀ (out:List Bool) (t:Int),t ∈ l→t≠but→t.toNat<out.length→(l.foldl (Ref.spreadEdge but) out)[t.toNat]?=some true:=by
 induction l with
 | nil=>exact fun _ _ h=>by simp at h
 | cons u r ih =>
  intro out t ht hn hl
  rcases List.mem_cons.1 ht with rfl | ht
  ·refine (edges_leq r _).2 _ ?_
   unfold Ref.spreadEdge
   rw [if_neg hn]
   simp [hl]
  ·exact ih _ t ht hn (by rw [← (edge_leq out u).1];exact hl)
theorem blocks_set (hok:∀ l ∈ g,∀ t ∈ l,0≤t∧t<(g.length:Int)) (l:List Nat):∀ (out:List Bool),out.length=g.length→∀ b ∈ l,out[b]?=some true→∀ t ∈ g.getD b [],t=but∨(l.foldl (Ref.spreadBlock but g) out)[t.toNat]?=some true:=by
 induction l with
 | nil=>exact fun _ _ _ h=>by simp at h
 | cons c r ih =>
  intro out hl b hb hob t ht
  rcases List.mem_cons.1 hb with rfl | hb
  ·by_cases e:t=but
   ·exact .inl e
   ·right
    refine (blocks_leq r _).2 _ ?_
    unfold Ref.spreadBlock
    rw [if_pos (by simp [List.getD,hob])]
    refine edges_set _ _ t ht e ?_
    cases hgl:g[b]? with
    | none=>simp [List.getD,hgl] at ht
    | some q =>
     have hm:t ∈ q:=by simpa [List.getD,hgl] using ht
     have:=hok q (List.mem_of_getElem? hgl) t hm
     omega
  ·exact ih _ (by rw [← (block_leq out c).1];exact hl) b hb ((block_leq out c).2 b hob) t ht
theorem round_closed (hok:∀ l ∈ g,∀ t ∈ l,0≤t∧t<(g.length:Int)) {out:List Bool} (hl:out.length=g.length) (h:Ref.spreadRound but g out=out):Closed g but out:=by
 intro b hb t ht
 have hbl:=(List.getElem?_eq_some_iff.1 hb).1
 have:=blocks_set (but:=but) hok (List.range g.length) out hl b (by simp;omega) hb t ht
 have e:(List.range g.length).foldl (Ref.spreadBlock but g) out=out:=h
 rwa [e] at this
theorem spread_fix {out:List Bool} (h:Ref.spreadRound but g out=out):∀ n,Ref.spread but g n out=out
 | 0=>rfl
 | n+1=>by rw [Ref.spread,h];exact spread_fix h n
theorem spread_closed (hok:∀ l ∈ g,∀ t ∈ l,0≤t∧t<(g.length:Int)):∀ (n:Nat) (out:List Bool),out.length=g.length→cnt out≤n→Closed g but (Ref.spread but g n out)
 | 0,out,hl,hc=>by
  intro b hb t ht
  right
  have hbl:=(List.getElem?_eq_some_iff.1 hb).1
  cases hgl:g[b]? with
  | none=>simp [List.getD,hgl] at ht
  | some q =>
   have hm:t ∈ q:=by simpa [List.getD,hgl] using ht
   have h2:=hok q (List.mem_of_getElem? hgl) t hm
   show out[t.toNat]?=some true
   have hlt:t.toNat<out.length:=by omega
   cases q2:out[t.toNat] with
   | true=>simp [hlt,q2]
   | false =>
    have:=cnt_set out t.toNat (by simp [hlt,q2])
    omega
 | n+1,out,hl,hc=>by
  by_cases e:Ref.spreadRound but g out=out
  ·rw [spread_fix e];exact round_closed hok hl e
  ·have h1:Leq out (Ref.spreadRound but g out):=blocks_leq _ out
   have:=cnt_lt _ _ h1 (fun q=>e q.symm)
   exact spread_closed hok n _ (by rw [← h1.1];exact hl) (by omega)

theorem reached_from (hn:1≤g.length) (hok:∀ l ∈ g,∀ t ∈ l,0≤t∧t<(g.length:Int)):∀ i:Nat,(Ref.reached g but)[i]?=some true↔From g but 0 i:=by
 intro i
 unfold Ref.reached
 by_cases h0:but=0
 ·rw [if_pos h0]
  constructor
  ·intro h;rw [List.getElem?_replicate] at h;split at h <;> cases h
  ·intro h;exact absurd h0.symm h.ne
 ·rw [if_neg h0]
  have hs:Sound g but ((List.replicate g.length false).set 0 true):=by
   intro i hi
   rw [List.getElem?_set] at hi
   split at hi
   ·rename_i e;subst e;exact .here 0 (fun e=>h0 e.symm)
   ·rw [List.getElem?_replicate] at hi;split at hi <;> cases hi
  constructor
  ·exact spread_sound hok _ hs i
  ·intro hf
   have hcl:=spread_closed (but:=but) hok g.length ((List.replicate g.length false).set 0 true) (by simp) (by unfold cnt;exact Nat.le_trans List.countP_le_length (by simp))
   have key:∀ v i,From g but v i→(Ref.spread but g g.length ((List.replicate g.length false).set 0 true))[v]?=some true→(Ref.spread but g g.length ((List.replicate g.length false).set 0 true))[i]?=some true:=by
    intro v i hf
    induction hf with
    | here v h=>exact fun h=>h
    | step v i t h ht hr ih =>
     intro hv
     apply ih
     rcases hcl v hv t ht with h6 | h6
     ·exfalso
      have h7:=hr.ne
      cases hgl:g[v]? with
      | none=>simp [List.getD,hgl] at ht
      | some q =>
       have hm:t ∈ q:=by simpa [List.getD,hgl] using ht
       have:=hok q (List.mem_of_getElem? hgl) t hm
       omega
     ·exact h6
   refine key 0 i hf ((spread_leq _ _).2 0 ?_)
   rw [List.getElem?_set,if_pos rfl,if_pos (by rw [List.length_replicate];omega)]
/-- The two sets agree. -/
theorem IsReach.get {s:List Bool} (h:IsReach g but s) (hn:1≤g.length) (hok:∀ l ∈ g,∀ t ∈ l,0≤t∧t<(g.length:Int)) (i:Nat) (hi:i<10):s[i]?=some ((Ref.reached g but).getD i false):=by
 have h1:=h.2 i
 have h2:=reached_from (but:=but) hn hok i
 obtain ⟨y,hy⟩:∃ y,s[i]?=some y:=⟨s[i]'(by have:=h.1;omega),by simp [show i<s.length by have:=h.1;omega]⟩
 cases y with
 | true =>
  have:=h2.2 (h1.1 hy)
  simp [List.getD,this,hy]
 | false =>
  rw [hy]
  cases q:(Ref.reached g but).getD i false with
  | false=>rfl
  | true=>have:=h1.2 (h2.1 (getD_true q));rw [hy] at this;exact this
/-- A node that is not reached dominates none that is. -/
theorem from_avoid {a:Nat} (ha:¬ From g (-1) 0 a):∀ v i,From g (-1) v i→From g (-1) 0 v→From g (a:Int) v i:=by
 intro v i h
 induction h with
 | here v q=>exact fun hv=>.here v (fun e=>ha (by have:v=a:=by omega
                                                  rw [← this];exact hv))
 | step v i t q ht hr ih =>
  intro hv
  have hne:(v:Int)≠a:=fun e=>ha (by have:v=a:=by omega
                                    rw [← this];exact hv)
  exact .step v i t hne ht (ih (hv.snoc ht hr.ne))
end
end Ir
end Go.Proofs.YthfhamagopbgcaaGreat

namespace Go.Proofs.YthfhamagopbgcaaGreat
open Go.RowKit

def rb (g:List (List Int)) (i:Nat):Bool:=(Ref.reached g (-1)).getD i false
/-- The nodes that are reached, in ascending order. -/
def Ir.reachedL (g:List (List Int)):List Int:=Ir.listFrom ((List.range 10).map (rb g)) 0
theorem isReach_eq {g:List (List Int)} {s:List Bool} (hv:Ir.gval g=0) (h:Ir.IsReach g (-1) s):s=(List.range 10).map (rb g):=by
 apply List.ext_getElem?
 intro i
 by_cases hi:i<10
 ·rw [h.get (gval_len hv).1 (gval_ok hv) i hi];simp [hi,rb]
 ·have:=h.1
  rw [List.getElem?_eq_none (by omega),List.getElem?_eq_none (by simp;omega)]

set_option maxHeartbeats 1000000 in
theorem Reached_any (v:Value) (g:List (List Int)) (w:World) (hg:TabAt w.heap.size w v g) (hv:Ir.gval g=0) :
  Calls Tryz.prog 58 #[v] w fun e w'=>∃ u,e=.returned (.tuple #[u,.int .i64 0])∧IntsAt w'.heap.size w' u (Ir.reachedL g)∧Gr w w':=by
 have HC1:=Lib.hid (fval_any v g w hg)
 rw [hv] at HC1
 have HC2:Hid (∀ w1,Gr w w1→Calls Tryz.prog 98 #[v,.int .i64 (-1)] w1 fun e w'=>e=.returned (nv ((List.range 10).map (rb g)))∧Gr w1 w') :=
  fun w1 g1=>(reach_any v g (-1) w1 (hg.gr g1) hv).mono fun _ _ ⟨s,h1,h2,h3⟩=>⟨by rw [h1,isReach_eq hv h2],h3⟩
 have HC3:Hid (∀ w1,Calls Tryz.prog 99 #[nv ((List.range 10).map (rb g))] w1 fun e w'=>∃ v,e=.returned v∧IntsAt w'.heap.size w' v (Ir.reachedL g)∧Gr w1 w') :=
  fun w1=>list_any _ (by simp) w1
 obtain ⟨bits,hbits⟩:∃ bits,nv ((List.range 10).map (rb g))=bits:=⟨_,rfl⟩
 rw [hbits] at HC2 HC3
 clear hbits hg hv
 go_enter Tryz.func58, Tryz.ntmps58
 go_wp2_with (first
   | (go_at_call 97;refine HC1.out.mono ?_;rintro e w1 ⟨rfl,g1⟩)
   | (go_at_call 98;refine (HC2.out _ g1).mono ?_;rintro e w2 ⟨rfl,g2⟩)
   | (go_at_call 99;refine (HC3.out _).mono ?_;rintro e w3 ⟨vl,rfl,hl,g3⟩))
 go_ret2
 exact ⟨vl,rfl,hl,g1.trans (g2.trans g3)⟩

theorem rnodes1_any (n:Nat) (B hb:Nat) (s:List Bool) (w:World) (hr:ARow B hb w s) (hn:n<10) (y:Bool) (hy:s[n]?=some y) :
  Calls Tryz.prog 201 #[.int .i64 (n:Int),.pointer (some ⟨hb,0,none⟩)] w fun e w'=>e=.returned (.bool (!y))∧w=w':=by
 have hc:=hr.cell n y hy
 have hk10:(n:Int)<10:=by omega
 clear hr hy
 go_enter Tryz.func201, Tryz.ntmps201
 go_wp2
 go_ret
 exact ⟨rfl,rfl⟩

set_option maxRecDepth 10000 in
set_option maxHeartbeats 2000000 in
theorem rnodes_any (v u:Value) (g:List (List Int)) (l:List Int) (w:World) (hg:TabAt w.heap.size w v g) (hu:IntsAt w.heap.size w u l) (hv:Ir.gval g=0) (hl:Hid (∀ z ∈ l,0≤z∧z<(g.length:Int))) :
  Calls Tryz.prog 169 #[v,u] w fun e w'=>e=.returned (.int .i64 (if l.any (fun z=>!rb g z.toNat) then 9 else 0))∧Gr w w':=by
 have hn:=gval_len hv
 have hnd:Ir.noded g l=0:=by
  unfold Ir.noded
  rw [if_pos hv,if_neg]
  intro h
  obtain ⟨z,hz,h⟩:=List.any_eq_true.1 h
  have:=hl.out z hz
  unfold Ir.outside at h
  simp at h;omega
 have HC1:=Lib.hid (noded_any v u g l w hg hu)
 rw [hnd] at HC1
 have HC2:Hid (∀ w1,Gr w w1→Calls Tryz.prog 98 #[v,.int .i64 (-1)] w1 fun e w'=>e=.returned (nv ((List.range 10).map (rb g)))∧Gr w1 w') :=
  fun w1 g1=>(reach_any v g (-1) w1 (hg.gr g1) hv).mono fun _ _ ⟨s,h1,h2,h3⟩=>⟨by rw [h1,isReach_eq hv h2],h3⟩
 have hlen:((List.range 10).map (rb g)).length=10:=by simp
 have HY:Hid (∀ n:Nat,n<10→((List.range 10).map (rb g))[n]?=some (rb g n)):=fun n h=>by simp [h]
 obtain ⟨s,hs⟩:∃ s,(List.range 10).map (rb g)=s:=⟨_,rfl⟩
 rw [hs] at HC2 HY hlen
 have HC3:Hid (∀ w1 hb,Gr w w1→ARow hb hb w1 s→hb<w1.heap.size→Calls Tryz.prog 40 #[u,.func (.func 201) #[] #[.pointer (some ⟨hb,0,none⟩)]] w1 fun e w'=>e=.returned (.bool (l.any fun z=>!rb g z.toNat))∧Gr w1 w') :=
  fun w1 hb g1 hr hlt=>ContainsFunc_any _ _ (enters_of Tryz.func201 (by kernel_rfl) rfl) _ _ _ _ (hu.gr g1) (fun z hz W g2=>by
    obtain ⟨q0,q1⟩:=hl.out z hz
    obtain ⟨n,rfl⟩:=Int.eq_ofNat_of_zero_le q0
    have:=rnodes1_any n hb hb s W (hr.other (g2.heap hb hlt)) (by omega) (rb g n) (HY.out n (by omega))
    exact this.mono fun _ _ h=>⟨h.1,h.2 ▸ Gr.refl _⟩)
 obtain ⟨q,hq⟩:∃ q,(l.any fun z=>!rb g z.toNat)=q:=⟨_,rfl⟩
 rw [hq] at HC3 ⊢
 clear hs hq hg hu hv hnd HY
 obtain ⟨a0,a1,a2,a3,a4,a5,a6,a7,a8,a9,rfl⟩:=ten s hlen
 rw [show nv [a0,a1,a2,a3,a4,a5,a6,a7,a8,a9]=.agg #[.bool a0,.bool a1,.bool a2,.bool a3,.bool a4,.bool a5,.bool a6,.bool a7,.bool a8,.bool a9] from rfl] at HC2
 have HR:Hid (∀ w1:World,ARow w1.heap.size w1.heap.size (w1.alloc (.cells #[.bool a0,.bool a1,.bool a2,.bool a3,.bool a4,.bool a5,.bool a6,.bool a7,.bool a8,.bool a9] 140)) [a0,a1,a2,a3,a4,a5,a6,a7,a8,a9]) :=
  fun w1=>ARow.of (heap_alloc_new w1 _) rfl (Nat.le_refl _)
 go_enter Tryz.func169, Tryz.ntmps169
 cases q with
 | true =>
  go_wp2_with (first
    | (go_at_call 141;refine HC1.out.mono ?_;rintro e w1 ⟨rfl,g1⟩)
    | (go_at_call 98;refine (HC2.out _ g1).mono ?_;rintro e w2 ⟨rfl,g2⟩)
    | (go_at_call 40;refine (HC3.out _ w2.heap.size ((g1.trans g2).alloc _) (HR.out w2) (by simp)).mono ?_;rintro e w3 ⟨rfl,g3⟩))
  go_ret
  exact ⟨rfl,((g1.trans g2).alloc _).trans g3⟩
 | false =>
  go_wp2_with (first
    | (go_at_call 141;refine HC1.out.mono ?_;rintro e w1 ⟨rfl,g1⟩)
    | (go_at_call 98;refine (HC2.out _ g1).mono ?_;rintro e w2 ⟨rfl,g2⟩)
    | (go_at_call 40;refine (HC3.out _ w2.heap.size ((g1.trans g2).alloc _) (HR.out w2) (by simp)).mono ?_;rintro e w3 ⟨rfl,g3⟩))
  go_ret
  exact ⟨rfl,((g1.trans g2).alloc _).trans g3⟩

set_option maxHeartbeats 1000000 in
theorem idom_any (v:Value) (g:List (List Int)) (a b:Nat) (w:World) (hg:TabAt w.heap.size w v g) (hv:Ir.gval g=0) (hb:b<g.length) :
  Calls Tryz.prog 170 #[v,.int .i64 a,.int .i64 b] w fun e w'=>e=.returned (.bool (Ref.dominates g a b))∧Gr w w':=by
 have hn:=gval_len hv
 have HC2:Hid (Calls Tryz.prog 98 #[v,.int .i64 (a:Int)] w fun e w'=>∃ s,e=.returned (nv s)∧(∀ W,(Instr.index 140 (nv s) (.int .i64 (b:Int))).run Tryz.prog W=.ok (.bool ((Ref.reached g a).getD b false)) W)∧Gr w w') :=
  (reach_any v g a w hg hv).mono fun _ _ ⟨s,h1,h2,h3⟩=>⟨s,h1,fun W=>index_ten s h2.1 b _ (h2.get hn.1 (gval_ok hv) b (by omega)) W,h3⟩
 have HD:Hid (Ref.dominates g a b=(decide ((a:Int)=b) || !(Ref.reached g a).getD b false)):=by show _=_;unfold Ref.dominates;simp
 obtain ⟨q,hq⟩:∃ q,(Ref.reached g a).getD b false=q:=⟨_,rfl⟩
 rw [hq] at HC2 HD
 unfold nv at HC2
 clear hq hg hv
 by_cases h:(a:Int)=b
 ·have hb1:((a:Int) == b)=true:=by simp [h]
  go_enter Tryz.func170, Tryz.ntmps170
  go_wp2
  go_ret
  exact ⟨ret_bool (by rw [HD.out];simp [h]),Gr.refl _⟩
 ·have hb1:((a:Int) == b)=false:=by simp [h]
  go_enter Tryz.func170, Tryz.ntmps170
  go_wp2_with (go_at_call 98;refine HC2.out.mono ?_;rintro e w1 ⟨s,rfl,hix,g1⟩)
  go_ret
  exact ⟨ret_bool (by rw [HD.out];simp [h]),g1⟩

theorem ints_new2 (w:World) (x y:Int):IntsAt (w.heap.size+1) (w.alloc (.cells #[.int .i64 x,.int .i64 y] 3)) (.slice (some ⟨w.heap.size,0,none⟩) 2 2) [x,y]:=by
 refine ⟨_,_,rfl,Nat.le_refl _,by simp,fun _=>⟨_,_,rfl,by omega,fun j z hz=>?_⟩⟩
 have hc:∀ i,(w.alloc (.cells #[.int .i64 x,.int .i64 y] 3)).cell? ⟨w.heap.size,i,none⟩=(#[Value.int .i64 x,Value.int .i64 y]:Array Value)[i]?:=fun i=>cell_of_row _ _ _ _ _ _ (heap_alloc_new w _)
 rw [hc]
 match j,hz with
 | 0,hz=>simp at hz;subst hz;rfl
 | 1,hz=>simp at hz;subst hz;rfl
theorem rb_from {g:List (List Int)} (hv:Ir.gval g=0) (i:Nat):rb g i=true↔Ir.From g (-1) 0 i:=by
 rw [← Ir.reached_from (gval_len hv).1 (gval_ok hv) i]
 unfold rb
 constructor
 ·exact Ir.getD_true
 ·intro h;simp [List.getD,h]
/-- A block that is not reached dominates none that is. -/
theorem dom_unreached {g:List (List Int)} (hv:Ir.gval g=0) {a b:Nat} (ha:rb g a=false) (hb:rb g b=true):Ref.dominates g a b=false:=by
 have hna:¬ Ir.From g (-1) 0 a:=fun h=>by rw [(rb_from hv a).2 h] at ha;cases ha
 have hfb:=(rb_from hv b).1 hb
 have h0:Ir.From g (-1) 0 0:=.here 0 (by omega)
 have h:=(Ir.reached_from (but:=(a:Int)) (gval_len hv).1 (gval_ok hv) b).2 (Ir.from_avoid hna 0 b hfb h0)
 unfold Ref.dominates
 have hne:(a:Int)≠b:=fun e=>by have:a=b:=by omega
                               subst this;rw [ha] at hb;cases hb
 simp [List.getD,h,hne]

set_option maxRecDepth 10000 in
set_option maxHeartbeats 1000000 in
/-- flow.Dominates on a right graph, the second node reached. -/
theorem Dominates_any (v:Value) (g:List (List Int)) (a b:Nat) (w:World) (hg:TabAt w.heap.size w v g) (hv:Ir.gval g=0) (ha:a<g.length) (hb:b<g.length) (hr:rb g b=true) :
  Calls Tryz.prog 143 #[v,.int .i64 a,.int .i64 b] w fun e w'=>∃ x z,e=.returned (.tuple #[.bool x,.int .i64 z])∧(decide (z=0) && x)=Ref.dominates g a b∧Gr w w':=by
 obtain ⟨W,hW⟩:∃ W,w.alloc (.cells #[.int .i64 (a:Int),.int .i64 (b:Int)] 3)=W:=⟨_,rfl⟩
 have hB0:Gr w W:=by rw [← hW];exact (Gr.refl w).alloc _
 have hu:IntsAt W.heap.size W (.slice (some ⟨w.heap.size,0,none⟩) 2 2) [(a:Int),(b:Int)]:=by rw [← hW];simpa using ints_new2 w a b
 have HC1:=Lib.hid (rnodes_any v _ g [(a:Int),(b:Int)] W (hg.gr hB0) hu hv (fun z hz=>by simp at hz;omega))
 have HC2:Hid (∀ w1,Gr w w1→Calls Tryz.prog 170 #[v,.int .i64 a,.int .i64 b] w1 fun e w'=>e=.returned (.bool (Ref.dominates g a b))∧Gr w1 w'):=fun w1 g1=>idom_any v g a b w1 (hg.gr g1) hv hb
 cases ra:rb g a with
 | true =>
  have e:([(a:Int),(b:Int)].any fun z=>!rb g z.toNat)=false:=by simp [ra,hr]
  rw [e] at HC1
  obtain ⟨d,hd⟩:∃ d,Ref.dominates g a b=d:=⟨_,rfl⟩
  rw [hd] at HC2 ⊢
  clear e hd hg hv hu ra hr
  go_enter Tryz.func143, Tryz.ntmps143
  go_wp2_with (first
    | (go_at_call 169;refine HC1.out.mono ?_;rintro e w1 ⟨rfl,g1⟩)
    | (go_at_call 170;refine (HC2.out _ (hB0.trans g1)).mono ?_;rintro e w2 ⟨rfl,g2⟩))
  go_ret2
  exact ⟨d,0,rfl,by simp,hB0.trans (g1.trans g2)⟩
 | false =>
  have e:([(a:Int),(b:Int)].any fun z=>!rb g z.toNat)=true:=by simp [ra]
  rw [e] at HC1
  have hd:=dom_unreached hv ra hr
  have HD:=Lib.hid hd
  clear e hg hv hu ra hr hd
  go_enter Tryz.func143, Tryz.ntmps143
  go_wp2_with (first
    | (go_at_call 169;refine HC1.out.mono ?_;rintro e w1 ⟨rfl,g1⟩))
  go_ret2
  exact ⟨false,9,rfl,by rw [HD.out];simp,hB0.trans g1⟩

theorem mask_any (n:Nat) (w:World) (h0:1≤n) (h1:n≤32):Calls Tryz.prog 71 #[.int .i64 (n:Int)] w fun e w'=>e=.returned (.int .u32 (2 ^ n-1))∧w=w':=by
 rcases (by omega:n=1∨n=2∨n=3∨n=4∨n=5∨n=6∨n=7∨n=8∨n=9∨n=10∨n=11∨n=12∨n=13∨n=14∨n=15∨n=16∨n=17∨n=18∨n=19∨n=20∨n=21∨n=22∨n=23∨n=24∨n=25∨n=26∨n=27∨n=28∨n=29∨n=30∨n=31∨n=32) with rfl | rfl | rfl | rfl | rfl | rfl | rfl | rfl | rfl | rfl | rfl | rfl | rfl | rfl | rfl | rfl | rfl | rfl | rfl | rfl | rfl | rfl | rfl | rfl | rfl | rfl | rfl | rfl | rfl | rfl | rfl | rfl
 all_goals
  go_enter Tryz.func71, Tryz.ntmps71
  go_wp2
  go_ret
  exact ⟨ret_int (by decide),rfl⟩
end Go.Proofs.YthfhamagopbgcaaGreat

namespace Go.Proofs.YthfhamagopbgcaaGreat
open Go.RowKit

/-- What the program's shapeOf answers: how many Args and blocks, and whether Width and Imm are right. -/
def Ir.shapeOf (f:Fn) (x:Ins):Int × Int × Bool :=
 let c:=Ir.classOf x.op
 if c=1 then (0,0,Ref.isWidth x.width && decide (x.imm≤2 ^ x.width.toNat-1))
 else if c=2 then (2,0,Ref.isWidth x.width && decide (x.imm=0))
 else if c=3 then (2,0,decide (x.width=1) && decide (x.imm≤9))
 else if c=4 then (3,0,(Ref.isWidth x.width || decide (x.width=33)) && decide (x.imm=0))
 else if c=5∨c=6∨c=8 then (1,0,Ref.isWidth x.width && decide (x.imm=0))
 else if c=7 then (2,0,Ref.isWidth x.width && decide (1≤x.imm) && decide (x.imm<x.width) && decide (x.width % x.imm=0))
 else if c=9 then (0,0,Ref.isWidth x.width && decide (x.imm=0))
 else if c=10 then (0,0,decide (x.width=33) && decide (x.imm<f.slots.length))
 else if c=11 then (2,0,decide (x.width=33) && decide (x.imm=0))
 else if c=12 then (1,0,Ref.isMem x.width && decide (x.imm=0))
 else if c=13 then (2,0,decide (x.width=0) && decide (x.imm=0))
 else if c=14 then (x.to.length,x.to.length,(Ref.isWidth x.width || decide (x.width=33)) && decide (x.imm=0) && decide (0<x.to.length))
 else if c=15 then (0,1,decide (x.width=0) && decide (x.imm=0))
 else if c=16 then (1,2,decide (x.width=0) && decide (x.imm=0) && (decide (x.to.length≠2) || decide (x.to.getD 0 0≠x.to.getD 1 0)))
 else if c=17 then (if f.ret<1 then f.ret else 1,0,decide (x.width=0) && decide (x.imm=0))
 else if c=18 then (0,0,decide (x.width=0) && decide (x.imm=0))
 else (0,0,false)

theorem Mask_in (n:Nat) (w:World) (h0:1≤n) (h1:n≤32):Calls Tryz.prog 39 #[.int .i64 (n:Int)] w fun e w'=>e=.returned (.tuple #[.int .u32 (2 ^ n-1),.int .i64 0])∧w=w':=by
 have C1:=bisWidth_any (n:Int) w
 rw [show Ref.isWidth (n:Int)=true by simp [Ref.isWidth];omega] at C1
 have HC1:=Lib.hid C1
 have HC2:=Lib.hid (mask_any n w h0 h1)
 obtain ⟨m,hm⟩:∃ m:Int,(2:Int) ^ n-1=m:=⟨_,rfl⟩
 rw [hm] at HC2 ⊢
 clear C1 hm
 go_enter Tryz.func39, Tryz.ntmps39
 go_wp2_with (first
   | (go_at_call 70;refine HC1.out.mono ?_;rintro e w1 ⟨rfl,rfl⟩)
   | (go_at_call 71;refine HC2.out.mono ?_;rintro e w1 ⟨rfl,rfl⟩))
 go_ret2
 exact ⟨rfl,rfl⟩
theorem Mask_out (n:Int) (w:World) (h:Ref.isWidth n=false):Calls Tryz.prog 39 #[.int .i64 n] w fun e w'=>e=.returned (.tuple #[.int .u32 0,.int .i64 1])∧w=w':=by
 have C1:=bisWidth_any n w
 rw [h] at C1
 have HC1:=Lib.hid C1
 clear C1
 go_enter Tryz.func39, Tryz.ntmps39
 go_wp2_with (first
   | (go_at_call 70;refine HC1.out.mono ?_;rintro e w1 ⟨rfl,rfl⟩))
 go_ret2
 exact ⟨rfl,rfl⟩

end Go.Proofs.YthfhamagopbgcaaGreat

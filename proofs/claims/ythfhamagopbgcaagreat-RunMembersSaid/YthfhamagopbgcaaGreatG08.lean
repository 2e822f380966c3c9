/- Parts: Zk IrQ IrR. -/
import Derived.RangeFuncNested
import Derived.RangeFuncBound
import Derived.RangeFuncCalls
import Derived.RangeFuncLeaves
import Derived.Shelf.Abstract
import Derived.Shelf.RegionOpen
import Derived.WalkKit
import Derived.OwnWalkIn
import Derived.TacticsInMore
import Derived.LoopNIn
import Derived.LoopIn
import Derived.Test.YthfhamagopbgcaaGreatG01
import Derived.Test.YthfhamagopbgcaaGreatG07
import Derived.Lib.SliceRun
import Derived.Maps.AppendAt
namespace Go.Proofs.YthfhamagopbgcaaGreat
open Go.RowKit Go.Shelf

attribute [local go_sem] Oper.semAt_some

/-- An instruction with its number, its block, and its place. -/
structure It where
 ins:Ins
 num:Nat
 blk:Nat
 pos:Nat
namespace Ir
def itemsB (l:List Ins) (n b:Nat):List It:=l.mapIdx fun i x=>⟨x,n+i,b,i⟩
def itemsFrom:List (List Ins)→Nat→Nat→List It
 | [],_,_=>[]
 | l::r,n,b=>itemsB l n b++itemsFrom r (n+l.length) (b+1)
/-- All instructions, in the order in which 'all' hands them out. -/
def items (f:Fn):List It:=itemsFrom f.blocks f.params.length 0
end Ir
/-- What the iterator hands out: an instruction and the two slices of its value. -/
structure ItV where
 it:It
 aa:Option Addr
 ca:Nat
 ta:Option Addr
 ct:Nat
def ItV.va (y:ItV):Value:=.slice y.aa y.it.ins.args.length y.ca
def ItV.vt (y:ItV):Value:=.slice y.ta y.it.ins.to.length y.ct
def ItV.enc (y:ItV):Value:=.agg #[.int .i64 y.it.ins.op,.int .i64 y.it.ins.width,.int .i64 y.it.ins.flags,.slice y.aa y.it.ins.args.length y.ca,.int .u32 y.it.ins.imm,.slice y.ta y.it.ins.to.length y.ct,.int .i64 y.it.num,.int .i64 y.it.blk,.int .i64 y.it.pos]
/-- .. the slices reading, below n₀, as the instruction's. -/
def Good (n₀:Nat) (w0:World) (f:Fn) (y:ItV):Prop:=IntsAt n₀ w0 y.va y.it.ins.args∧IntsAt n₀ w0 y.vt y.it.ins.to∧y.it ∈ Ir.items f
abbrev GI (n₀:Nat) (w0:World) (f:Fn):Type:={ y:ItV // Good n₀ w0 f y }
def prj {n₀:Nat} {w0:World} {f:Fn} (pre:List (GI n₀ w0 f)):List It:=pre.map (·.1.it)

theorem itemsB_get (l:List Ins) (n b i:Nat) (x:Ins) (h:l[i]?=some x):(Ir.itemsB l n b)[i]?=some ⟨x,n+i,b,i⟩:=by simp [Ir.itemsB,h]
theorem itemsB_len (l:List Ins) (n b:Nat):(Ir.itemsB l n b).length=l.length:=by simp [Ir.itemsB]
theorem itemsFrom_split (k:Nat):∀ (bs:List (List Ins)) (n b:Nat) (l:List Ins),bs[k]?=some l →
  Ir.itemsFrom bs n b=Ir.itemsFrom (bs.take k) n b++(Ir.itemsB l (n+((bs.take k).map List.length).sum) (b+k)++Ir.itemsFrom (bs.drop (k+1)) (n+((bs.take (k+1)).map List.length).sum) (b+(k+1))):=by
 induction k with
 | zero =>
  intro bs n b l h
  cases bs with
  | nil=>simp at h
  | cons a r=>simp at h;subst h;simp [Ir.itemsFrom]
 | succ k ih =>
  intro bs n b l h
  cases bs with
  | nil=>simp at h
  | cons a r =>
   have:=ih r (n+a.length) (b+1) l (by simpa using h)
   rw [Ir.itemsFrom,this]
   simp only [List.take_succ_cons,Ir.itemsFrom,List.map_cons,List.sum_cons,List.drop_succ_cons,List.append_assoc]
   rw [show n+a.length+((r.take k).map List.length).sum=n+(a.length+((r.take k).map List.length).sum) by omega,show b+1+k=b+(k+1) by omega,
     show n+a.length+((r.take (k+1)).map List.length).sum=n+(a.length+((r.take (k+1)).map List.length).sum) by omega,show b+1+(k+1)=b+(k+1+1) by omega]
/-- The items before place j of block k. -/
def upTo (f:Fn) (k j:Nat):List It:=Ir.itemsFrom (f.blocks.take k) f.params.length 0++(Ir.itemsB (f.blocks.getD k []) (f.params.length+((f.blocks.take k).map List.length).sum) k).take j
theorem upTo_succ (f:Fn) (k j:Nat) (l:List Ins) (x:Ins) (hl:f.blocks[k]?=some l) (hx:l[j]?=some x):upTo f k (j+1)=upTo f k j++[⟨x,f.params.length+((f.blocks.take k).map List.length).sum+j,k,j⟩]:=by
 unfold upTo
 rw [List.append_assoc]
 congr 1
 have h:=itemsB_get (f.blocks.getD k []) (f.params.length+((f.blocks.take k).map List.length).sum) k j x (by simp [List.getD,hl,hx])
 obtain ⟨h1,h2⟩:=List.getElem?_eq_some_iff.1 h
 rw [List.take_succ_eq_append_getElem h1,h2]
theorem upTo_next (f:Fn) (k:Nat) (l:List Ins) (hl:f.blocks[k]?=some l):upTo f k l.length=upTo f (k+1) 0:=by
 unfold upTo
 have hg:f.blocks.getD k []=l:=by simp [List.getD,hl]
 obtain ⟨h1,h2⟩:=List.getElem?_eq_some_iff.1 hl
 have hk:(f.blocks.take (k+1))[k]?=some l:=by rw [List.getElem?_take];simp [hl]
 have:=itemsFrom_split k (f.blocks.take (k+1)) f.params.length 0 l hk
 rw [this,hg]
 simp [List.take_take,Ir.itemsFrom]
 exact List.take_of_length_le (by rw [itemsB_len];omega)
theorem upTo_end (f:Fn):upTo f f.blocks.length 0=Ir.items f:=by
 unfold upTo Ir.items;simp
theorem upTo_prefix (f:Fn) (k j:Nat) (l:List Ins) (hl:f.blocks[k]?=some l):upTo f k j <+: Ir.items f:=by
 unfold upTo Ir.items
 have hg:f.blocks.getD k []=l:=by simp [List.getD,hl]
 rw [itemsFrom_split k f.blocks f.params.length 0 l hl,hg,Nat.zero_add]
 exact (List.prefix_append_right_inj _).2 ((List.take_prefix _ _).trans (List.prefix_append _ _))
theorem item_mem (f:Fn) (k j:Nat) (l:List Ins) (x:Ins) (hl:f.blocks[k]?=some l) (hx:l[j]?=some x):(⟨x,f.params.length+((f.blocks.take k).map List.length).sum+j,k,j⟩:It) ∈ Ir.items f:=by
 refine (upTo_prefix f k (j+1) l hl).subset ?_
 rw [upTo_succ f k j l x hl hx]
 simp

theorem AbidesFrom.alloc {β:Type} {J:β→World→Prop} {B:Nat} (h:AbidesFrom B J) {s:β} {W:World} (hs:J s W) (o:Obj):J s (W.alloc o):=h s W _ none hs (World.grownBy_alloc W o none) (fun r e=>by cases e)
theorem prj_len {n₀:Nat} {w0:World} {f:Fn} {pre:List (GI n₀ w0 f)} {l:List It} (h:prj pre=l):pre.length=l.length:=by rw [← h];simp [prj]
theorem prj_snoc {n₀:Nat} {w0:World} {f:Fn} (pre:List (GI n₀ w0 f)) (y:GI n₀ w0 f):prj (pre++[y])=prj pre++[y.1.it]:=by simp [prj]

set_option maxRecDepth 100000 in
set_option maxHeartbeats 4000000 in
/-- 'all's closure, for every loop body that keeps what lay below n₀. -/
theorem all1_in (n:Nat) (hn:1≤n) (l Bf n₀ B:Nat) (f:Fn) (vp vs vb:Value) (w0:World) (hf:FnAt n₀ w0 (.agg #[vp,.int .i64 f.ret,vs,vb]) f) (hs:f.blocks.length≤100000) (J Jx:List (GI n₀ w0 f)→World→Prop) (hJ:AbidesFrom B J)
  (hY:∀ pre x W,J pre W→pre.length<(Ir.items f).length+1→YieldAt Fence.wide (n-1) Tryz.prog l #[x.1.enc] W fun e W' =>
    (e=.returned (.bool true)∧J (pre++[x]) W'∧Below n₀ W W')∨(e=.returned (.bool false)∧Jx (pre++[x]) W'))
  (W:World) (d0:W.cell? ⟨Bf,0,none⟩=some vp) (d3:W.cell? ⟨Bf,3,none⟩=some vb) (hW:Below n₀ w0 W) (hn0:n₀≤w0.heap.size) (h0:J [] W) :
  CallsIn Fence.wide n Tryz.prog 104 #[.func (.yield l) #[] #[],.pointer (some ⟨Bf,0,none⟩)] W fun e W'=>(∃ v,e=.returned v) ∧
   ((∃ ys,prj ys=Ir.items f∧J ys W')∨(∃ pre,prj pre <+: Ir.items f∧Jx pre W')):=by
 obtain ⟨vp',vs',vb',e,hp,-,hb⟩:=hf
 have e0:vp=vp':=by simp at e;exact e.1
 have e3:vb=vb':=by simp at e;exact e.2.2
 subst e0;subst e3
 clear e
 obtain ⟨Ap,cp,rfl,hp1,hp2,-⟩:=hp
 obtain ⟨Ab,cb,rfl,hb1,hb2,hb3⟩:=hb
 have HU0:Hid (prj ([]:List (GI n₀ w0 f))=upTo f 0 0):=by show _=_;simp [prj,upTo,Ir.itemsFrom]
 have HJ:=Lib.hid hJ
 have HY:=Lib.hid hY
 clear hJ hY
 refine callsIn_of_wp Tryz.func104 rfl trivial ?_ rfl
 simp only [Tryz.ntmps104,List.size_toArray,List.length_cons,List.length_nil,Nat.reduceAdd,Nat.reduceSub,Array.replicate_succ,Array.replicate_zero,List.push_toArray,List.append_toArray,List.nil_append,List.cons_append]
 gi_wp2
 gi_loopw [3,4,5,6,7,14,21] (fun v _ _ _ _ i _ wr=>∃ (k N:Nat) (pre:List (GI n₀ w0 f)),k≤f.blocks.length∧i=.int .i64 k∧v=.int .i64 N∧N≤17592186044416 * (k+1)∧Hid (N=f.params.length+((f.blocks.take k).map List.length).sum)∧Hid (prj pre=upTo f k 0)∧Hid (J pre wr)∧Below n₀ w0 wr)
  (fun _ _ _ _ _ i _ _=>f.blocks.length-(intOf i).toNat)
 case atStart=>exact ⟨0,f.params.length,[],Nat.zero_le _,rfl,rfl,by omega,by show _=_;simp,HU0,h0,hW⟩
 case round =>
  obtain ⟨k,N,pre,hk,rfl,rfl,hN,HNs,HP,HJk,hBk⟩:=hrel
  obtain ⟨wo,rfl⟩:∃ wo:World,wo=wr:=⟨_,rfl⟩
  by_cases hlt:k<f.blocks.length
  ·obtain ⟨bb,ob,rfl,hbb,hcells⟩:=hb3 (by omega)
   obtain ⟨q,hq⟩:∃ q,f.blocks[k]?=some q:=⟨f.blocks[k],by simp [hlt]⟩
   obtain ⟨u,hu,hul⟩:=hcells k q hq
   have hu':=(hBk.cell (p:=⟨bb,ob+k,none⟩) hbb).trans hu
   obtain ⟨Al,cl,rfl,p1,p2,p3⟩:=hul
   have P3:=Lib.hid p3
   have HQ:=Lib.hid hq
   have HN1:Hid (((f.blocks.take (k+1)).map List.length).sum=((f.blocks.take k).map List.length).sum+q.length):=by
    show _=_
    obtain ⟨e1,e2⟩:=List.getElem?_eq_some_iff.1 hq
    rw [List.take_succ_eq_append_getElem e1,e2,List.map_append,List.sum_append];simp
   clear hcells hb3 hq hu p3
   gi_wp2
   gi_loopw [3,6,7,21] (fun v _ _ i wr=>∃ (j m:Nat) (pre:List (GI n₀ w0 f)),j≤q.length∧i=.int .i64 j∧v=.int .i64 m∧m≤N+j∧Hid (m=N+j)∧Hid (prj pre=upTo f k j)∧Hid (J pre wr)∧Below n₀ w0 wr)
    (fun _ _ _ i _=>q.length-(intOf i).toNat)
   case atStart=>exact ⟨0,N,pre,Nat.zero_le _,rfl,rfl,Nat.le_refl _,rfl,HP,HJk,hBk⟩
   case round =>
    obtain ⟨j,m,pre1,hj,rfl,rfl,hmle,hm,HPj,HJj,hBj⟩:=hrel
    obtain ⟨wp,rfl⟩:∃ wp:World,wp=wr:=⟨_,rfl⟩
    by_cases hlt2:j<q.length
    ·obtain ⟨x,hx⟩:∃ x,q[j]?=some x:=⟨q[j],by simp [hlt2]⟩
     obtain ⟨bl,ol,rfl,hbl,hcl⟩:=P3.out (by omega)
     obtain ⟨va,vt,i0,i1,i2,i3,i4,i5,hva,hvt⟩:=hcl j x hx
     have hva0:=hva
     have hvt0:=hvt
     obtain ⟨aa,ca,rfl,-,-,-⟩:=hva
     obtain ⟨ta,ct,rfl,-,-,-⟩:=hvt
     have j0:=(hBj.cell (p:=⟨bl,ol+j * 6,none⟩) hbl).trans i0
     have j1:=(hBj.cell (p:=⟨bl,ol+j * 6+1,none⟩) hbl).trans i1
     have j2:=(hBj.cell (p:=⟨bl,ol+j * 6+2,none⟩) hbl).trans i2
     have j3:=(hBj.cell (p:=⟨bl,ol+j * 6+3,none⟩) hbl).trans i3
     have j4:=(hBj.cell (p:=⟨bl,ol+j * 6+4,none⟩) hbl).trans i4
     have j5:=(hBj.cell (p:=⟨bl,ol+j * 6+5,none⟩) hbl).trans i5
     have hmn:m=f.params.length+((f.blocks.take k).map List.length).sum+j:=by rw [hm.out,HNs.out]
     have hmem:(⟨x,m,k,j⟩:It) ∈ Ir.items f:=by rw [hmn];exact item_mem f k j q x HQ.out hx
     have HS:Hid (upTo f k (j+1)=upTo f k j++[⟨x,m,k,j⟩]):=by show _=_;rw [hmn];exact upTo_succ f k j q x HQ.out hx
     have hlen:pre1.length<(Ir.items f).length+1:=by
      have h1:=prj_len HPj.out
      have h2:=(upTo_prefix f k j q HQ.out).length_le
      omega
     have hJ1:J pre1 (wp.alloc (.cells #[.int .i64 x.op,.int .i64 x.width,.int .i64 x.flags,.slice aa x.args.length ca,.int .u32 x.imm,.slice ta x.to.length ct] 67)):=AbidesFrom.alloc HJ.out HJj.out _
     obtain ⟨fn,tmps,assign,body,hy,hR⟩:=HY.out pre1 ⟨⟨⟨x,m,k,j⟩,aa,ca,ta,ct⟩,hva0,hvt0,hmem⟩ _ hJ1 hlen
     have HMEM:Hid (∀ y:GI n₀ w0 f,y.1.it=⟨x,m,k,j⟩→prj (pre1++[y])=upTo f k (j+1)):=by
      intro y hy
      rw [prj_snoc,hy,HS.out,HPj.out]
     have HPRE:Hid (upTo f k (j+1) <+: Ir.items f):=upTo_prefix f k (j+1) q HQ.out
     have hBa:Below n₀ w0 (wp.alloc (.cells #[.int .i64 x.op,.int .i64 x.width,.int .i64 x.flags,.slice aa x.args.length ca,.int .u32 x.imm,.slice ta x.to.length ct] 67)):=hBj.alloc (by have:=hBj.size;omega) _
     clear hx hcl i0 i1 i2 i3 i4 i5 hlen hJ1 hmn
     dsimp only [ItV.enc] at hy
     gi_wp2
     refine hR.mono ?_
     rintro e W3 (⟨rfl,hJ3,hk3⟩ | ⟨rfl,hJx3⟩)
     ·have hB3:=hBa.trans hk3
      clear j0 j1 j2 j3 j4 j5
      gi_wp2
      go_roundw
      case rel=>exact ⟨j+1,m+1,_,by omega,by go_num,by go_num,by omega,by (show _=_;rw [hm.out];omega),HMEM.out _ rfl,hJ3,hB3⟩
      case measure=>simp [intOf];omega
     ·gi_wp2
      refine bodyPost_ret (results_none rfl _ _ _) rfl ?_
      exact ⟨⟨_,rfl⟩,.inr ⟨_,by rw [HMEM.out _ rfl];exact HPRE.out,hJx3⟩⟩
    ·obtain rfl:j=q.length:=by omega
     have HP1:Hid (prj pre1=upTo f (k+1) 0):=by show _=_;rw [HPj.out];exact upTo_next f k q HQ.out
     gi_wp2
     go_roundw
     case rel=>exact ⟨k+1,m,pre1,by omega,by go_num,rfl,by omega,by (show _=_;rw [hm.out,HNs.out,HN1.out];omega),HP1,HJj,hBj⟩
     case measure=>simp [intOf];omega
  ·obtain rfl:k=f.blocks.length:=by omega
   have HP1:Hid (prj pre=Ir.items f):=by show _=_;rw [HP.out];exact upTo_end f
   gi_wp2
   go_end0
   exact ⟨⟨_,rfl⟩,.inl ⟨pre,HP1.out,HJk.out⟩⟩
end Go.Proofs.YthfhamagopbgcaaGreat

namespace Go.Proofs.YthfhamagopbgcaaGreat
open Go.RowKit Go.Shelf

/-- 'all(f)': the function value; f lies in a box. -/
theorem all_in (f:Fn) (Ap As Ab:Option Addr) (np ns nb cp cs cb:Nat) (w:World) :
  Calls Tryz.prog 64 #[.agg #[.slice Ap np cp,.int .i64 f.ret,.slice As ns cs,.slice Ab nb cb]] w fun e w' =>
   e=.returned (.func (.func 104) #[] #[.pointer (some ⟨w.heap.size,0,none⟩)])∧w'=w.alloc (.cells #[.slice Ap np cp,.int .i64 f.ret,.slice As ns cs,.slice Ab nb cb] 25):=by
 go_enter Tryz.func64, Tryz.ntmps64
 go_wp2
 go_ret
 exact ⟨rfl,rfl⟩

theorem all_stops (n:Nat) (hn:1≤n) (Bf n₀:Nat) (f:Fn) (vp vs vb:Value) (w0 W0:World) (hf:FnAt n₀ w0 (.agg #[vp,.int .i64 f.ret,vs,vb]) f) (hn0:n₀≤w0.heap.size) (hb:Below n₀ w0 W0) (hs:f.blocks.length≤100000) (hBf:Bf<W0.heap.size)
  (c0:W0.cell? ⟨Bf,0,none⟩=some vp) (c3:W0.cell? ⟨Bf,3,none⟩=some vb) :
  SeqStopsK Fence.wide n Tryz.prog 104 #[.pointer (some ⟨Bf,0,none⟩)] (fun x:GI n₀ w0 f=>#[x.1.enc]) (Below n₀) (fun ys=>prj ys=Ir.items f) (fun pre=>prj pre <+: Ir.items f) ((Ir.items f).length+1) W0 :=
 fun l J Jx W hW hJ _ hY h0=>all1_in n hn l Bf n₀ W.heap.size f vp vs vb w0 hf hs J Jx hJ hY W ((hW.cell (p:=⟨Bf,0,none⟩) hBf).trans c0) ((hW.cell (p:=⟨Bf,3,none⟩) hBf).trans c3) (hb.trans (hW.mono (Nat.le_trans hn0 hb.size))) hn0 h0
end Go.Proofs.YthfhamagopbgcaaGreat

namespace Go.Proofs.YthfhamagopbgcaaGreat
open Go.RowKit

theorem Own1.lower {B B':Nat} {e:TypeId} {w:World} {v:Value} {xs:List Value} (h:Own1 B' e w v xs) (hB:B≤B'):Own1 B e w v xs:=by
 refine ⟨h.1,?_⟩
 rcases h.2 with h | ⟨g,cap,cur,e,h,r⟩
 ·exact .inl h
 ·exact .inr ⟨g,cap,cur,e,Nat.le_trans hB h,r⟩

set_option maxRecDepth 100000 in
set_option maxHeartbeats 4000000 in
/-- slices.Clone at []int: a slice of the call's own. -/
theorem Clone_own (v:Value) (zs:List Int) (B:Nat) (w:World) (hz:IntsAt B w v zs) (hB:B≤w.heap.size) :
  Calls Tryz.prog 85 #[v] w fun e w'=>∃ A c,e=.returned (.slice A zs.length c)∧Own1 w.heap.size 3 w' (.slice A zs.length c) (zs.map (Value.int .i64))∧Gr w w':=by
 obtain ⟨i0,hi,hz0,hz1,hz2⟩:=info_parts info_int
 have q22:∀ (w:World) (a:Option Addr) (n c:Nat),(binOp .eql 22 (.slice a n c) (.slice none 0 0)).run Tryz.prog w=.ok (.bool a.isNone) w:=fun w a n c=>Lib.run_eql_slice_nil w _ _ a n c 0 0 Tryz.underlying22
 have hz':=hz
 obtain ⟨A,c,rfl,h1,h2,h3⟩:=hz
 cases A with
 | none =>
  have hn:zs=[]:=by
   cases zs with
   | nil=>rfl
   | cons a r =>
    obtain ⟨b,o,e,-⟩:=h3 (by simp)
    cases e
  subst hn
  clear h3 hz'
  go_enter Tryz.func85, Tryz.ntmps85
  go_wp2
  go_ret
  exact ⟨none,0,rfl,Own1.nil _ _ _,Gr.refl _⟩
 | some a =>
  have HV:Hid (IntsAt B (w.alloc (.cells #[] 3)) (.slice (some a) zs.length c) zs):=by
   obtain ⟨A',c',e,q1,q2,q3⟩:=hz'
   refine ⟨A',c',e,q1,q2,fun hp=>?_⟩
   obtain ⟨b,o,e2,e3,e4⟩:=q3 hp
   exact ⟨b,o,e2,e3,fun j z hj=>((Gr.refl w).alloc _).cell b (o+j) (by omega) |>.trans (e4 j z hj)⟩
  clear h3 hz'
  go_enter Tryz.func85, Tryz.ntmps85
  go_wp2_with (at_builtin;refine appI Tryz.underlying22 hi hz0 hz1 hz2 rfl rfl _ _ rfl rfl (Own1.empty _ _ (Nat.le_refl _)) HV rfl (by simp;omega) (by simp) ?_;intro A1 c1 w1 hown1 hb1 _)
  go_ret
  exact ⟨A1,c1,by simp,by simpa using hown1,Gr.below ((Gr.refl _).alloc _) hb1 (by simp)⟩
set_option maxRecDepth 100000 in
set_option maxHeartbeats 4000000 in
theorem igraph_any (v:Value) (f:Fn) (w:World) (hf:FnAt w.heap.size w v f) (hs:f.blocks.length≤100000) (hne:Hid (∀ l ∈ f.blocks,l≠[])) :
  Calls Tryz.prog 59 #[v] w fun e w'=>∃ u,e=.returned u∧TabAt w'.heap.size w' u (Ref.graph f)∧Gr w w':=by
 obtain ⟨vp,vs,vb,rfl,hp,hs',hb⟩:=hf
 obtain ⟨Ap,cp,rfl,hp1,hp2,hp3⟩:=hp
 obtain ⟨As,cs,rfl,hs1,hs2,hs3⟩:=hs'
 obtain ⟨Ab,cb,rfl,hb1,hb2,hb3⟩:=hb
 clear hp3 hs3
 obtain ⟨i0,hi,hz0,hz1,hz2⟩:=info_parts info_int
 obtain ⟨i1,hj,hy0,hy1,hy2⟩:=info_parts info_ints
 have hB0:Gr w (w.alloc (.cells #[.slice Ap f.params.length cp,.int .i64 f.ret,.slice As f.slots.length cs,.slice Ab f.blocks.length cb] 25)):=(Gr.refl _).alloc _
 go_enter Tryz.func59, Tryz.ntmps59
 go_wp2
 go_loopw [3,5,9] (fun s _ b wr=>∃ (k:Nat) (us:List Value),k≤f.blocks.length∧b=.int .i64 k∧Own1 (w.heap.size+1) 22 wr s us∧Tab1 (w.heap.size+1) 3 wr us ((f.blocks.take k).map fun l=>(l.getLast?.map (·.to)).getD []) ∧
     Gr (w.alloc (.cells #[.slice Ap f.params.length cp,.int .i64 f.ret,.slice As f.slots.length cs,.slice Ab f.blocks.length cb] 25)) wr) (fun _ _ b _=>f.blocks.length-(intOf b).toNat)
 case atStart=>exact ⟨0,[],Nat.zero_le _,rfl,Own1.nil _ _ _,Tab1.nil _ _ _,Gr.refl _⟩
 case round =>
  obtain ⟨k,us,hk,rfl,hown,htab,hgr⟩:=hrel
  have hbox:wr.cell? ⟨w.heap.size,3,none⟩=some (.slice Ab f.blocks.length cb):=(hgr.cell _ _ (by simp)).trans (by simp)
  by_cases hlt:k<f.blocks.length
  ·obtain ⟨bb,ob,rfl,hbb,hcells⟩:=hb3 (by omega)
   obtain ⟨l,hl⟩:∃ l,f.blocks[k]?=some l:=⟨f.blocks[k],by simp [hlt]⟩
   obtain ⟨u,hu,hul⟩:=hcells k l hl
   have hl0:l≠[]:=hne.out l (List.mem_of_getElem? hl)
   obtain ⟨x,hx⟩:∃ x,l.getLast?=some x:=⟨_,List.getLast?_eq_some_getLast hl0⟩
   have hx':l[l.length-1]?=some x:=by rw [← List.getLast?_eq_getElem?];exact hx
   have HS:=graph_snoc f.blocks k l hl x hx
   have hpos:0<l.length:=List.length_pos_iff.2 hl0
   have hg0:Gr w wr:=hB0.trans hgr
   have hu':=(hg0.cell _ _ hbb).trans hu
   have hul':=hul.below hg0
   obtain ⟨Al,cl,rfl,hl1,hl2,hl3⟩:=hul'
   obtain ⟨bl,ol,rfl,hbl,hcl⟩:=hl3 hpos
   obtain ⟨va,vt,_,_,_,_,_,ht,_,hvt⟩:=hcl _ x hx'
   obtain ⟨m,hm⟩:∃ m,m+1=l.length:=⟨l.length-1,by omega⟩
   rw [show l.length-1=m by omega] at ht
   have HS':=Lib.hid HS
   have hsz:w.heap.size<wr.heap.size:=by have:=hgr.size;simp at this;omega
   have hus:us.length=k:=by rw [htab.1];simp;omega
   have hbl':bl<wr.heap.size:=by omega
   have HM:=Lib.hid hm
   have HU:=Lib.hid hus
   have wm:(l.length:Int)-1=m:=by omega
   clear hl hcells hu hul hb3 hx hx' HS hl0 hl3 hcl hm hus
   obtain ⟨At,ct,rfl,ht1,ht2,ht3⟩:=hvt
   have hvt:IntsAt w.heap.size wr (.slice At x.to.length ct) x.to:=⟨At,ct,rfl,ht1,ht2,ht3⟩
   have HCL:=Lib.hid (Clone_own (.slice At x.to.length ct) x.to w.heap.size wr hvt (by omega))
   clear ht3 hvt
   go_wp2_with (first
     | (go_at_call 85;refine HCL.out.mono ?_;rintro e w1 ⟨A1,c1,rfl,hown1,hw1⟩;have hown':=hown.gr hw1;have htab':=htab.gr hw1;have hsz1:=hw1.size)
     | (at_builtin;refine app1 (v:=u3) Tryz.underlying27 hj hy0 hy1 hy2 rfl (by omega) rfl (.tmp 13) (.tmp 22) rfl rfl hown' rfl rfl (by rw [HU.out];omega) (by omega) ?_;intro A2 c2 w2 hown2 hb2 hg2))
   go_goals
   go_roundw
   case rel =>
    have hw2:Gr (w.alloc (.cells #[.slice Ap f.params.length cp,.int .i64 f.ret,.slice As f.slots.length cs,.slice (some ⟨bb,ob,none⟩) f.blocks.length cb] 25)) w2:=(hgr.trans hw1).below hb2 (by simp)
    have htab2:=((htab'.snoc (hown1.lower (by have:=hsz;omega)) ht2).gr ((Gr.refl _).alloc (.cells #[.slice A1 x.to.length c1] 22))).grown (hown'.gr ((Gr.refl _).alloc (.cells #[.slice A1 x.to.length c1] 22))) (by decide) hg2
    exact ⟨k+1,_,by omega,by go_num,by simpa using hown2,by rw [HS'.out];exact htab2,hw2⟩
   case measure=>simp [intOf];omega
  ·obtain rfl:k=f.blocks.length:=by omega
   go_wp2
   go_ret
   rw [List.take_length] at htab
   exact ⟨_,rfl,htab.tab hown (by simp;omega),hB0.trans hgr⟩
end Go.Proofs.YthfhamagopbgcaaGreat

namespace Go.Proofs.YthfhamagopbgcaaGreat
open Go.RowKit

set_option maxRecDepth 100000 in
set_option maxHeartbeats 4000000 in
theorem igraph_own (v:Value) (f:Fn) (w:World) (hf:FnAt w.heap.size w v f) (hs:f.blocks.length≤100000) (hne:Hid (∀ l ∈ f.blocks,l≠[])) :
  Calls Tryz.prog 59 #[v] w fun e w'=>∃ u us,e=.returned u∧Own1 (w.heap.size+1) 22 w' u us∧Tab1 (w.heap.size+1) 3 w' us (Ref.graph f)∧Gr w w':=by
 obtain ⟨vp,vs,vb,rfl,hp,hs',hb⟩:=hf
 obtain ⟨Ap,cp,rfl,hp1,hp2,hp3⟩:=hp
 obtain ⟨As,cs,rfl,hs1,hs2,hs3⟩:=hs'
 obtain ⟨Ab,cb,rfl,hb1,hb2,hb3⟩:=hb
 clear hp3 hs3
 obtain ⟨i0,hi,hz0,hz1,hz2⟩:=info_parts info_int
 obtain ⟨i1,hj,hy0,hy1,hy2⟩:=info_parts info_ints
 have hB0:Gr w (w.alloc (.cells #[.slice Ap f.params.length cp,.int .i64 f.ret,.slice As f.slots.length cs,.slice Ab f.blocks.length cb] 25)):=(Gr.refl _).alloc _
 go_enter Tryz.func59, Tryz.ntmps59
 go_wp2
 go_loopw [3,5,9] (fun s _ b wr=>∃ (k:Nat) (us:List Value),k≤f.blocks.length∧b=.int .i64 k∧Own1 (w.heap.size+1) 22 wr s us∧Tab1 (w.heap.size+1) 3 wr us ((f.blocks.take k).map fun l=>(l.getLast?.map (·.to)).getD []) ∧
     Gr (w.alloc (.cells #[.slice Ap f.params.length cp,.int .i64 f.ret,.slice As f.slots.length cs,.slice Ab f.blocks.length cb] 25)) wr) (fun _ _ b _=>f.blocks.length-(intOf b).toNat)
 case atStart=>exact ⟨0,[],Nat.zero_le _,rfl,Own1.nil _ _ _,Tab1.nil _ _ _,Gr.refl _⟩
 case round =>
  obtain ⟨k,us,hk,rfl,hown,htab,hgr⟩:=hrel
  have hbox:wr.cell? ⟨w.heap.size,3,none⟩=some (.slice Ab f.blocks.length cb):=(hgr.cell _ _ (by simp)).trans (by simp)
  by_cases hlt:k<f.blocks.length
  ·obtain ⟨bb,ob,rfl,hbb,hcells⟩:=hb3 (by omega)
   obtain ⟨l,hl⟩:∃ l,f.blocks[k]?=some l:=⟨f.blocks[k],by simp [hlt]⟩
   obtain ⟨u,hu,hul⟩:=hcells k l hl
   have hl0:l≠[]:=hne.out l (List.mem_of_getElem? hl)
   obtain ⟨x,hx⟩:∃ x,l.getLast?=some x:=⟨_,List.getLast?_eq_some_getLast hl0⟩
   have hx':l[l.length-1]?=some x:=by rw [← List.getLast?_eq_getElem?];exact hx
   have HS:=graph_snoc f.blocks k l hl x hx
   have hpos:0<l.length:=List.length_pos_iff.2 hl0
   have hg0:Gr w wr:=hB0.trans hgr
   have hu':=(hg0.cell _ _ hbb).trans hu
   have hul':=hul.below hg0
   obtain ⟨Al,cl,rfl,hl1,hl2,hl3⟩:=hul'
   obtain ⟨bl,ol,rfl,hbl,hcl⟩:=hl3 hpos
   obtain ⟨va,vt,_,_,_,_,_,ht,_,hvt⟩:=hcl _ x hx'
   obtain ⟨m,hm⟩:∃ m,m+1=l.length:=⟨l.length-1,by omega⟩
   rw [show l.length-1=m by omega] at ht
   have HS':=Lib.hid HS
   have hsz:w.heap.size<wr.heap.size:=by have:=hgr.size;simp at this;omega
   have hus:us.length=k:=by rw [htab.1];simp;omega
   have hbl':bl<wr.heap.size:=by omega
   have HM:=Lib.hid hm
   have HU:=Lib.hid hus
   have wm:(l.length:Int)-1=m:=by omega
   clear hl hcells hu hul hb3 hx hx' HS hl0 hl3 hcl hm hus
   obtain ⟨At,ct,rfl,ht1,ht2,ht3⟩:=hvt
   have hvt:IntsAt w.heap.size wr (.slice At x.to.length ct) x.to:=⟨At,ct,rfl,ht1,ht2,ht3⟩
   have HCL:=Lib.hid (Clone_own (.slice At x.to.length ct) x.to w.heap.size wr hvt (by omega))
   clear ht3 hvt
   go_wp2_with (first
     | (go_at_call 85;refine HCL.out.mono ?_;rintro e w1 ⟨A1,c1,rfl,hown1,hw1⟩;have hown':=hown.gr hw1;have htab':=htab.gr hw1;have hsz1:=hw1.size)
     | (at_builtin;refine app1 (v:=u3) Tryz.underlying27 hj hy0 hy1 hy2 rfl (by omega) rfl (.tmp 13) (.tmp 22) rfl rfl hown' rfl rfl (by rw [HU.out];omega) (by omega) ?_;intro A2 c2 w2 hown2 hb2 hg2))
   go_goals
   go_roundw
   case rel =>
    have hw2:Gr (w.alloc (.cells #[.slice Ap f.params.length cp,.int .i64 f.ret,.slice As f.slots.length cs,.slice (some ⟨bb,ob,none⟩) f.blocks.length cb] 25)) w2:=(hgr.trans hw1).below hb2 (by simp)
    have htab2:=((htab'.snoc (hown1.lower (by have:=hsz;omega)) ht2).gr ((Gr.refl _).alloc (.cells #[.slice A1 x.to.length c1] 22))).grown (hown'.gr ((Gr.refl _).alloc (.cells #[.slice A1 x.to.length c1] 22))) (by decide) hg2
    exact ⟨k+1,_,by omega,by go_num,by simpa using hown2,by rw [HS'.out];exact htab2,hw2⟩
   case measure=>simp [intOf];omega
  ·obtain rfl:k=f.blocks.length:=by omega
   go_wp2
   go_ret
   rw [List.take_length] at htab
   exact ⟨_,us,rfl,hown,htab,hB0.trans hgr⟩
end Go.Proofs.YthfhamagopbgcaaGreat

namespace Go.Proofs.YthfhamagopbgcaaGreat
open Go.RowKit Go.Shelf

attribute [local go_sem] Oper.semAt_some

/-- The kinds of all values. -/
def Ir.kinds (f:Fn):List Int:=f.params++(Ir.items f).map (·.ins.width)

def ItV.row (y:ItV):Array Value:=#[.int .i64 y.it.ins.op,.int .i64 y.it.ins.width,.int .i64 y.it.ins.flags,.slice y.aa y.it.ins.args.length y.ca,.int .u32 y.it.ins.imm,.slice y.ta y.it.ins.to.length y.ct,.int .i64 y.it.num,.int .i64 y.it.blk,.int .i64 y.it.pos]

set_option maxRecDepth 100000 in
set_option maxHeartbeats 8000000 in
theorem kinds_any (v:Value) (f:Fn) (w:World) (hf:FnAt w.heap.size w v f) (hs:f.blocks.length≤100000) (hit:(Ir.items f).length≤1000000) (hpl:f.params.length≤100000) :
  Calls Tryz.prog 67 #[v] w fun e w'=>∃ u,e=.returned u∧IntsAt w'.heap.size w' u (Ir.kinds f)∧Gr w w':=by
 obtain ⟨i0,hi,hz0,hz1,hz2⟩:=info_parts info_int
 have hf0:=hf
 obtain ⟨vp,vs,vb,rfl,hp,hsl,hb⟩:=hf
 have hp0:=hp
 obtain ⟨Ap,cp,rfl,hp1,hp2,-⟩:=hp
 obtain ⟨As,cs,rfl,-,-,-⟩:=hsl
 obtain ⟨Ab,cb,rfl,-,-,-⟩:=hb
 refine (callsIn_wide (n:=5)).1 ?_
 refine callsIn_of_wp_marks Tryz.func67 rfl trivial ?_ rfl
 simp only [Tryz.ntmps67,List.size_toArray,List.length_cons,List.length_nil,Nat.reduceAdd,Nat.reduceSub,Array.replicate_succ,Array.replicate_zero,List.push_toArray,List.append_toArray,List.nil_append,List.cons_append]
 obtain ⟨W,hW⟩:∃ W,w.alloc (.cells #[.slice Ap f.params.length cp,.int .i64 f.ret,.slice As f.slots.length cs,.slice Ab f.blocks.length cb] 25)=W:=⟨_,rfl⟩
 have hB0:Gr w W:=by rw [← hW];exact (Gr.refl w).alloc _
 have hWs:W.heap.size=w.heap.size+1:=by rw [← hW];simp
 have b0:∀ o,W.cell? ⟨w.heap.size,o,none⟩=(#[.slice Ap f.params.length cp,.int .i64 f.ret,.slice As f.slots.length cs,.slice Ab f.blocks.length cb]:Array Value)[o]?:=by
  intro o;rw [← hW];exact cell_of_row _ _ _ _ _ _ (heap_alloc_new w _)
 have B0:Hid (∀ w',Gr W w'→w'.cell? ⟨w.heap.size,0,none⟩=some (.slice Ap f.params.length cp)∧w'.cell? ⟨w.heap.size,1,none⟩=some (.int .i64 f.ret)∧w'.cell? ⟨w.heap.size,2,none⟩=some (.slice As f.slots.length cs)∧w'.cell? ⟨w.heap.size,3,none⟩=some (.slice Ab f.blocks.length cb)) :=
  fun w' g=>⟨(g.cell w.heap.size 0 (by omega)).trans (b0 0),(g.cell w.heap.size 1 (by omega)).trans (b0 1),(g.cell w.heap.size 2 (by omega)).trans (b0 2),(g.cell w.heap.size 3 (by omega)).trans (b0 3)⟩
 have HCL:=Lib.hid (Clone_own (.slice Ap f.params.length cp) f.params w.heap.size W (hp0.below hB0) (by omega))
 have HCA:Hid (∀ w1,Calls Tryz.prog 64 #[.agg #[.slice Ap f.params.length cp,.int .i64 f.ret,.slice As f.slots.length cs,.slice Ab f.blocks.length cb]] w1 fun e w' =>
     e=.returned (.func (.func 104) #[] #[.pointer (some ⟨w1.heap.size,0,none⟩)])∧w'=w1.alloc (.cells #[.slice Ap f.params.length cp,.int .i64 f.ret,.slice As f.slots.length cs,.slice Ab f.blocks.length cb] 25)) :=
  fun w1=>all_in f Ap As Ab _ _ _ cp cs cb w1
 obtain ⟨k0,k1,k2,k3⟩:=B0.out W (Gr.refl _)
 clear b0
 gi_wp2_with (first
   | (refine ⟨trivial,?_⟩;gi_at_call 85;refine (callsIn_wide.2 HCL.out).mono ?_;rintro e w1 ⟨A1,c1,rfl,hown1,hw1⟩;obtain ⟨q0,q1,q2,q3⟩:=B0.out _ (hw1.alloc (.cells #[.slice A1 f.params.length c1] 22)))
   | (refine ⟨trivial,?_⟩;gi_at_call 64;refine (callsIn_wide.2 (HCA.out _)).mono ?_;rintro e w2 ⟨rfl,rfl⟩))
 obtain ⟨W0,hW0⟩:∃ W0,((w1.alloc (.cells #[.slice A1 f.params.length c1] 22)).alloc (.cells #[.slice Ap f.params.length cp,.int .i64 f.ret,.slice As f.slots.length cs,.slice Ab f.blocks.length cb] 25))=W0:=⟨_,rfl⟩
 have hg1:Gr w w1:=hB0.trans hw1
 have hsz:W0.heap.size=w1.heap.size+2:=by rw [← hW0];simp
 have hg0:Gr w W0:=by rw [← hW0];exact (hg1.alloc _).alloc _
 have hbox:Boxed W0 w1.heap.size 22 (.slice A1 f.params.length c1):=by rw [← hW0];exact (Boxed.new w1 _ _).alloc _
 have hownW:Own1 w.heap.size 3 W0 (.slice A1 f.params.length c1) (f.params.map (Value.int .i64)):=by
  rw [← hW0];exact ((hown1.lower (by omega)).gr (((Gr.refl w1).alloc _).alloc _))
 have hbx:∀ o,W0.cell? ⟨w1.heap.size+1,o,none⟩=(#[.slice Ap f.params.length cp,.int .i64 f.ret,.slice As f.slots.length cs,.slice Ab f.blocks.length cb]:Array Value)[o]?:=by
  intro o
  rw [← hW0]
  have:=heap_alloc2_new w1 (.cells #[.slice A1 f.params.length c1] 22) (.cells #[.slice Ap f.params.length cp,.int .i64 f.ret,.slice As f.slots.length cs,.slice Ab f.blocks.length cb] 25)
  exact cell_of_row _ _ _ _ _ _ this
 rw [hW0]
 clear q0 q1 q2 q3 k0 k1 k2 k3
 have HS:=all_stops (5-1) (by omega) (w1.heap.size+1) w.heap.size f _ _ _ w W0 hf0 (Nat.le_refl _) hg0 hs (by omega) (hbx 0) (hbx 3)
 have h1w:=hg1.size
 refine wpIn_rangeFunc_ownH rfl (by omega) (gf:=104) (lb:=#[.pointer (some ⟨w1.heap.size+1,0,none⟩)]) rfl trivial (enters_of Tryz.func104 (by kernel_rfl) rfl) HS belowK_t (belowK_b (by omega)) (Below.refl _ _) (fun _=>rfl)
  (fun pre Wr=>(∃ v,Boxed Wr w1.heap.size 22 v∧Wr.ownsRow w.heap.size 3 1 v ((f.params++(prj pre).map (·.ins.width)).map (Value.int .i64)).length ((f.params++(prj pre).map (·.ins.width)).map (Value.int .i64))∧True)∧(Below w.heap.size w Wr∧W0.heap.size≤Wr.heap.size))
  (fun _ _ _=>False)
  (OwnFrom.and (Own.from (holdsRow_own w.heap.size w1.heap.size 22 3 1 (fun pre=>((f.params++(prj pre).map (·.ins.width)).map (Value.int .i64)).length) (fun pre=>((f.params++(prj pre).map (·.ins.width)).map (Value.int .i64))) (fun _ _=>True)) _) (OwnFrom.and (ownFrom_below (Nat.le_refl _) (by omega)) (fun _ _ _ _ h hg _=>Nat.le_trans h hg.size)))
  (fun _ _ _ _ _ hs _ _=>hs)
  ⟨⟨_,hbox,by have:=hownW;unfold Own1 at this;simpa [prj] using this,trivial⟩,hg0,Nat.le_refl _⟩
  (fun x a' Wr=>∃ Bx,W0.heap.size≤Bx∧Wr.heap[Bx]?=some (.cells x.1.row 111 (0,0))∧a'={ tmps:=#[.agg #[.slice Ap f.params.length cp,.int .i64 f.ret,.slice As f.slots.length cs,.slice Ab f.blocks.length cb],.pointer (some ⟨w.heap.size,0,none⟩),.slice none 0 0,.pointer (some ⟨w1.heap.size,0,none⟩),.pointer (some ⟨Bx,0,none⟩),.pointer (some ⟨w.heap.size,0,none⟩),.slice Ap f.params.length cp,.slice A1 f.params.length c1,.agg #[.slice Ap f.params.length cp,.int .i64 f.ret,.slice As f.slots.length cs,.slice Ab f.blocks.length cb],.func (.func 104) #[] #[.pointer (some ⟨w1.heap.size+1,0,none⟩)],x.1.enc,undef,undef,undef,undef,undef,undef,undef],defers:=[] })
  ?hAx ?assign ?body ?done ?stop
 case hAx =>
  intro x a' s X Y row h hg hr
  obtain ⟨Bx,h1,h2,h3⟩:=h
  refine ⟨Bx,h1,(hg.block Bx (Array.getElem?_eq_some_iff.1 h2).1 (fun e=>?_)).trans h2,h3⟩
  obtain ⟨-,o,ho,hc⟩:=hr Bx e.symm
  rw [h2] at ho;cases ho;cases hc
 case assign =>
  rintro l pre ⟨⟨⟨xi,num,blk,pos⟩,aa,ca,ta,ct⟩,hgood⟩ Wr K ⟨⟨v,hv,hr,-⟩,hB,hsW⟩ hK
  simp only [ItV.enc]
  gi_wp2
  exact hK _ _ ((KeepsOthers.alloc _ _).from _) ((Below.refl _ Wr).alloc hB.size _) ⟨⟨v,hv.alloc _,(show Own1 _ _ _ _ _ from hr).gr ((Gr.refl Wr).alloc _),trivial⟩,hB.alloc hB.size _,by simp;omega⟩ ⟨Wr.heap.size,hsW,heap_alloc_new Wr _,rfl⟩
 case body =>
  rintro l pre ⟨⟨⟨xi,num,blk,pos⟩,aa,ca,ta,ct⟩,hgood⟩ a' Wr hl ⟨r,hr0⟩ ⟨⟨v,hv,hr,-⟩,hB,hsW⟩ ⟨Bx,hBx,hrow,rfl⟩ hlt
  have hvc:=hv.cell
  have hvf:=hv.frozen
  have hw:=cell_of_row Wr Bx 1 _ _ _ hrow
  simp only [ItV.row] at hw
  have hplen:pre.length=(prj pre).length:=by simp [prj]
  obtain ⟨L,hL⟩:∃ L,(f.params++(prj pre).map (·.ins.width)).map (Value.int .i64)=L:=⟨_,rfl⟩
  have hLl:L.length≤2000000:=by rw [← hL];simp;omega
  have HL:Hid ((f.params++(prj (pre++[⟨⟨⟨xi,num,blk,pos⟩,aa,ca,ta,ct⟩,hgood⟩])).map (·.ins.width)).map (Value.int .i64)=L++[.int .i64 xi.width]):=by
   show _=_
   rw [prj_snoc,← hL];simp
  rw [hL] at hr
  clear hL hplen
  gi_wp2_with (gi_at_builtin;go_loud (refine wpListIn_append_own _ rfl _ _ 22 rfl w.heap.size 3 i0 (.int .i64 0) 1 8 Tryz.underlying22 hi hz0 hz1 hz2 rfl (by decide) _ _ _ rfl (hr.alloc _) ⟨Wr.heap.size,0,none⟩ 1 1 [.int .i64 xi.width] rfl rfl (cell_one_new _ _ _) (by simp [Value.oneCell']) (by simp only [maxLen];omega) (by omega) (by have:=hB.size;simp;omega) ?_);intro v' w2 hown' hgrow _;obtain ⟨g',cap',rfl⟩:=ownsRow_succ hown';obtain ⟨hv1,hv2,hr2,hk2,hb2⟩:=hv.appended (by decide) hr hB.size h1w hown' hgrow;have hc1:=hv1.cell;have hf1:=hv1.frozen)
  have hfin:(w2.setCell ⟨w1.heap.size,0,none⟩ (.slice (some ⟨g',0,none⟩) (L.length+1) cap')).ownsRow w.heap.size 3 1 (.slice (some ⟨g',0,none⟩) (L.length+1) cap') (L++[Value.int .i64 xi.width]).length (L++[Value.int .i64 xi.width]):=by
   rw [show (L++[Value.int .i64 xi.width]).length=L.length+1 by simp];exact hr2
  rw [← HL.out] at hfin
  refine ⟨hk2.from _,hb2,⟨_,hv2,?_⟩,hB.trans hb2,by have:=hb2.size;omega⟩
  simpa using hfin
 case done =>
  rintro D ys Wr hD hys ⟨⟨v,hv,hr,-⟩,hB,hsW⟩ hKD
  have hvc:=hv.cell
  gi_wp2
  refine ⟨by simp,.inl ⟨_,_,rfl,run_takeDeferred hKD,?_⟩⟩
  have hg9:Gr w (Wr.putObj D (.deferred none)):=hB.trans (belowK_b (w:=w) (Nat.le_refl _) Wr D _ _ (by omega) hKD rfl rfl)
  refine ⟨_,results_tmp rfl _ _ _,v,rfl,?_,hg9⟩
  have hr9:=ownsRow_putObj hr (.deferred none) hKD rfl
  have he:f.params++(prj ys).map (·.ins.width)=Ir.kinds f:=by rw [hys];rfl
  rw [he] at hr9
  exact Own1.ints (B:=w.heap.size) (by unfold Own1;simpa using hr9) (by unfold Ir.kinds;simp;omega)
 case stop =>
  rintro D c pre Wr _ _ h _
  exact h.elim
end Go.Proofs.YthfhamagopbgcaaGreat
namespace Go.Proofs.YthfhamagopbgcaaGreat
open Go.RowKit

theorem itemsFrom_len:∀ (bs:List (List Ins)) (n b:Nat),(Ir.itemsFrom bs n b).length=Ref.total bs
 | [],_,_=>rfl
 | l::r,n,b=>by rw [Ir.itemsFrom,List.length_append,itemsB_len,itemsFrom_len r,Ref.total_cons]
theorem items_len (f:Fn):(Ir.items f).length=Ref.total f.blocks:=itemsFrom_len _ _ _
theorem itemsFrom_get:∀ (bs:List (List Ins)) (n b i:Nat) (it:It),(Ir.itemsFrom bs n b)[i]?=some it →
  Ref.whereFrom ((n+i:Nat):Int) bs b n=((it.blk:Int),(it.pos:Int))∧b≤it.blk∧it.num=n+i∧∃ l,bs[it.blk-b]?=some l∧l[it.pos]?=some it.ins
 | [],n,b,i,it,h=>by simp [Ir.itemsFrom] at h
 | l::r,n,b,i,it,h=>by
  rw [Ir.itemsFrom] at h
  rcases Nat.lt_or_ge i l.length with hi | hi
  ·rw [List.getElem?_append_left (by rw [itemsB_len];exact hi),itemsB_get l n b i l[i] (by simp [hi])] at h
   simp only [Option.some.injEq] at h
   subst h
   refine ⟨?_,Nat.le_refl _,rfl,l,by simp,by simp [hi]⟩
   rw [Ref.whereFrom,if_pos (by omega)]
   refine Prod.ext rfl ?_
   show ((n+i:Nat):Int)-n=(i:Int)
   omega
  ·rw [List.getElem?_append_right (by rw [itemsB_len];exact hi),itemsB_len] at h
   obtain ⟨h1,h2,h3,l',h4,h5⟩:=itemsFrom_get r (n+l.length) (b+1) (i-l.length) it h
   refine ⟨?_,by omega,by omega,l',?_,h5⟩
   ·rw [Ref.whereFrom,if_neg (by omega),show ((n+i:Nat):Int)=((n+l.length+(i-l.length):Nat):Int) by omega]
    exact h1
   ·rw [show it.blk-b=(it.blk-(b+1))+1 by omega];simpa using h4
theorem items_get (f:Fn) (i:Nat) (it:It) (h:(Ir.items f)[i]?=some it) :
  Ref.whereIs f ((f.params.length+i:Nat):Int)=((it.blk:Int),(it.pos:Int))∧it.num=f.params.length+i∧∃ l,f.blocks[it.blk]?=some l∧l[it.pos]?=some it.ins:=by
 obtain ⟨h1,h2,h3,l,h4,h5⟩:=itemsFrom_get f.blocks f.params.length 0 i it h
 exact ⟨h1,h3,l,by simpa using h4,h5⟩
theorem items_in (f:Fn) (it:It) (h:it ∈ Ir.items f):∃ l,f.blocks[it.blk]?=some l∧l[it.pos]?=some it.ins:=by
 obtain ⟨i,hi,e⟩:=List.getElem_of_mem h
 exact (items_get f i it (by rw [List.getElem?_eq_getElem hi,e])).2.2
theorem count_eq (f:Fn):Ref.count f=f.params.length+(Ir.items f).length:=by
 rw [items_len];unfold Ref.count Ref.number;rw [List.take_length]

theorem itemsB_all (q:Ins→Bool) (l:List Ins) (n b:Nat):(Ir.itemsB l n b).all (fun it=>q it.ins)=l.all q:=by
 have h:(Ir.itemsB l n b).map (·.ins)=l:=by
  apply List.ext_getElem?
  intro i
  simp [Ir.itemsB]
  cases l[i]? <;> simp
 have h2:(Ir.itemsB l n b).all (fun it=>q it.ins)=((Ir.itemsB l n b).map (·.ins)).all q:=by rw [List.all_map];rfl
 rw [h2,h]
theorem itemsFrom_all (q:Ins→Bool):∀ (bs:List (List Ins)) (n b:Nat),(Ir.itemsFrom bs n b).all (fun it=>q it.ins)=bs.all fun l=>l.all q
 | [],_,_=>rfl
 | l::r,n,b=>by rw [Ir.itemsFrom,List.all_append,itemsB_all,itemsFrom_all q r,List.all_cons]
theorem items_all (q:Ins→Bool) (f:Fn):(Ir.items f).all (fun it=>q it.ins)=f.blocks.all fun l=>l.all q:=itemsFrom_all q _ _ _

/-- The kind of a value, by the list of all kinds. -/
def Ir.kv (ks:List Int) (v:Int):Int:=if v<0∨(ks.length:Int)≤v then -1 else ks.getD v.toNat 0
theorem kinds_len (f:Fn):(Ir.kinds f).length=Ref.count f:=by rw [count_eq];simp [Ir.kinds]
theorem kv_eq (f:Fn) (v:Int):Ir.kv (Ir.kinds f) v=Ref.kind f v:=by
 unfold Ir.kv Ref.kind
 rw [kinds_len]
 split
 ·rfl
 ·next h =>
  obtain ⟨n,rfl⟩:=Int.eq_ofNat_of_zero_le (show 0≤v by omega)
  rw [Int.toNat_natCast]
  by_cases hp:(n:Int)<f.params.length
  ·rw [if_pos hp]
   unfold Ir.kinds
   simp only [List.getD,List.getElem?_append_left (show n<f.params.length by omega)]
  ·rw [if_neg hp]
   have hc:=count_eq f
   have hi:n-f.params.length<(Ir.items f).length:=by omega
   obtain ⟨it,hit⟩:∃ it,(Ir.items f)[n-f.params.length]?=some it:=⟨_,List.getElem?_eq_getElem hi⟩
   obtain ⟨h1,h2,l,h3,h4⟩:=items_get f _ it hit
   rw [show f.params.length+(n-f.params.length)=n by omega] at h1
   rw [h1]
   unfold Ir.kinds Ref.insAt?
   simp only [List.getD,List.getElem?_append_right (show f.params.length≤n by omega),List.getElem?_map,hit,Option.map_some,Option.getD_some,Int.toNat_natCast,h3,Option.bind_some,h4]

/-- What the program's typed answers. -/
def Ir.each (ks:List Int) (x:Ins) (k:Int):Bool:=x.args.all fun v=>decide (Ir.kv ks v=k)
def Ir.kof (ks:List Int) (x:Ins) (i:Nat):Int:=Ir.kv ks (x.args.getD i 0)
def Ir.typed (f:Fn) (x:Ins) (ks:List Int):Bool :=
 if Ir.classOf x.op=2∨Ir.classOf x.op=7∨Ir.classOf x.op=8∨Ir.classOf x.op=14 then Ir.each ks x x.width
 else if Ir.classOf x.op=3 then Ref.isWidth (Ir.kof ks x 0) && Ir.each ks x (Ir.kof ks x 0)
 else if Ir.classOf x.op=4 then decide (Ir.kof ks x 0=1) && decide (Ir.kof ks x 1=x.width) && decide (Ir.kof ks x 2=x.width)
 else if Ir.classOf x.op=5 then Ref.isWidth (Ir.kof ks x 0) && decide (Ir.kof ks x 0<x.width)
 else if Ir.classOf x.op=6 then Ref.isWidth (Ir.kof ks x 0) && decide (x.width<Ir.kof ks x 0)
 else if Ir.classOf x.op=11 then decide (Ir.kof ks x 0=33) && Ref.isWidth (Ir.kof ks x 1)
 else if Ir.classOf x.op=12 then decide (Ir.kof ks x 0=33)
 else if Ir.classOf x.op=13 then decide (Ir.kof ks x 0=33) && Ref.isMem (Ir.kof ks x 1)
 else if Ir.classOf x.op=16 then decide (Ir.kof ks x 0=1)
 else if Ir.classOf x.op=17 then Ir.each ks x f.ret
 else true

theorem len0 {α:Type} {l:List α} (h:(l.length:Int)=0):l=[]:=List.eq_nil_of_length_eq_zero (by omega)
theorem len1 {α:Type} {l:List α} (h:(l.length:Int)=1):∃ a,l=[a]:=by
 match l,h with
 | [a],_=>exact ⟨a,rfl⟩
theorem len2 {α:Type} {l:List α} (h:(l.length:Int)=2):∃ a b,l=[a,b]:=by
 match l,h with
 | [a,b],_=>exact ⟨a,b,rfl⟩
theorem len3 {α:Type} {l:List α} (h:(l.length:Int)=3):∃ a b c,l=[a,b,c]:=by
 match l,h with
 | [a,b,c],_=>exact ⟨a,b,c,rfl⟩

/-- What the document's 'argument' says of an instruction, class by class. -/
theorem arg_len {f:Fn} {x:Ins} (h:Ref.argument f x=true):(0≤(Ref.shape f x).1→(x.args.length:Int)=(Ref.shape f x).1)∧(Ref.shape f x).2.2=true:=by
 unfold Ref.argument Ref.counts at h
 simp only [Bool.and_eq_true] at h
 obtain ⟨⟨⟨h1,h2⟩,-⟩,-⟩:=h
 refine ⟨fun h0=>?_,h1⟩
 simp only [Bool.not_eq_true',Bool.or_eq_false_iff,Bool.and_eq_false_imp,decide_eq_true_eq,decide_eq_false_iff_not] at h2
 have:=h2.1.1 h0
 omega
theorem each_kind (f:Fn) (x:Ins) (k:Int) (hk:0≤k):Ir.each (Ir.kinds f) x k=(x.args.all (fun v=>decide (0≤Ref.kind f v)) && (x.args.map (Ref.kind f)).all fun z=>decide (z=k)):=by
 unfold Ir.each
 simp only [kv_eq]
 induction x.args with
 | nil=>rfl
 | cons a r ih =>
  simp only [List.all_cons,ih,List.map_cons]
  by_cases h:Ref.kind f a=k
  ·simp [h,hk]
  ·simp [h]
      
theorem shape_out (f:Fn) (x:Ins) (h:x.op<0∨32<x.op):Ref.shape f x=(0,0,false):=by
 unfold Ref.shape
 iterate 16 rw [if_neg (by omega)]
theorem op_cases (op:Int) (h:¬ (op<0∨32<op)):(op=1∨op=2∨op=3∨op=4∨op=5∨op=6∨op=7∨op=8∨op=9∨op=10∨op=11∨op=12∨op=13∨op=19∨op=20∨op=21∨op=28) ∨
  (op=0∨op=22∨op=23∨op=24∨op=29∨op=32)∨(op=16∨op=17∨op=18∨op=26∨op=30)∨(op=14∨op=25∨op=27)∨op=15∨op=31:=by omega
set_option maxHeartbeats 2000000 in
theorem typed_eq (f:Fn) (x:Ins) (hA:Ref.argument f x=true):Ir.typed f x (Ir.kinds f)=Ref.typed f x:=by
 obtain ⟨hl,hs⟩:=arg_len hA
 clear hA
 by_cases ho:x.op<0∨32<x.op
 ·rw [shape_out f x ho] at hs;cases hs
 have hE:=fun k hk=>each_kind f x k hk
 unfold Ir.typed Ref.typed Ref.typedKinds
 obtain ⟨op,width,flags,args,imm,to⟩:=x
 dsimp only at *
 rcases op_cases op ho with h | h | h | h | h | h
 ·have hw:1≤width:=by
   rcases h with h | h | h | h | h | h | h | h | h | h | h | h | h | h | h | h | h
   all_goals (subst h;simp [Ref.shape,Ref.isWidth] at hs;omega)
  have hc:Ir.classOf op=2∨Ir.classOf op=7∨Ir.classOf op=8∨Ir.classOf op=14:=by
   rcases h with h | h | h | h | h | h | h | h | h | h | h | h | h | h | h | h | h
   all_goals (subst h;decide)
  rw [if_pos hc,hE width (by omega)]
  simp only [show ¬ op=14 by omega,show ¬ op=15 by omega,show ¬ (op=16∨op=17) by omega,show ¬ op=18 by omega,show ¬ op=25 by omega,show ¬ op=26 by omega,show ¬ op=27 by omega,show ¬ op=30 by omega,show ¬ op=31 by omega,if_false]
 ·have ha:args=[]:=by
   rcases h with h | h | h | h | h | h
   all_goals (subst h;simp [Ref.shape] at hl;exact hl)
  subst ha
  rcases h with h | h | h | h | h | h
  all_goals (subst h;simp [Ir.classOf])
 ·have ha:∃ a,args=[a]:=by
   rcases h with h | h | h | h | h
   all_goals (subst h;simp [Ref.shape] at hl;exact len1 (by omega))
  obtain ⟨a,rfl⟩:=ha
  clear hE hl
  rcases h with h | h | h | h | h
  all_goals (subst h;simp [Ref.shape,Ref.isWidth] at hs;simp [Ir.classOf,Ir.kof,kv_eq,Ref.isWidth];omega)
 ·have ha:∃ a b,args=[a,b]:=by
   rcases h with h | h | h
   all_goals (subst h;simp [Ref.shape] at hl;exact len2 (by omega))
  obtain ⟨a,b,rfl⟩:=ha
  clear hE hl
  rcases h with h | h | h
  all_goals (subst h;simp [Ref.shape] at hs;simp [Ir.classOf,Ir.each,Ir.kof,kv_eq,Ref.isWidth,Ref.isMem];first | omega | grind)
 ·subst h
  simp [Ref.shape,Ref.isWidth] at hl hs
  obtain ⟨a,b,c,rfl⟩:=len3 (by omega:(args.length:Int)=3)
  simp [Ir.classOf,Ir.kof,kv_eq]
  omega
 ·subst h
  simp [Ref.shape] at hl hs
  by_cases h0:0<f.ret
  ·simp [h0] at hl
   obtain ⟨a,rfl⟩:=len1 (by omega:(args.length:Int)=1)
   simp [Ir.classOf,Ir.each,kv_eq]
   omega
  ·simp [h0] at hl
   subst hl
   simp [Ir.classOf,Ir.each]
end Go.Proofs.YthfhamagopbgcaaGreat
namespace Go.Proofs.YthfhamagopbgcaaGreat
open Go.RowKit

theorem itemsB_all2 (q:Ins→Nat→Bool) (l:List Ins) (n b:Nat):(Ir.itemsB l n b).all (fun it=>q it.ins it.blk)=l.all fun x=>q x b:=by
 have h:(Ir.itemsB l n b).map (fun it=>(it.ins,it.blk))=l.map fun x=>(x,b):=by
  apply List.ext_getElem?
  intro i
  simp [Ir.itemsB]
  cases l[i]? <;> simp
 have h2:(Ir.itemsB l n b).all (fun it=>q it.ins it.blk)=((Ir.itemsB l n b).map (fun it=>(it.ins,it.blk))).all fun p=>q p.1 p.2:=by rw [List.all_map];rfl
 rw [h2,h,List.all_map];rfl
/-- What the program asks of a Phi. -/
def Ir.phiOk (g:List (List Int)) (it:It):Bool:=decide (it.ins.op≠28) || decide (Ref.before g it.blk=it.ins.to)
theorem phis_items (g:List (List Int)):∀ (bs:List (List Ins)) (n b:Nat),Ref.phisFrom g bs b=(Ir.itemsFrom bs n b).all (Ir.phiOk g)
 | [],_,_=>rfl
 | l::r,n,b=>by
  rw [Ir.itemsFrom,List.all_append,Ref.phisFrom,phis_items g r (n+l.length) (b+1)]
  have:=itemsB_all2 (fun x b=>decide (x.op≠28) || decide (Ref.before g b=x.to)) l n b
  unfold Ir.phiOk
  rw [this]
  congr 2
  funext x
  rw [Ref.sameInts_eq]
  congr 1
  exact decide_eq_decide.2 eq_comm
def Ir.isLaid (f:Fn):Bool:=f.blocks.all Ref.laid && (Ref.before (Ref.graph f) 0).isEmpty && (Ir.items f).all (Ir.phiOk (Ref.graph f))
theorem isLaid_eq (f:Fn):Ir.isLaid f=Ref.rules f:=by
 unfold Ir.isLaid Ref.rules Ir.items
 rw [phis_items]

/-- What the program asks of an instruction's Args. -/
def Ir.argsOk (f:Fn) (g:List (List Int)) (it:It):Bool:=!rb g it.blk || Ref.argsFrom f g (Ref.reached g (-1)) it.blk it.pos it.ins it.ins.args 0
theorem insFrom_items (f:Fn) (g:List (List Int)) (inn:List Bool) (b:Nat):∀ (l:List Ins) (n i:Nat),
  Ref.insFrom f g inn b l i=(l.mapIdx fun j x=>(⟨x,n+j,b,i+j⟩:It)).all fun it=>Ref.argsFrom f g inn it.blk it.pos it.ins it.ins.args 0
 | [],_,_=>rfl
 | x::r,n,i=>by
  rw [Ref.insFrom,List.mapIdx_cons,List.all_cons,insFrom_items f g inn b r (n+1) (i+1)]
  congr 1
  congr 1
  apply List.ext_getElem?
  intro j
  simp only [List.getElem?_mapIdx]
  cases r[j]? with
  | none=>rfl
  | some y=>simp;omega
theorem blksFrom_items (f:Fn) (g:List (List Int)):∀ (bs:List (List Ins)) (n b:Nat),Ref.blksFrom f g (Ref.reached g (-1)) bs b=(Ir.itemsFrom bs n b).all (Ir.argsOk f g)
 | [],_,_=>rfl
 | l::r,n,b=>by
  rw [Ir.itemsFrom,List.all_append,Ref.blksFrom,blksFrom_items f g r (n+l.length) (b+1)]
  congr 1
  rw [insFrom_items f g _ b l n 0]
  unfold Ir.itemsB
  have hb:∀ it ∈ (l.mapIdx fun j x=>(⟨x,n+j,b,j⟩:It)),it.blk=b:=by
   intro it hit
   obtain ⟨j,hj,e⟩:=List.mem_mapIdx.1 hit
   rw [← e]
  have hz:(l.mapIdx fun j x=>(⟨x,n+j,b,0+j⟩:It))=l.mapIdx fun j x=>(⟨x,n+j,b,j⟩:It):=by simp
  rw [hz]
  generalize (l.mapIdx fun j x=>(⟨x,n+j,b,j⟩:It))=L at hb ⊢
  induction L with
  | nil=>simp
  | cons a t ih =>
   rw [List.all_cons,List.all_cons,← ih fun it h=>hb it (List.mem_cons_of_mem _ h)]
   unfold Ir.argsOk rb
   rw [hb a (List.mem_cons_self ..)]
   cases (Ref.reached g (-1)).getD b false <;> simp
theorem stated_eq (f:Fn):(Ir.items f).all (Ir.argsOk f (Ref.graph f))=Ref.stated f:=by
 unfold Ref.stated Ir.items
 rw [blksFrom_items]

/-- What the program's isThere answers. -/
def Ir.isThere (f:Fn) (g:List (List Int)) (v block place:Int):Bool :=
 if v<f.params.length then true else if (Ref.whereIs f v).1=block then decide ((Ref.whereIs f v).2<place) else Ref.dominates g (Ref.whereIs f v).1 block
theorem isThere_pos (f:Fn) (g:List (List Int)) (v block place:Int) (h1:v<Ref.count f) (h2:0≤place):Ir.isThere f g v block place=Ref.there f g v block place:=by
 unfold Ir.isThere Ref.there
 by_cases h:v<f.params.length
 ·rw [if_pos h,Ref.whereIs,Ref.whereFrom_none v _ _ _ h,if_pos (by decide)]
 ·obtain ⟨j,i,l,x,e,-⟩:=Ref.whereIs_some f v (by omega) h1
  rw [if_neg h,e,if_neg (show ¬ (j:Int)<0 by omega)]
  by_cases hb:(j:Int)=block
  ·simp only [hb,if_true,show decide (place<0)=false by simp;omega,Bool.false_or]
  ·simp only [hb,if_false]
theorem isThere_end (f:Fn) (g:List (List Int)) (v:Int) (t:Nat) (l:List Ins) (hl:f.blocks[t]?=some l) (h1:v<Ref.count f):Ir.isThere f g v t l.length=Ref.there f g v t (-1):=by
 unfold Ir.isThere Ref.there
 by_cases h:v<f.params.length
 ·rw [if_pos h,Ref.whereIs,Ref.whereFrom_none v _ _ _ h,if_pos (by decide)]
 ·obtain ⟨j,i,l',x,e,e2,e3,-⟩:=Ref.whereIs_some f v (by omega) h1
  rw [if_neg h,e,if_neg (show ¬ (j:Int)<0 by omega)]
  by_cases hb:(j:Int)=t
  ·have:j=t:=by omega
   subst this
   rw [hl] at e2;cases e2
   have:=(List.getElem?_eq_some_iff.1 e3).1
   simp [this]
  ·simp only [hb,if_false]
end Go.Proofs.YthfhamagopbgcaaGreat

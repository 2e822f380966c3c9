/- Parts. -/
import Derived.Test.YthfhamagopbgcaaGreatL03
set_option linter.unusedSimpArgs false
set_option linter.unusedVariables false
set_option maxRecDepth 100000
set_option maxHeartbeats 16000000
open Go.Proofs.Tryz
namespace Go.Proofs.YthfhamagopbgcaaGreat
section
open Go.RowKit
theorem kO:(prog.info? 4).map (fun i=>(i.zero,i.size,i.bytes))=some (some (.bool false),1,1):=by kernel_rfl
def BRow (B hb n:Nat)(w:World)(bs:List Bool):Prop:=w.ownsRow B 4 1 (.slice (some ⟨hb,0,none⟩) n n) n (bs.map Value.bool)
section
variable {B hb n:Nat}{w w':World}{bs:List Bool}
theorem BRow.len (h:BRow B hb n w bs):bs.length=n:=by have:=h.1;simpa using this
theorem BRow.cell (h:BRow B hb n w bs)(j:Nat)(b:Bool)(hj:bs[j]?=some b):w.cell? ⟨hb,j,none⟩=some (.bool b):=by have hl:=h.len;have d:=(yC.1 hj).1;rw[World.ownsRow.cellAt h j (by omega),vH,hj];rfl
theorem BRow.frozen (h:BRow B hb n w bs)(j:Nat):w.frozen? ⟨hb,j,none⟩=false:=World.ownsRow.frozenAt h j
theorem BRow.set_ (h:BRow B hb n w bs)(j:Nat)(b:Bool):BRow B hb n (w.setCell ⟨hb,j,none⟩ (.bool b)) (bs.set j b):=by have:=(World.ownsRow.stored h j (.bool b)).1;unfold BRow;rw[List.map_set];exact this
theorem BRow.base (h:BRow B hb n w bs)(hn:0<n):B<=hb:=by obtain⟨b,e,_,d,_⟩:=dz h rfl hn;cases e;exact d
theorem BRow.bools (h:BRow B hb n w bs)(hn:n<=17592186044416):BoolsAt w.heap.size w (.slice (some ⟨hb,0,none⟩) n n) bs:=by have hl:=h.len;subst hl;exact li h hn
end
theorem fJ (z t:Int)(bs:List Bool):(Ref.spreadEdge z bs t).length=bs.length:=by unfold Ref.spreadEdge;split<;>simp
def WfI (x:Ins):Prop:=(0<=x.imm/\x.imm<4294967296)/\(∀z∈x.args,-9223372036854775808<=z/\z<=9223372036854775807)/\x.args.length<=100000/\x.to.length<=100000
theorem fM (f:Fn)(x:Ins)(h:Ref.argument f x=true):(∀t∈x.to,0<=t/\t<(f.blocks.length:Int))/\(x.op=28->x.to.length=x.args.length):=by
 unfold Ref.argument at h;simp only[we]at h;refine⟨fun t g=>?_,fun ho=>?_⟩
 ·have:=vT.1 h.1.2 t g;simpa using this
 ·have d:=h.1.1.2;simp[Ref.counts,Ref.shape,ho]at d;omega
theorem mK (f:Fn)(hA:∀l∈f.blocks,∀x∈l,Ref.argument f x=true):∀l∈Ref.graph f,∀t∈l,0<=t/\t<((Ref.graph f).length:Int):=by
 intro l hl t d;unfold Ref.graph at hl ⊢;obtain⟨b,g,rfl⟩:=List.mem_map.1 hl;rw[vS]
 cases hx:b.getLast? with
 | none=>rw[hx]at d;simp at d
 | some x =>
  rw[hx]at d;exact(fM f x (hA b g x (List.mem_of_getLast? hx))).1 t (by simpa using d)
theorem mt (g:List (List Int))(a:Int):(Ref.reached g a).length=g.length:=by
 have j:∀(l:List Int)(d:List Bool),(l.foldl (Ref.spreadEdge a) d).length=d.length:=by
  intro l;induction l with
  | nil=>intro d;rfl
  | cons t r ih=>intro d;rw[List.foldl_cons,ih,fJ]
 have m:∀(l:List Nat)(d:List Bool),(l.foldl (Ref.spreadBlock a g) d).length=d.length:=by
  intro l;induction l with
  | nil=>intro d;rfl
  | cons t r ih=>intro d;rw[List.foldl_cons,ih];unfold Ref.spreadBlock;split<;>simp[j]
 have p:∀(n:Nat)(d:List Bool),(Ref.spread a g n d).length=d.length:=by
  intro n;induction n with
  | zero=>intro d;rfl
  | succ n ih=>intro d;rw[Ref.spread,ih,Ref.spreadRound,m]
 unfold Ref.reached;split<;>simp[p]
def gT (l:List Ins)(j:Nat):Bool:=decide (j=0) || decide ((l[j-1]?.map (·.op)).getD 0=28)
theorem fE (l:List Ins)(j:Nat)(x:Ins)(h:l[j]?=some x):gT l (j+1)=decide (x.op=28):=by simp[gT,h]
end

/- Parts. -/
import Derived.Test.YthfjdhanbegaoaaGreatDoorT04
set_option linter.unusedSimpArgs false
set_option linter.unusedVariables false
set_option maxRecDepth 100000
set_option maxHeartbeats 16000000
open Go.Proofs.Tryz
namespace Go.Proofs.YthfjdhanbegaoaaGreatDoor
open Go.RowKit
theorem jB (q:Ins->Nat->Bool)(l:List Ins)(n b:Nat):(Ir.itemsB l n b).all (fun it=>q it.ins it.blk)=l.all fun x=>q x b:=by
 have h:(Ir.itemsB l n b).map (fun it=>(it.ins,it.blk))=l.map fun x=>(x,b):=by apply List.ext_getElem?;intro i;simp[Ir.itemsB];cases l[i]?<;>simp
 have d:(Ir.itemsB l n b).all (fun it=>q it.ins it.blk)=((Ir.itemsB l n b).map (fun it=>(it.ins,it.blk))).all fun p=>q p.1 p.2:=by rw[List.all_map];rfl
 rw[d,h,List.all_map];rfl
def Ir.phiOk (g:List (List Int))(it:It):Bool:=decide (it.ins.op≠28) || decide (Ref.before g it.blk=it.ins.to)
theorem gU (g:List (List Int)):∀(bs:List (List Ins))(n b:Nat),Ref.phisFrom g bs b=(Ir.itemsFrom bs n b).all (Ir.phiOk g)
 | [],_,_=>rfl
 | l::r,n,b=>by
  rw[Ir.itemsFrom,List.all_append,Ref.phisFrom,gU g r (n+l.length) (b+1)]
  have:=jB (fun x b=>decide (x.op≠28) || decide (Ref.before g b=x.to)) l n b
  unfold Ir.phiOk;rw[this];congr 2;funext x;rw[Ref.sameInts_eq];congr 1;exact decide_eq_decide.2 eq_comm
def Ir.isLaid (f:Fn):Bool:=f.blocks.all Ref.laid && (Ref.before (Ref.graph f) 0).isEmpty && (Ir.items f).all (Ir.phiOk (Ref.graph f))
theorem lQ (f:Fn):Ir.isLaid f=Ref.rules f:=by unfold Ir.isLaid Ref.rules Ir.items;rw[gU]
def Ir.argsOk (f:Fn)(g:List (List Int))(it:It):Bool:=!rb g it.blk || Ref.argsFrom f g (Ref.reached g (-1)) it.blk it.pos it.ins it.ins.args 0
theorem fs (f:Fn)(g:List (List Int))(inn:List Bool)(b:Nat):∀(l:List Ins)(n i:Nat),
  Ref.insFrom f g inn b l i=(l.mapIdx fun j x=>(⟨x,n+j,b,i+j⟩:It)).all fun it=>Ref.argsFrom f g inn it.blk it.pos it.ins it.ins.args 0
 | [],_,_=>rfl
 | x::r,n,i=>by
  rw[Ref.insFrom,List.mapIdx_cons,List.all_cons,fs f g inn b r (n+1) (i+1)]
  congr 1
  congr 1
  apply List.ext_getElem?
  intro j
  simp only[List.getElem?_mapIdx]
  cases r[j]? with
  | none=>rfl
  | some y=>simp;omega
theorem fg (f:Fn)(g:List (List Int)):∀(bs:List (List Ins))(n b:Nat),Ref.blksFrom f g (Ref.reached g (-1)) bs b=(Ir.itemsFrom bs n b).all (Ir.argsOk f g)
 | [],_,_=>rfl
 | l::r,n,b=>by
  rw[Ir.itemsFrom,List.all_append,Ref.blksFrom,fg f g r (n+l.length) (b+1)]
  congr 1
  rw[fs f g _ b l n 0]
  unfold Ir.itemsB
  have d:∀it∈(l.mapIdx fun j x=>(⟨x,n+j,b,j⟩:It)),it.blk=b:=by intro it m;obtain⟨j,q,e⟩:=List.mem_mapIdx.1 m;rw[<-e]
  have p:(l.mapIdx fun j x=>(⟨x,n+j,b,0+j⟩:It))=l.mapIdx fun j x=>(⟨x,n+j,b,j⟩:It):=by simp
  rw[p];generalize (l.mapIdx fun j x=>(⟨x,n+j,b,j⟩:It))=L at d ⊢
  induction L with
  | nil=>simp
  | cons a t ih =>
   rw[List.all_cons,List.all_cons,<-ih fun it h=>d it (List.mem_cons_of_mem _ h)];unfold Ir.argsOk rb;rw[d a (List.mem_cons_self ..)];cases (Ref.reached g (-1)).getD b false<;>simp
theorem mD (f:Fn):(Ir.items f).all (Ir.argsOk f (Ref.graph f))=Ref.stated f:=by unfold Ref.stated Ir.items;rw[fg]
def Ir.isThere (f:Fn)(g:List (List Int))(v block place:Int):Bool :=
 if v<f.params.length then true else if (Ref.whereIs f v).1=block then decide ((Ref.whereIs f v).2<place) else Ref.dominates g (Ref.whereIs f v).1 block
theorem jA (f:Fn)(g:List (List Int))(v block place:Int)(h1:v<Ref.count f)(h2:0<=place):Ir.isThere f g v block place=Ref.there f g v block place:=by
 unfold Ir.isThere Ref.there;by_cases h:v<f.params.length
 ·rw[pB h,Ref.whereIs,Ref.whereFrom_none v _ _ _ h,pB (by decide)]
 ·obtain⟨j,i,l,x,e,-⟩:=Ref.whereIs_some f v (by omega) h1;rw[pC h,e,pC (show ¬(j:Int)<0 by omega)];by_cases d:(j:Int)=block
  ·simp only[d,if_true,show decide (place<0)=false by simp;omega,Bool.false_or]
  ·simp only[d,if_false]
theorem jz (f:Fn)(g:List (List Int))(v:Int)(t:Nat)(l:List Ins)(hl:f.blocks[t]?=some l)(h1:v<Ref.count f):Ir.isThere f g v t l.length=Ref.there f g v t (-1):=by
 unfold Ir.isThere Ref.there;by_cases h:v<f.params.length
 ·rw[pB h,Ref.whereIs,Ref.whereFrom_none v _ _ _ h,pB (by decide)]
 ·obtain⟨j,i,q,x,e,d,m,-⟩:=Ref.whereIs_some f v (by omega) h1;rw[pC h,e,pC (show ¬(j:Int)<0 by omega)];by_cases p:(j:Int)=t
  ·have:j=t:=by omega
   subst this;rw[hl]at d;cases d;have:=(oZ.1 m).1;simp[this]
  ·simp only[p,if_false]
def ShP (f:Fn)(x:Ins)(vp vb:Value)(As Aa At:Option Addr)(cs ca ct:Nat)(w:World):Prop :=
 Calls prog 82 #[.agg #[vp,.int .i64 f.ret,.slice As f.slots.length cs,vb],.agg #[.int .i64 x.op,.int .i64 x.width,.int .i64 x.flags,.slice Aa x.args.length ca,.int .u32 x.imm,.slice At x.to.length ct]] w fun e w' =>
   e=.returned (.tuple #[.agg #[.int .i64 (Ir.shapeOf f x).1,.int .i64 (Ir.shapeOf f x).2.1],.bool (Ir.shapeOf f x).2.2])/\Gr w w'
def ShB (f:Fn)(x:Ins):Prop:=0<=x.imm/\x.imm<4294967296/\f.slots.length<=17592186044416/\x.to.length<=17592186044416
theorem iC {x:Ins}{n:Int}(hc:Ir.classOf x.op=n):Hid (∀w1,Calls prog 92 #[.int .i64 x.op] w1 (RS (.int .i64 n) w1)):=fun w1=>by rw[<-hc];exact gc x.op w1
theorem iA (x:Ins):∃iw,Ref.isWidth x.width=iw/\Hid (∀w1,Calls prog 79 #[.int .i64 x.width] w1 (RS (.bool iw) w1)):=⟨_,rfl,fun w1=>dO x.width w1⟩
theorem en {w:World}{a b c:Obj}:Gr w (((w.alloc a).alloc b).alloc c):=(((qj w).alloc _).alloc _).alloc _

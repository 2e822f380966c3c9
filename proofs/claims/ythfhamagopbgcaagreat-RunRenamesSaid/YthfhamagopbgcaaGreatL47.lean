/- Parts. -/
import Derived.Test.YthfhamagopbgcaaGreatL45
import Derived.Test.YthfhamagopbgcaaGreatL46
set_option linter.unusedSimpArgs false
set_option linter.unusedVariables false
set_option maxRecDepth 100000
set_option maxHeartbeats 16000000
open Go.Proofs.Tryz
namespace Go.Proofs.YthfhamagopbgcaaGreat
section
open Go.RowKit Go.Shelf
def qt (f:Fn)(i:Rn.Inp):List Rn.Out:=if Rn.validInput f i=0 then (Rn.all f i).getD [] else []
def xG (f:Fn)(i:Rn.Inp):Int:=if Rn.validInput f i=0 then (if Rn.all f i=none then 3 else 0) else Rn.validInput f i
def OB (o:Rn.Out):Prop:=OW o/\∀r∈o.mem,∀b∈r,-1<=b
theorem yq {f:Fn}{i:Rn.Inp}(hv:Ref.Val f)(hi:Rn.Im f)(hin:Rn.validInput f i=0)(ha:∀a∈i.args,0<=a)(p:List Int):OB (Rn.run f (Rn.given p) i).1:=by
 refine⟨yr hv hi hin ha p,?_⟩;obtain⟨-,-,h,q⟩:=Rn.run_ok mr hv hi hin ha p;rcases q with ⟨-,q,-⟩|q|q
 ·rw[q];exact fun r d b g=>(h.bytes r d b g).1
 all_goals rw[q];intro r d;cases d
theorem wW {P:Rn.Out->Prop}{f:Fn}{i:Rn.Inp}(h:∀p,P (Rn.run f (Rn.given p) i).1):∀(n:Nat)(p:List Int)(outs outs':List Rn.Out),(∀o∈outs,P o)->Rn.explore f i n p outs=some outs'->∀o∈outs',P o
 | 0,p,outs,outs',_,he=>by rw[Rn.explore]at he;cases he
 | n+1,p,outs,outs',ho,he=>by
  obtain⟨g,j⟩:=Rn.explore_round he
  have d:∀o∈Rn.insert (Rn.run f (Rn.given p) i).1 outs,P o:=fun o hm=>(wX hm).elim (fun e=>e ▸ h p) (ho o)
  cases hN:Rn.nextK (Rn.padded p (Rn.wids f i p).length) (Rn.wids f i p) (Rn.wids f i p).length with
  | none =>
   have e:=g hN;injection e with e;rw[e];exact d
  | some k=>exact wW h n _ _ _ d (j k hN)
section
variable {f:Fn}{i:Rn.Inp}
theorem xZ (him:Rn.Im f)(ha:∀a∈i.args,0<=a):∀o∈qt f i,OB o:=by
 unfold qt;split
 ·rename_i h
  cases hA:Rn.all f i with
  | none=>intro o d;cases d
  | some outs=>exact wW (yq (Rn.valid_input h).1 him h ha) 256 [] [] outs (fun o d=>by cases d) hA
 ·intro o d;cases d
theorem xP:(qt f i).length<=256:=by
 unfold qt;split
 ·cases hA:Rn.all f i with
  | none=>exact vU _
  | some outs=>exact(Rn.all_asc hA).2
 ·exact vU _
theorem xr (D:Nat->Prop)(B:Nat)(w:World):OutsAt (fun _=>False) B w (.slice none 0 0) [] []:=⟨rfl,⟨rfl,.inl ⟨rfl,rfl⟩⟩,fun j o vm h=>by simp at h⟩
def yv (f:Fn)(i:Rn.Inp)(B:Nat)(e:Ending)(w':World):Prop:=∃A c D vms,e=.returned (.tuple #[.slice A (qt f i).length c,.int .i64 (xG f i)])/\OutsAt D B w' (.slice A (qt f i).length c) (qt f i) vms
theorem AllP.row {B:Nat}{e:Ending}{w':World}(h:AllP f i B e w'):yv f i B e w':=by
 unfold yv qt xG;rcases h with ⟨h,rfl⟩|⟨h,d,rfl⟩|⟨h,outs,d,-,-,v,D,g,rfl,j⟩
 ·rw[yD h,yD h];exact⟨none,0,_,[],rfl,xr (fun _=>False) _ _⟩
 ·rw[wa h,wa h,d];exact⟨none,0,_,[],rfl,xr (fun _=>False) _ _⟩
 ·rw[wa h,wa h,d];obtain⟨A,c,rfl,-⟩:=dU j.own;exact⟨A,c,D,g,rfl,j⟩
end
theorem kz {D D':Nat->Prop}{B B' n c c':Nat}{A A':Option Addr}{w:World}{outs:List Rn.Out}{vms vms':List Value}(h:OutsAt D B w (.slice A n c) outs vms)(h':OutsAt D' B' w (.slice A' n c') outs vms')(hn:outs.length=n)(hl:n<=256)(ho:∀o∈outs,OW o) :
  Calls prog 27 #[.slice A n c,.slice A' n c'] w (RG (.bool true) w):=by
 have F:=dJ fun(j:Nat)(y:Rn.Out)(p:outs[j]?=some y)=>h.cells hn p;have r:=dJ fun(j:Nat)(y:Rn.Out)(p:outs[j]?=some y)=>h'.cells hn p;have G:=dJ hn;have z:=dJ ho;clear h h' hn ho
 go_enter func27, ntmps27
 go_wp2
 go_loopw [5] (fun s5 wr=>∃k:Nat,k<=n/\s5=.int .i64 (k:Int)/\Hid (Gr w wr)) (fun s5 _=>n-(intOf s5).toNat)
 case atStart=>exact⟨0,vU _,rfl,wL _⟩
 case round =>
  obtain⟨k,hk,rfl,l⟩:=hrel;by_cases U:k<n
  ·obtain⟨y,p⟩:∃y,outs[k]?=some y:=⟨_,vu (by have:=G.out;omega)⟩;obtain⟨b,X,Z,rfl,hc,-,g,q⟩:=F.out k y p;obtain⟨Y,C,S,rfl,T,-,d,m⟩:=r.out k y p;have CS:=dJ fun(u:GrW wr)=>xC (w:=u.val) (a:=y) (b:=y) (q u.val (l.out.trans u.gr)) (m u.val (l.out.trans u.gr)) (vV _) (z.out y (vz p)) (z.out y (vz p));rw[show decide (Rn.cmpOut y y=0)=true by simp[Rn.isCmp_out.zero]]at CS;unfold gS at CS;have H:=fun u:GrW wr=>(g u.val (l.out.trans u.gr)).1;have I:=fun u:GrW wr=>(g u.val (l.out.trans u.gr)).2.1;have J:=fun u:GrW wr=>(g u.val (l.out.trans u.gr)).2.2.1;have K:=fun u:GrW wr=>(g u.val (l.out.trans u.gr)).2.2.2.1;have L:=fun u:GrW wr=>(g u.val (l.out.trans u.gr)).2.2.2.2;have M:=fun u:GrW wr=>(d u.val (l.out.trans u.gr)).1;have N:=fun u:GrW wr=>(d u.val (l.out.trans u.gr)).2.1;have O:=fun u:GrW wr=>(d u.val (l.out.trans u.gr)).2.2.1;have Q:=fun u:GrW wr=>(d u.val (l.out.trans u.gr)).2.2.2.1;have R:=fun u:GrW wr=>(d u.val (l.out.trans u.gr)).2.2.2.2;clear g q d m p;go_wp2;refine dc (by kernel_rfl) (by kernel_rfl) ?_;repeat (go_big_quiet_step ((rename_i u;go_at_call 18;exact di u (CS.out u))))
   refine wpQuiet_nil ?_;intro w9 t;obtain⟨W,rfl⟩:=t;have E:=dJ (l.out.trans W.gr);clear H I J K L M N O Q R;go_wp2;exact⟨⟨k+1,by omega,by go_num,E⟩,by simp[intOf];omega⟩
  ·obtain rfl:k=n:=by omega
   go_wp2;go_ret;exact⟨rfl,l.out⟩
abbrev yz (w:World):={x:Value × List Int // IntsAt w.heap.size w x.1 x.2}
theorem xY (w:World):IntsAt w.heap.size w (.slice none 0 0) []:=⟨none,0,rfl,vV _,vU _,fun h=>absurd h (by simp)⟩
instance (w:World):Inhabited (yz w):=⟨⟨(.slice none 0 0,[]),xY w⟩⟩
theorem sF:jF Rn.kFn where
 blocks:=by decide
 block:=by intro l hl;simp[Rn.kFn]at hl;subst hl;decide
 wf:=by intro l hl x d;simp[Rn.kFn]at hl;subst hl;simp at d;rcases d with rfl|rfl|rfl<;>(unfold WfI;refine⟨by decide,?_,by decide,by decide⟩;intro z g;simp[Rn.kAdd,Rn.kFreeze,Rn.kRet]at g;omega)
 flags:=by intro l hl x d;simp[Rn.kFn]at hl;subst hl;simp at d;rcases d with rfl|rfl|rfl<;>decide
theorem ut:Rn.Im Rn.kFn:=by intro l hl x d;simp[Rn.kFn]at hl;subst hl;simp at d;rcases d with rfl|rfl|rfl<;>decide
def ue (w:World):Value:=.agg #[.slice (some ⟨w.heap.size,0,none⟩) 2 2,.int .i64 8,.slice none 0 0,.slice (some ⟨w.heap.size+1+1+1+1+1,0,none⟩) 1 1]
theorem uQ (w:World){W:World}(hW:(((((((w.alloc (.cells #[.int .i64 8,.int .i64 8] 3)).alloc (.cells #[.int .i64 0,.int .i64 1] 3)).alloc (.cells #[.int .i64 2] 3)).alloc (.cells #[.int .i64 3] 3)).alloc (.cells #[.int .i64 1,.int .i64 8,.int .i64 2,.slice (some ⟨w.heap.size+1,0,none⟩) 2 2,.int .u32 0,.slice none 0 0,.int .i64 21,.int .i64 8,.int .i64 0,.slice (some ⟨w.heap.size+1+1,0,none⟩) 1 1,.int .u32 0,.slice none 0 0,.int .i64 31,.int .i64 0,.int .i64 0,.slice (some ⟨w.heap.size+1+1+1,0,none⟩) 1 1,.int .u32 0,.slice none 0 0] 67)).alloc (.cells #[.slice (some ⟨w.heap.size+1+1+1+1,0,none⟩) 3 3] 68)).alloc (.cells #[.slice (some ⟨w.heap.size,0,none⟩) 2 2,.int .i64 8,.slice none 0 0,.slice (some ⟨w.heap.size+1+1+1+1+1,0,none⟩) 1 1] 25))=W):FnAt W.heap.size W (ue w) Rn.kFn/\Gr w W/\W.heap.size=w.heap.size+7/\∀o,W.cell? ⟨w.heap.size+1+1+1+1+1+1,o,none⟩=(#[.slice (some ⟨w.heap.size,0,none⟩) 2 2,.int .i64 8,.slice none 0 0,.slice (some ⟨w.heap.size+1+1+1+1+1,0,none⟩) 1 1]:Array Value)[o]?:=by
 have l:Gr w W:=by rw[<-hW];exact((((((((wL _).alloc _).alloc _).alloc _).alloc _).alloc _).alloc _).alloc _)
 have m:W.heap.size=w.heap.size+7:=by rw[<-hW];simp
 have G:Gr (w.alloc (.cells #[.int .i64 8,.int .i64 8] 3)) W:=by rw[<-hW];exact(((((((wL _).alloc _).alloc _).alloc _).alloc _).alloc _).alloc _)
 have H:Gr ((w.alloc (.cells #[.int .i64 8,.int .i64 8] 3)).alloc (.cells #[.int .i64 0,.int .i64 1] 3)) W:=by rw[<-hW];exact((((((wL _).alloc _).alloc _).alloc _).alloc _).alloc _)
 have I:Gr (((w.alloc (.cells #[.int .i64 8,.int .i64 8] 3)).alloc (.cells #[.int .i64 0,.int .i64 1] 3)).alloc (.cells #[.int .i64 2] 3)) W:=by rw[<-hW];exact(((((wL _).alloc _).alloc _).alloc _).alloc _)
 have J:Gr ((((w.alloc (.cells #[.int .i64 8,.int .i64 8] 3)).alloc (.cells #[.int .i64 0,.int .i64 1] 3)).alloc (.cells #[.int .i64 2] 3)).alloc (.cells #[.int .i64 3] 3)) W:=by rw[<-hW];exact((((wL _).alloc _).alloc _).alloc _)
 have K:Gr (((((w.alloc (.cells #[.int .i64 8,.int .i64 8] 3)).alloc (.cells #[.int .i64 0,.int .i64 1] 3)).alloc (.cells #[.int .i64 2] 3)).alloc (.cells #[.int .i64 3] 3)).alloc (.cells #[.int .i64 1,.int .i64 8,.int .i64 2,.slice (some ⟨w.heap.size+1,0,none⟩) 2 2,.int .u32 0,.slice none 0 0,.int .i64 21,.int .i64 8,.int .i64 0,.slice (some ⟨w.heap.size+1+1,0,none⟩) 1 1,.int .u32 0,.slice none 0 0,.int .i64 31,.int .i64 0,.int .i64 0,.slice (some ⟨w.heap.size+1+1+1,0,none⟩) 1 1,.int .u32 0,.slice none 0 0] 67)) W:=by rw[<-hW];exact(((wL _).alloc _).alloc _)
 have L:Gr ((((((w.alloc (.cells #[.int .i64 8,.int .i64 8] 3)).alloc (.cells #[.int .i64 0,.int .i64 1] 3)).alloc (.cells #[.int .i64 2] 3)).alloc (.cells #[.int .i64 3] 3)).alloc (.cells #[.int .i64 1,.int .i64 8,.int .i64 2,.slice (some ⟨w.heap.size+1,0,none⟩) 2 2,.int .u32 0,.slice none 0 0,.int .i64 21,.int .i64 8,.int .i64 0,.slice (some ⟨w.heap.size+1+1,0,none⟩) 1 1,.int .u32 0,.slice none 0 0,.int .i64 31,.int .i64 0,.int .i64 0,.slice (some ⟨w.heap.size+1+1+1,0,none⟩) 1 1,.int .u32 0,.slice none 0 0] 67)).alloc (.cells #[.slice (some ⟨w.heap.size+1+1+1+1,0,none⟩) 3 3] 68)) W:=by rw[<-hW];exact((wL _).alloc _)
 have M:Gr (((((((w.alloc (.cells #[.int .i64 8,.int .i64 8] 3)).alloc (.cells #[.int .i64 0,.int .i64 1] 3)).alloc (.cells #[.int .i64 2] 3)).alloc (.cells #[.int .i64 3] 3)).alloc (.cells #[.int .i64 1,.int .i64 8,.int .i64 2,.slice (some ⟨w.heap.size+1,0,none⟩) 2 2,.int .u32 0,.slice none 0 0,.int .i64 21,.int .i64 8,.int .i64 0,.slice (some ⟨w.heap.size+1+1,0,none⟩) 1 1,.int .u32 0,.slice none 0 0,.int .i64 31,.int .i64 0,.int .i64 0,.slice (some ⟨w.heap.size+1+1+1,0,none⟩) 1 1,.int .u32 0,.slice none 0 0] 67)).alloc (.cells #[.slice (some ⟨w.heap.size+1+1+1+1,0,none⟩) 3 3] 68)).alloc (.cells #[.slice (some ⟨w.heap.size,0,none⟩) 2 2,.int .i64 8,.slice none 0 0,.slice (some ⟨w.heap.size+1+1+1+1+1,0,none⟩) 1 1] 25)) W:=by rw[hW];exact wL _
 have p:∀o,W.cell? ⟨w.heap.size,o,none⟩=(#[.int .i64 8,.int .i64 8]:Array Value)[o]?:=fun o=>cW _ _ o G (by simp);have q:∀o,W.cell? ⟨w.heap.size+1,o,none⟩=(#[.int .i64 0,.int .i64 1]:Array Value)[o]?:=fun o=>cW _ _ o H (by simp);have r:∀o,W.cell? ⟨w.heap.size+1+1,o,none⟩=(#[.int .i64 2]:Array Value)[o]?:=fun o=>cW _ _ o I (by simp);have t:∀o,W.cell? ⟨w.heap.size+1+1+1,o,none⟩=(#[.int .i64 3]:Array Value)[o]?:=fun o=>cW _ _ o J (by simp);have d:∀o,W.cell? ⟨w.heap.size+1+1+1+1,o,none⟩=(#[.int .i64 1,.int .i64 8,.int .i64 2,.slice (some ⟨w.heap.size+1,0,none⟩) 2 2,.int .u32 0,.slice none 0 0,.int .i64 21,.int .i64 8,.int .i64 0,.slice (some ⟨w.heap.size+1+1,0,none⟩) 1 1,.int .u32 0,.slice none 0 0,.int .i64 31,.int .i64 0,.int .i64 0,.slice (some ⟨w.heap.size+1+1+1,0,none⟩) 1 1,.int .u32 0,.slice none 0 0]:Array Value)[o]?:=fun o=>cW _ _ o K (by simp);have u:∀o,W.cell? ⟨w.heap.size+1+1+1+1+1,o,none⟩=(#[.slice (some ⟨w.heap.size+1+1+1+1,0,none⟩) 3 3]:Array Value)[o]?:=fun o=>cW _ _ o L (by simp);have z:∀o,W.cell? ⟨w.heap.size+1+1+1+1+1+1,o,none⟩=(#[.slice (some ⟨w.heap.size,0,none⟩) 2 2,.int .i64 8,.slice none 0 0,.slice (some ⟨w.heap.size+1+1+1+1+1,0,none⟩) 1 1]:Array Value)[o]?:=fun o=>cW _ _ o M (by simp);have g:IntsAt W.heap.size W (.slice none 0 0) []:=⟨none,0,rfl,vV _,by simp,fun h=>by simp at h⟩
 have A:IntsAt W.heap.size W (.slice (some ⟨w.heap.size,0,none⟩) 2 2) [8,8]:=by
  refine⟨_,_,rfl,vV _,by simp,fun _=>⟨_,_,rfl,by omega,fun j y hy=>?_⟩⟩;rw[Nat.zero_add,p]
  match j,hy with
  | 0,hy=>simp at hy;subst hy;rfl
  | 1,hy=>simp at hy;subst hy;rfl
 have B:IntsAt W.heap.size W (.slice (some ⟨w.heap.size+1,0,none⟩) 2 2) [0,1]:=by
  refine⟨_,_,rfl,vV _,by simp,fun _=>⟨_,_,rfl,by omega,fun j y hy=>?_⟩⟩;rw[Nat.zero_add,q]
  match j,hy with
  | 0,hy=>simp at hy;subst hy;rfl
  | 1,hy=>simp at hy;subst hy;rfl
 have C:IntsAt W.heap.size W (.slice (some ⟨w.heap.size+1+1,0,none⟩) 1 1) [2]:=by
  refine⟨_,_,rfl,vV _,by simp,fun _=>⟨_,_,rfl,by omega,fun j y hy=>?_⟩⟩;rw[Nat.zero_add,r]
  match j,hy with
  | 0,hy=>simp at hy;subst hy;rfl
 have D:IntsAt W.heap.size W (.slice (some ⟨w.heap.size+1+1+1,0,none⟩) 1 1) [3]:=by
  refine⟨_,_,rfl,vV _,by simp,fun _=>⟨_,_,rfl,by omega,fun j y hy=>?_⟩⟩;rw[Nat.zero_add,t]
  match j,hy with
  | 0,hy=>simp at hy;subst hy;rfl
 have E:BlkAt W.heap.size W (.slice (some ⟨w.heap.size+1+1+1+1,0,none⟩) 3 3) [Rn.kAdd,Rn.kFreeze,Rn.kRet]:=by
  refine⟨_,_,rfl,vV _,by simp,fun _=>⟨_,_,rfl,by omega,fun j y hy=>?_⟩⟩
  match j,hy with
  | 0,hy=>simp at hy;subst hy;exact⟨_,_,d 0,d 1,d 2,d 3,d 4,d 5,B,g⟩
  | 1,hy=>simp at hy;subst hy;exact⟨_,_,d 6,d 7,d 8,d 9,d 10,d 11,C,g⟩
  | 2,hy=>simp at hy;subst hy;exact⟨_,_,d 12,d 13,d 14,d 15,d 16,d 17,D,g⟩
 have F:BlksAt W.heap.size W (.slice (some ⟨w.heap.size+1+1+1+1+1,0,none⟩) 1 1) [[Rn.kAdd,Rn.kFreeze,Rn.kRet]]:=by
  refine⟨_,_,rfl,vV _,by simp,fun _=>⟨_,_,rfl,by omega,fun j y hy=>?_⟩⟩
  match j,hy with
  | 0,hy=>simp at hy;subst hy;exact⟨_,u 0,E⟩
 exact⟨⟨_,_,_,rfl,A,g,F⟩,l,m,z⟩
theorem tc {w W:World}{b:Nat}{t:TypeId}{zs:List Int}(h:W.heap[b]?=some (.cells (zs.map (Value.int .u32)).toArray t (0,0)))(hn:zs.length<=1000):U32At W.heap.size W (.slice (some ⟨b,0,none⟩) zs.length zs.length) zs :=
 ⟨_,_,rfl,vV _,by omega,fun _=>⟨_,_,rfl,cY h,fun j z hz=>by rw[vX _ _ _ _ _ _ h,Nat.zero_add];simp[hz]⟩⟩
theorem jt (w:World):Calls prog 12 #[] w (RG (.bool true) w):=by
 obtain⟨W,Z⟩:=xJ ((((((((w.alloc (.cells #[.int .i64 8,.int .i64 8] 3)).alloc (.cells #[.int .i64 0,.int .i64 1] 3)).alloc (.cells #[.int .i64 2] 3)).alloc (.cells #[.int .i64 3] 3)).alloc (.cells #[.int .i64 1,.int .i64 8,.int .i64 2,.slice (some ⟨w.heap.size+1,0,none⟩) 2 2,.int .u32 0,.slice none 0 0,.int .i64 21,.int .i64 8,.int .i64 0,.slice (some ⟨w.heap.size+1+1,0,none⟩) 1 1,.int .u32 0,.slice none 0 0,.int .i64 31,.int .i64 0,.int .i64 0,.slice (some ⟨w.heap.size+1+1+1,0,none⟩) 1 1,.int .u32 0,.slice none 0 0] 67)).alloc (.cells #[.slice (some ⟨w.heap.size+1+1+1+1,0,none⟩) 3 3] 68)).alloc (.cells #[.slice (some ⟨w.heap.size,0,none⟩) 2 2,.int .i64 8,.slice none 0 0,.slice (some ⟨w.heap.size+1+1+1+1+1,0,none⟩) 1 1] 25)));obtain⟨U,X,K,Y⟩:=uQ w Z;have Q:=dJ U;have F:=dJ X;have y:Hid (∀wr,Gr W wr->∀o,wr.cell? ⟨w.heap.size+1+1+1+1+1+1,o,none⟩=(#[.slice (some ⟨w.heap.size,0,none⟩) 2 2,.int .i64 8,.slice none 0 0,.slice (some ⟨w.heap.size+1+1+1+1+1,0,none⟩) 1 1]:Array Value)[o]?):=fun wr g o=>(g.cell _ _ (by omega)).trans (Y o)
 have O:Hid (∀m,Gr W m->m.heap[W.heap.size]?=some (.cells #[.int .u32 127,.int .u32 1] 35 (0,0))->Calls prog 20 #[ue w,.agg #[.slice (some ⟨W.heap.size,0,none⟩) 2 2,.slice none 0 0]] m fun e w'=>∃A c,e=.returned (.tuple #[.slice A (256:Nat) c,.int .i64 0])/\Gr m w'):=fun m g h=>by
  refine(sN (f:=Rn.kFn) (i:=Rn.kInp) ((Q.out.below g).mono g.size) sF ut (tc (zs:=[127,1]) (w:=w) h (by decide)) ⟨none,0,rfl,vV _,by decide,fun h=>absurd h (by decide)⟩ (by decide)).mono ?_;rintro e w' ⟨B,p⟩;rcases B with ⟨q,-⟩|⟨-,q,-⟩|⟨-,outs,q,-,-,v,D,aa,rfl,ho⟩
  ·exact absurd Rn.k_valid q
  ·have:=Rn.k_all;rw[q]at this;cases this
  ·have hl:=Rn.k_all;rw[q]at hl;have L:outs.length=256:=by simpa using hl
   obtain⟨A,c,rfl,-⟩:=dU ho.own;rw[L];exact⟨A,c,rfl,p⟩
 have R:Hid (∀j G H,Gr W j->j.heap[G]?=some (.cells #[.int .u32 127,.int .u32 1] 35 (0,0))->j.heap[H]?=some (.cells #[.int .u32 258] 35 (0,0))->Calls prog 16 #[ue w,.agg #[.slice (some ⟨G,0,none⟩) 2 2,.slice none 0 0],.slice (some ⟨H,0,none⟩) 1 1] j fun e w'=>∃A c,e=.returned (.tuple #[.agg #[.int .i64 0,.bool false,.int .i64 0,.int .u32 2,.slice A (0:Nat) c],.int .i64 1,.int .i64 0])/\Gr j w'):=fun j G H g h h'=>by
  refine(tH (f:=Rn.kFn) (i:=Rn.kInp) (picks:=[258]) ((Q.out.below g).mono g.size) sF ut (tc (zs:=[127,1]) (w:=w) h (by decide)) ⟨none,0,rfl,vV _,by decide,fun h=>absurd h (by decide)⟩ (by decide) (tc (zs:=[258]) (w:=w) h' (by decide)) (by decide)).mono ?_;rintro e w' ⟨B,p⟩;rcases B with ⟨q,-⟩|⟨-,vx,D,rfl,hk,-⟩
  ·exact absurd Rn.k_valid q
  ·obtain⟨r1,r2⟩:=Rn.k_run;have r3:Rn.wids Rn.kFn Rn.kInp [258]=[8]:=r2;obtain⟨-,⟨A,c,rfl⟩,-⟩:=hk;rw[r1,r3];exact⟨A,c,rfl,p⟩
 unfold ue at O R;obtain⟨k0,k1,k2,k3⟩:=And.intro (y.out W (wL _) 0) (And.intro (y.out W (wL _) 1) (And.intro (y.out W (wL _) 2) (y.out W (wL _) 3)));clear U X K Y
 go_enter func12, ntmps12
 go_wp2_with (first
   | (go_at_call 20
      obtain⟨m,r⟩:=xJ (W.alloc (.cells #[.int .u32 127,.int .u32 1] 35))
      have I:Gr W m:=by rw[<-r];exact(wL _).alloc _
      have p:m.heap[W.heap.size]?=some (.cells #[.int .u32 127,.int .u32 1] 35 (0,0)):=by rw[<-r];exact heap_alloc_new _ _
      rw[r]
      have M:=O.out m I p
      (with_reducible refine M.mono ?_)
      rintro e u ⟨A,c,rfl,S⟩
      have d:=dJ (I.trans S)
      have j0:=y.out u d.out 0
      have j1:=y.out u d.out 1
      have j2:=y.out u d.out 2
      have j3:=y.out u d.out 3
      clear I p M S r)
   | (go_at_call 16
      obtain⟨C,l⟩:=xJ (u.alloc (.cells #[.int .u32 127,.int .u32 1] 35))
      obtain⟨j,t⟩:=xJ (C.alloc (.cells #[.int .u32 258] 35))
      have J:Gr u C:=by rw[<-l];exact(wL _).alloc _
      have E:Gr C j:=by rw[<-t];exact(wL _).alloc _
      have s4:C.heap.size=u.heap.size+1:=by rw[<-l];simp
      have B:j.heap[u.heap.size]?=some (.cells #[.int .u32 127,.int .u32 1] 35 (0,0)):=(E.heap _ (by omega)).trans (by rw[<-l];exact heap_alloc_new _ _)
      have p:j.heap[u.heap.size+1]?=some (.cells #[.int .u32 258] 35 (0,0)):=by rw[<-t,<-s4];exact heap_alloc_new _ _
      rw[l,t]
      have N:=R.out j _ _ ((d.out.trans J).trans E) B p
      (with_reducible refine N.mono ?_)
      rintro e w6 ⟨A6,c6,rfl,T⟩
      have z:=dJ (((d.out.trans J).trans E).trans T)
      clear J E B p N T l t s4))
 go_ret
 first
  | exact⟨rfl,F.out.trans (z.out.alloc _)⟩
  | exact⟨rfl,F.out.trans ((z.out.alloc _).drew)⟩
  | exact⟨rfl,F.out.trans ((z.out.alloc _).drewN _)⟩
end
section
open Go.RowKit Go.Deep Go.ChangeShapes Go.WideShapes
section
variable {H:Type}{enc:TypeId × Value->H}{w:World}
theorem iU {fuel:Nat}{v:Value}{x:DataW H × List MemPlace}(h:DataW.trod enc prog w 0 (fun _=>true) true fuel 26 [v]=some x):∃zs,ArgsAt w v zs:=by
 rcases open_ints underlying26 underlying35 (by kernel_rfl) h with ⟨g,-⟩|⟨a,l,c,zs,g,-,hl,u,C,rfl,d,y⟩
 ·obtain rfl:v=.slice none 0 0:=by simpa using g
  exact⟨[],⟨none,0,rfl,by simp,by simp⟩,fun _=>⟨none,0,rfl,by simp,by simp,by simp⟩,by simp⟩
 ·obtain rfl:v=.slice (some a) l c:=by simpa using g
  simp only[if_true]at C;have hlen:(zs.take l).length=l:=by simp;omega
  have D:c<=9223372036854775807:=u;refine⟨zs.take l,⟨some a,c,by rw[hlen],by rw[hlen];exact hl,by rw[hlen];omega⟩,fun B=>⟨some a,c,by rw[hlen],by rw[hlen];exact hl,by omega,fun A=>?_⟩,fun z hz'=>by have:=bounds_u32 (y z (List.mem_of_mem_take hz'));omega⟩;rw[hlen]at A;have p:=d 0 (by omega);obtain⟨b,off,q⟩:=a;have m:q=none:=by simpa[Addr.add] using World.cell?_spot p
  subst m;refine⟨b,off,rfl,by simpa[Addr.add] using ij p,fun j z r=>?_⟩
  have t:j<l:=by have:=(yC.1 r).1;rw[hlen]at this;exact this
  rw[vL,wa t]at r;have:=d j (by omega);rw[add_plain]at this;simpa[List.getD,r] using this
theorem sn {fuel:Nat}{v:Value}{x:DataW H × List MemPlace}(h:DataW.trod enc prog w 0 (fun _=>true) true fuel 27 [v]=some x)
  (hw:∀m∈x.1.weights prog 27,m<=reachBytes):∃t,TabAt w.heap.size w v t:=by
 have C:Program.cellsOf prog 22=1:=by kernel_rfl
 have L:Program.bytesOf prog 22=24:=by kernel_rfl
 have M:reachBytes=0x7ffffffff000:=rfl;rcases open_slice1 underlying27 C h with ⟨g,-⟩|⟨a,l,c,m,n,V,D,N,g,-,hl,-,I,rfl,E⟩
 ·obtain rfl:v=.slice none 0 0:=by simpa using g
  exact⟨[],⟨none,0,rfl,by simp,by simp,by simp⟩⟩
 ·obtain rfl:v=.slice (some a) l c:=by simpa using g
  simp only[if_true]at I;subst I;have A:=hw _ (by simp only[DataW.weights,underlying27];exact List.mem_cons_self);simp only[vS,List.length_range]at A;rw[L,M]at A
  obtain⟨X,K⟩:=choose_lt (α:=List Int) (n:=l) (p:=fun i X=>IntsAt w.heap.size w (V i) X) (fun i hi=>by
    obtain⟨zs,F,-⟩:=fp (E i (by omega)).2 (fun k hk=>hw k (by
      simp only[DataW.weights,underlying27]
      refine List.mem_cons_of_mem _ (yE.2 (Or.inl (eC (d:=D i) (List.mem_map.2 ⟨i,List.mem_range.2 hi,rfl⟩) hk)))))
    exact⟨zs,F⟩)
  have hlen:((List.range l).map X).length=l:=by simp
  refine⟨(List.range l).map X,⟨some a,m,by rw[hlen],by rw[hlen];exact hl,by rw[hlen];omega,fun J=>?_⟩⟩;rw[hlen]at J;have u:=(E 0 (by omega)).1;obtain⟨b,off,B⟩:=a;have r:B=none:=by simpa[Addr.add] using World.cell?_spot u
  subst r;refine⟨b,off,rfl,by simpa[Addr.add] using ij u,fun j z G=>?_⟩
  have y:j<l:=by have:=(yC.1 G).1;rw[hlen]at this;exact this
  obtain rfl:X j=z:=by simpa[y] using G
  have q:=(E j (by omega)).1;rw[add_plain]at q;exact⟨V j,q,K j y⟩
theorem mL {v:Value}{d:DataW H}{p:List MemPlace}(hv:Value.okWide prog w .any 0 29 v)(h:DataW.Trod enc prog w 0 (fun _=>true) true 29 v d p)
  (hw:∀m∈d.weights prog 29,m<=reachBytes):∃(i:Rn.Inp)(va vm:Value),v=.agg #[va,vm]/\ArgsAt w va i.args/\TabAt w.heap.size w vm i.mem:=by
 obtain⟨v0,r,u,y,n,rfl,rfl,-,g,j⟩:=Go.Joins.open_agg2 underlying29 (by kernel_rfl) (by kernel_rfl) hv h;obtain⟨zs,l⟩:=iU g;obtain⟨t,q⟩:=sn j (fun m hm=>hw m (by simp[DataW.weights,underlying29,DataW.weightsEach,hm]));exact⟨⟨zs,t⟩,v0,r,rfl,l,q⟩
theorem tU {f:Fn}(hs:∀l∈f.blocks,∀z∈l,sC z):Rn.Im f:=fun l hl x d=>(hs l hl x d).1
end
end
section
open Go.RowKit
def Kt (w w':World):Prop:=∀(k:Nat)(c:Array Value)(t:TypeId),w.heap[k]?=some (Obj.cells c t (0,0))->(t=3\/t=67)->w'.heap[k]?=some (Obj.cells c t (0,0))
theorem Kt.refl (w:World):Kt w w:=fun _ _ _ h _=>h
theorem Kt.trans {a b c:World}(h:Kt a b)(k:Kt b c):Kt a c:=fun _ _ _ q t=>k _ _ _ (h _ _ _ q t) t
theorem Gr.kt {a b:World}(h:Gr a b):Kt a b:=fun k _ _ q _=>(h.heap k (vE.1 q).1).trans q
def TI (n₀:Nat)(w:World)(v:Value)(zs:List Int):Prop :=
 ∃A c,v=.slice A zs.length c/\zs.length<=c/\zs.length<=17592186044416/\(0<zs.length->∃(b:Nat)(cur:Array Value),A=some ⟨b,0,none⟩/\n₀<=b/\w.heap[b]?=some (.cells cur 3 (0,0))/\∀(j:Nat)(z:Int),zs[j]?=some z->cur[j]?=some (.int .i64 z))
theorem TI.kt {n₀:Nat}{w w':World}{v:Value}{zs:List Int}(h:TI n₀ w v zs)(k:Kt w w'):TI n₀ w' v zs:=by obtain⟨A,c,rfl,g,j,l⟩:=h;refine⟨A,c,rfl,g,j,fun q=>?_⟩;obtain⟨b,d,e,m,p,r⟩:=l q;exact⟨b,d,e,m,k _ _ _ p (.inl rfl),r⟩
theorem TI.gr {n₀:Nat}{w w':World}{v:Value}{zs:List Int}(h:TI n₀ w v zs)(k:Gr w w'):TI n₀ w' v zs:=h.kt k.kt
theorem TI.lower {n₀ n₁:Nat}{w:World}{v:Value}{zs:List Int}(h:TI n₁ w v zs)(k:n₀<=n₁):TI n₀ w v zs:=by obtain⟨A,c,rfl,g,j,l⟩:=h;refine⟨A,c,rfl,g,j,fun q=>?_⟩;obtain⟨b,d,e,m,p⟩:=l q;exact⟨b,d,e,Nat.le_trans k m,p⟩
theorem TI.ints {n₀:Nat}{w:World}{v:Value}{zs:List Int}(h:TI n₀ w v zs):IntsAt w.heap.size w v zs:=by obtain⟨A,c,rfl,l,m,p⟩:=h;refine⟨A,c,rfl,l,m,fun r=>?_⟩;obtain⟨b,d,rfl,u,g,t⟩:=p r;exact⟨b,0,rfl,(vE.1 g).1,fun j z q=>by rw[Nat.zero_add,vX w b j d _ _ g];exact t j z q⟩
theorem xj {cur:Array Value}{n j:Nat}{xs:List Value}(h:cur.toList.take n=xs)(hj:j<n):cur[j]?=xs[j]?:=by rw[<-h,vL,wa hj];simp
theorem Own1.ti {B:Nat}{w:World}{v:Value}{zs:List Int}(h:Own1 B 3 w v (zs.map (Value.int .i64)))(hn:zs.length<=17592186044416):TI B w v zs:=by
 rcases h.2 with ⟨rfl,p⟩|⟨g,l,m,rfl,r,t,d,_,_,q⟩
 ·rw[vS]at p;obtain rfl:=wu p;exact⟨none,0,rfl,by simp,by simp,by simp⟩
 ·rw[vS]at d q;refine⟨_,l,by rw[vS],d,hn,fun y=>⟨g,m,rfl,r,t,fun j z hj=>?_⟩⟩;have u:=(yC.1 hj).1;rw[xj q (by omega),vH,hj];rfl
def Six (n₀:Nat)(w:World)(g:Nat->Option Value)(x:Ins):Prop :=
 ∃va vt,g 0=some (.int .i64 x.op)/\g 1=some (.int .i64 x.width)/\g 2=some (.int .i64 x.flags)/\g 3=some va/\g 4=some (.int .u32 x.imm)/\g 5=some vt/\TI n₀ w va x.args/\TI n₀ w vt x.to
theorem Six.kt {n₀:Nat}{w w':World}{g:Nat->Option Value}{x:Ins}(h:Six n₀ w g x)(k:Kt w w'):Six n₀ w' g x:=by obtain⟨va,vt,d,j,l,m,p,q,r,t⟩:=h;exact⟨va,vt,d,j,l,m,p,q,r.kt k,t.kt k⟩
theorem Six.lower {n₀ n₁:Nat}{w:World}{g:Nat->Option Value}{x:Ins}(h:Six n₁ w g x)(k:n₀<=n₁):Six n₀ w g x:=by obtain⟨va,vt,d,j,l,m,p,q,r,t⟩:=h;exact⟨va,vt,d,j,l,m,p,q,r.lower k,t.lower k⟩
theorem Six.to {n₀:Nat}{w:World}{g g':Nat->Option Value}{x:Ins}(h:Six n₀ w g x)(k:∀i,i<6->g' i=g i):Six n₀ w g' x:=by obtain⟨va,vt,d,j,l,m,p,q,r,t⟩:=h;exact⟨va,vt,(k 0 (by omega)).trans d,(k 1 (by omega)).trans j,(k 2 (by omega)).trans l,(k 3 (by omega)).trans m,(k 4 (by omega)).trans p,(k 5 (by omega)).trans q,r,t⟩
def TB (n₀:Nat)(w:World)(v:Value)(l:List Ins):Prop :=
 ∃A c,v=.slice A l.length c/\l.length<=c/\l.length<=17592186044416/\(0<l.length->∃(b:Nat)(cur:Array Value),A=some ⟨b,0,none⟩/\n₀<=b/\w.heap[b]?=some (.cells cur 67 (0,0))/\∀(j:Nat)(x:Ins),l[j]?=some x->Six n₀ w (fun i=>cur[j*6+i]?) x)
theorem TB.kt {n₀:Nat}{w w':World}{v:Value}{l:List Ins}(h:TB n₀ w v l)(k:Kt w w'):TB n₀ w' v l:=by obtain⟨A,c,rfl,g,m,p⟩:=h;refine⟨A,c,rfl,g,m,fun u=>?_⟩;obtain⟨b,d,e,q,r,y⟩:=p u;exact⟨b,d,e,q,k _ _ _ r (.inr rfl),fun j x t=>(y j x t).kt k⟩
theorem TB.gr {n₀:Nat}{w w':World}{v:Value}{l:List Ins}(h:TB n₀ w v l)(k:Gr w w'):TB n₀ w' v l:=h.kt k.kt
theorem TB.lower {n₀ n₁:Nat}{w:World}{v:Value}{l:List Ins}(h:TB n₁ w v l)(k:n₀<=n₁):TB n₀ w v l:=by obtain⟨A,c,rfl,g,m,p⟩:=h;refine⟨A,c,rfl,g,m,fun u=>?_⟩;obtain⟨b,d,e,q,r,y⟩:=p u;exact⟨b,d,e,Nat.le_trans k q,r,fun j x t=>(y j x t).lower k⟩
theorem TB.blk {n₀:Nat}{w:World}{v:Value}{l:List Ins}(h:TB n₀ w v l):BlkAt w.heap.size w v l:=by
 obtain⟨A,c,rfl,p,q,r⟩:=h;refine⟨A,c,rfl,p,q,fun y=>?_⟩;obtain⟨b,g,rfl,I,m,B⟩:=r y;refine⟨b,0,rfl,(vE.1 m).1,fun j x u=>?_⟩;obtain⟨va,vt,C,D,E,F,G,H,t,z⟩:=B j x u;have d:∀i,w.cell? ⟨b,0+j*6+i,none⟩=g[j*6+i]?:=fun i=>by rw[Nat.zero_add];exact vX w b _ g _ _ m
 exact⟨va,vt,(d 0).trans C,(d 1).trans D,(d 2).trans E,(d 3).trans F,(d 4).trans G,(d 5).trans H,t.ints,z.ints⟩
def OwnI (n₀ B:Nat)(w:World)(v:Value)(l:List Ins):Prop :=
 ∃rows:List Value,w.ownsRow B 67 6 v l.length rows/\∀(j:Nat)(x:Ins),l[j]?=some x->Six n₀ w (fun i=>rows[j*6+i]?) x
theorem OwnI.nil (n₀ B:Nat)(w:World):OwnI n₀ B w (.slice none 0 0) []:=⟨[],World.ownsRow_nil _ _ _ _,fun j x h=>by simp at h⟩
theorem OwnI.gr {n₀ B:Nat}{w w':World}{v:Value}{l:List Ins}(h:OwnI n₀ B w v l)(g:Gr w w'):OwnI n₀ B w' v l:=by obtain⟨rows,d,m⟩:=h;exact⟨rows,ew d g,fun j x p=>(m j x p).kt g.kt⟩
theorem OwnI.tb {n₀ B:Nat}{w:World}{v:Value}{l:List Ins}(h:OwnI n₀ B w v l)(hn:l.length<=17592186044416)(hB:n₀<=B):TB n₀ w v l:=by
 obtain⟨rows,r,t⟩:=h;rcases r.2 with ⟨rfl,q⟩|⟨g,d,m,rfl,u,y,p,_,_,A⟩
 ·obtain rfl:=wu q;exact⟨none,0,rfl,by simp,by simp,by simp⟩
 ·refine⟨_,d,rfl,p,hn,fun D=>⟨g,m,rfl,Nat.le_trans hB u,y,fun j x hj=>?_⟩⟩;have z:=(yC.1 hj).1;exact(t j x hj).to fun i C=>xj A (by omega)
theorem OwnI.form {n₀ B:Nat}{w:World}{v:Value}{l:List Ins}(h:OwnI n₀ B w v l):∃A c,v=.slice A l.length c:=by obtain⟨rows,d,-⟩:=h;obtain⟨A,c,hv,_⟩:=dU d;exact⟨A,c,hv⟩
theorem OwnI.snoc {n₀ B:Nat}{w w':World}{v v':Value}{l:List Ins}{x:Ins}{va vt:Value}{tmp:Obj}{rows:List Value}(h:OwnI n₀ B w v l)(hr:w.ownsRow B 67 6 v l.length rows)(h2:∀(j:Nat)(x:Ins),l[j]?=some x->Six n₀ w (fun i=>rows[j*6+i]?) x)
  (hown:w'.ownsRow B 67 6 v' (l.length+1) (rows++[.int .i64 x.op,.int .i64 x.width,.int .i64 x.flags,va,.int .u32 x.imm,vt])) (hg:(w.alloc tmp).grownBy w' v.ownBlock) (ha:TI n₀ w va x.args) (ht:TI n₀ w vt x.to) (hB:B<=w.heap.size) :
  OwnI n₀ B w' v' (l++[x])/\Below B w w':=by
 have u:∀(k:Nat)(c:Array Value),w.heap[k]?=some (Obj.cells c 3 (0,0))->w'.heap[k]?=some (Obj.cells c 3 (0,0)):=by
  intro k c p;have D:=(vE.1 p).1;refine(hg.block k (by simp;omega) (fun e=>?_)).trans ((((wL w).alloc tmp).heap k D).trans p);rcases hr.2 with ⟨rfl,_⟩|⟨g,I,t,rfl,z,C,_⟩
  ·simp[Value.ownBlock]at e
  ·simp[Value.ownBlock]at e;subst e;rw[C]at p;simp at p
 have m:∀{v:Value} {zs:List Int},TI n₀ w v zs->TI n₀ w' v zs:=by intro v zs q;obtain⟨A,c,rfl,F,G,H⟩:=q;refine⟨A,c,rfl,F,G,fun J=>?_⟩;obtain⟨b,t,e,z,p,K⟩:=H J;exact⟨b,t,e,z,u _ _ p,K⟩
 have E:rows.length=l.length*6:=hr.1;refine⟨⟨_,by rw[vW];exact hown,fun j y r=>?_⟩,?_⟩
 ·rcases Nat.lt_trichotomy j l.length with d|d|d
  ·rw[vJ d]at r;obtain⟨Q,R,L,F,G,H,M,N,O,P⟩:=h2 j y r;have:∀i,i<6->(rows++[Value.int .i64 x.op,.int .i64 x.width,.int .i64 x.flags,va,.int .u32 x.imm,vt])[j*6+i]?=rows[j*6+i]?:=fun i hi=>vJ (by omega);exact Six.to ⟨Q,R,L,F,G,H,M,N,m O,m P⟩ this
  ·subst d;simp at r;subst r
   have:∀i,i<6->(rows++[Value.int .i64 x.op,.int .i64 x.width,.int .i64 x.flags,va,.int .u32 x.imm,vt])[l.length*6+i]?=[Value.int .i64 x.op,.int .i64 x.width,.int .i64 x.flags,va,.int .u32 x.imm,vt][i]?:=fun i hi=>by rw[vK (by omega),E];congr 1;omega
   exact Six.to ⟨va,vt,rfl,rfl,rfl,rfl,rfl,rfl,m ha,m ht⟩ this
  ·rw[vP (by simp;omega)]at r;cases r
 ·have z:∀k,v.ownBlock=some k->B<=k:=fun k u=>(dx hr k u).1;exact(((Below.refl B w).alloc hB tmp)).grown hg (by simp;omega) (fun k u=>z k u)
theorem heap_setCell_ne' {W:World}{B i C:Nat}(v:Value)(h:B≠C):(W.setCell ⟨B,i,none⟩ v).heap[C]?=W.heap[C]?:=by show (W.heap.modify B _)[C]?=_;rw[Array.getElem?_modify,yD h]
theorem qy (fn:Func)(tmps:Array Value)(t:Nat)(w:World)(B:Nat)(v0 v1 v2 v3 v4 v5:Value)(fr:Nat × Nat)(h:fn.results=#[.cell t 67])(ht:tmps[t]?.getD undef=.pointer (some ⟨B,0,none⟩))(hb:w.heap[B]?=some (.cells #[v0,v1,v2,v3,v4,v5] 67 fr))
  (o0:∃z,v0=.int .i64 z) (o1:∃z,v1=.int .i64 z) (o2:∃z,v2=.int .i64 z) (o3:∃a n c,v3=.slice a n c) (o4:∃z,v4=.int .u32 z) (o5:∃a n c,v5=.slice a n c) :
  (results fn tmps).run prog w=.ok (.agg #[v0,v1,v2,v3,v4,v5]) w:=by
 obtain⟨d,g,j,l,m,p⟩:=crw6 hb 0 1 2 3 4 5;obtain⟨z0,rfl⟩:=o0;obtain⟨A,rfl⟩:=o1;obtain⟨C,rfl⟩:=o2;obtain⟨a3,u,q,rfl⟩:=o3;obtain⟨z4,rfl⟩:=o4;obtain⟨a5,y,r,rfl⟩:=o5;simp[results,h,ht,go_sem,d,g,j,l,m,p]
theorem nx {W:World}{B:Nat}{u0 u1 u2 u3 u4 u5:Value}{T:TypeId}{fr:Nat × Nat}(h:W.heap[B]?=some (.cells #[u0,u1,u2,u3,u4,u5] T fr))(v0 v1 v2 v3 v4 v5:Value) :
  ((((((W.setCell ⟨B,0,none⟩ v0).setCell ⟨B,1,none⟩ v1).setCell ⟨B,2,none⟩ v2).setCell ⟨B,3,none⟩ v3).setCell ⟨B,4,none⟩ v4).setCell ⟨B,5,none⟩ v5).heap[B]?=some (.cells #[v0,v1,v2,v3,v4,v5] T fr):=by
 have:=cX (i:=5) v5 (cX (i:=4) v4 (cX (i:=3) v3 (cX (i:=2) v2 (cX (i:=1) v1 (cX (i:=0) v0 h)))));simpa using this
theorem xt {W:World}{B:Nat}{n₀:Nat}{row:Array Value}{T:TypeId}{fr:Nat × Nat}{v:Value}{zs:List Int}(hb:W.heap[B]?=some (.cells row T fr))(h:TI n₀ W v zs)(hT:T≠3)(v0 v1 v2 v3 v4 v5:Value) :
  TI n₀ ((((((W.setCell ⟨B,0,none⟩ v0).setCell ⟨B,1,none⟩ v1).setCell ⟨B,2,none⟩ v2).setCell ⟨B,3,none⟩ v3).setCell ⟨B,4,none⟩ v4).setCell ⟨B,5,none⟩ v5) v zs:=by
 obtain⟨A,c,rfl,m,p,q⟩:=h;refine⟨A,c,rfl,m,p,fun r=>?_⟩;obtain⟨b,g,e,j,l,t⟩:=q r;have d:B≠b:=fun e'=>by rw[e',l]at hb;cases hb;exact hT rfl
 refine⟨b,g,e,j,?_,t⟩;rw[heap_setCell_ne' _ d,heap_setCell_ne' _ d,heap_setCell_ne' _ d,heap_setCell_ne' _ d,heap_setCell_ne' _ d,heap_setCell_ne' _ d];exact l
theorem xM:(prog.info? 67).map (fun i=>(i.zero,i.size,i.bytes))=some (some (.agg #[.int .i64 0,.int .i64 0,.int .i64 0,.slice none 0 0,.int .u32 0,.slice none 0 0]),6,80):=by kernel_rfl
theorem xX:(prog.info? 68).map (fun i=>(i.zero,i.size,i.bytes))=some (some (.slice none 0 0),1,24):=by kernel_rfl
def CInv (w wb:World)(Bo:Nat)(f:Fn)(vp vs:Value)(row:Array Value)(k:Nat)(vb:Value)(wr:World):Prop :=
 ∃us:List Value,wr.heap[Bo]?=some (.cells #[vp,.int .i64 f.ret,vs,vb] 25 (0,0))/\Own1 wb.heap.size 68 wr vb us/\us.length=k/\(∀(j:Nat)(l:List Ins),j<k->f.blocks[j]?=some l->∃u,us[j]?=some u/\TB w.heap.size wr u l) /\
  TI w.heap.size wr vp f.params/\TI w.heap.size wr vs f.slots/\Gr w wr/\wr.heap[w.heap.size]?=some (.cells row 25 (0,0))/\wr.heap[w.heap.size+1]?=some (.cells #[.slice none 0 0,.int .i64 0,.slice none 0 0,.slice none 0 0] 25 (0,0)) /\
  wb.heap.size<=wr.heap.size/\w.heap.size+1<Bo/\w.heap.size<=wb.heap.size
section
variable {w wb wr wr':World}{Bo:Nat}{f:Fn}{vp vs vb:Value}{row:Array Value}{k:Nat}
theorem CInv.gr (h:CInv w wb Bo f vp vs row k vb wr)(g:Gr wr wr'):CInv w wb Bo f vp vs row k vb wr':=by obtain⟨us,r,t,y,z,A,B,C,D,E,d,m,p⟩:=h;have hh:∀{b:Nat} {o:Obj},wr.heap[b]?=some o->wr'.heap[b]?=some o:=fun q=>(g.heap _ (vE.1 q).1).trans q;refine⟨us,hh r,t.gr g,y,fun j l F hl=>?_,A.gr g,B.gr g,C.trans g,hh D,hh E,Nat.le_trans d g.size,m,p⟩;obtain⟨u,G,H⟩:=z j l F hl;exact⟨u,G,H.gr g⟩
theorem CInv.box (h:CInv w wb Bo f vp vs row k vb wr):wr.heap[Bo]?=some (.cells #[vp,.int .i64 f.ret,vs,vb] 25 (0,0)):=h.choose_spec.1
theorem CInv.toGr (h:CInv w wb Bo f vp vs row k vb wr):Gr w wr:=by obtain⟨us,-,-,-,-,-,-,d,-⟩:=h;exact d
theorem CInv.src (h:CInv w wb Bo f vp vs row k vb wr):wr.heap[w.heap.size]?=some (.cells row 25 (0,0)):=by obtain⟨us,-,-,-,-,-,-,-,d,-⟩:=h;exact d
theorem CInv.res (h:CInv w wb Bo f vp vs row k vb wr):wr.heap[w.heap.size+1]?=some (.cells #[.slice none 0 0,.int .i64 0,.slice none 0 0,.slice none 0 0] 25 (0,0)):=by obtain⟨us,-,-,-,-,-,-,-,-,d,-⟩:=h;exact d
theorem CInv.form (h:CInv w wb Bo f vp vs row k vb wr):∃A c,vb=.slice A k c:=by obtain⟨us,-,d,g,-⟩:=h;obtain⟨A,c,e⟩:=d.form;exact⟨A,c,by rw[e,g]⟩
theorem CInv.append {ops:Array Oper}{rest:List Oper}{o:Oper}{a:Act}{Q:Exit->Act->World->Prop}{i:TypeInfo}{z u:Value}{l:List Ins}(h:CInv w wb Bo f vp vs row k vb wr)(hu:TB w.heap.size wr u l)(hl:f.blocks[k]?=some l)(hk:k<1000000000)
  (hi:prog.info? 68=some i) (hz:i.zero=some z) (hsize:i.size=1) (hby:i.bytes=24) (hzs:z.cells.size=1)
  (hgd:o.guard=none) (s x:Operand) (ho:o.op=.call {callee:=.builtin .append,args:=#[s,x],argTypes:=#[23,23]}) (hs:a.eval s=vb) (hx:a.eval x=.slice (some ⟨wr.heap.size,0,none⟩) 1 1) {e':TypeId}
  (hK:∀g c w1,w1.heap[Bo]?=some (.cells #[vp,.int .i64 f.ret,vs,vb] 25 (0,0))->CInv w wb Bo f vp vs row (k+1) (.slice (some ⟨g,0,none⟩) (k+1) c) (w1.setCell ⟨Bo,3,none⟩ (.slice (some ⟨g,0,none⟩) (k+1) c))->wpList prog ops Q rest (a.put o.dst (.slice (some ⟨g,0,none⟩) (k+1) c)) w1) :
  wpList prog ops Q (o::rest) a (wr.alloc (.cells #[u] e')):=by
 obtain⟨us,I,J,F,U,W,X,K,Y,Z,T,E,r⟩:=h;have H:=hu;obtain⟨B,C,rfl,-,-,-⟩:=hu;refine dG hgd s x 23 ho wb.heap.size 68 i z 1 24 underlying23 hi hz hsize hby hzs (by omega) vb us.length us hs (ew J ((wL _).alloc _)) _ 1 [.slice B l.length C] hx (wM _ _ _) ?_ ?_ ?_ ?_ ?_
 ·intro y N;simp at N;subst N;rfl
 ·simp only[maxLen];omega
 ·omega
 ·simp;omega
 ·intro v' w1 d L G;obtain⟨g,c,rfl⟩:=ownsRow_succ d;have m:Own1 wb.heap.size 68 w1 (.slice (some ⟨g,0,none⟩) (us.length+1) c) (us++[.slice B l.length C]):=by unfold Own1;rw[vW];exact d
  obtain⟨m1,O,R,m4,m5,m6,S,D⟩:=eS (i:=3) (n₀:=wb.heap.size) (ys:=us++[.slice B l.length C]) I (by decide) J m L G;rw[F]at m O R S D ⊢;have M:wr.heap.size<=w1.heap.size:=by have:=L.size;simp at this;omega
  have p:Kt wr (w1.setCell ⟨Bo,3,none⟩ (.slice (some ⟨g,0,none⟩) (k+1) c)):=fun b cc t hb ht=>D b cc t hb (by rcases ht with rfl|rfl<;>decide) (fun e=>by rw[e,I]at hb;rcases ht with rfl|rfl<;>cases hb)
  refine hK g c w1 m1 ⟨us++[.slice B l.length C],O,R,by simp[F],fun j l' hj q=>?_,W.kt p,X.kt p,K.below (S w.heap.size r (by omega) K.size) (vV _),D _ _ _ Y (by decide) (by omega),D _ _ _ Z (by decide) (by omega),?_,E,r⟩
  ·rcases wh j k with A|A
   ·obtain⟨u',q1,q2⟩:=U j l' A q;exact⟨u',by rw[vJ (by omega)];exact q1,q2.kt p⟩
   ·obtain rfl:j=k:=by omega
    rw[hl]at q;cases q;exact⟨_,by rw[<-F];simp,H.kt p⟩
  ·have:=(KeepsWalks.setCell w1 ⟨Bo,3,none⟩ (.slice (some ⟨g,0,none⟩) (k+1) c)).size;omega
def CpAt (n₀:Nat)(w:World)(v:Value)(f:Fn):Prop :=
 ∃vp vs vb us,v=.agg #[vp,.int .i64 f.ret,vs,vb]/\TI n₀ w vp f.params/\TI n₀ w vs f.slots/\Own1 n₀ 68 w vb us/\us.length=f.blocks.length/\∀(j:Nat)(l:List Ins),f.blocks[j]?=some l->∃u,us[j]?=some u/\TB n₀ w u l
theorem CpAt.fn {n₀:Nat}{v:Value}(h:CpAt n₀ w v f)(hn:f.blocks.length<=17592186044416):FnAt w.heap.size w v f:=by obtain⟨vp,vs,vb,us,rfl,m,p,g,q,r⟩:=h;refine⟨vp,vs,vb,rfl,m.ints,p.ints,?_⟩;obtain⟨A,c,hv,B,_,_⟩:=dU g;refine⟨A,c,by rw[hv,q],by omega,hn,fun D=>?_⟩;obtain⟨b,rfl,t,_,d⟩:=dz g hv (by omega);refine⟨b,0,rfl,t,fun j l hl=>?_⟩;obtain⟨u,y,z⟩:=r j l hl;have C:=(yC.1 hl).1;exact⟨u,by rw[Nat.zero_add,d j (by omega),y],z.blk⟩
end
theorem xD (fn:Func)(tmps:Array Value)(t:Nat)(w:World)(B:Nat)(v0 v1 v2 v3:Value)(fr:Nat × Nat)(h:fn.results=#[.cell t 25])(ht:tmps[t]?.getD undef=.pointer (some ⟨B,0,none⟩))(hb:w.heap[B]?=some (.cells #[v0,v1,v2,v3] 25 fr))
  (o0:∃a n c,v0=.slice a n c) (o1:∃z,v1=.int .i64 z) (o2:∃a n c,v2=.slice a n c) (o3:∃a n c,v3=.slice a n c) :
  (results fn tmps).run prog w=.ok (.agg #[v0,v1,v2,v3]) w:=by
 obtain⟨d,g,j,l⟩:=crw4 hb 0 1 2 3;obtain⟨a0,u,p,rfl⟩:=o0;obtain⟨C,rfl⟩:=o1;obtain⟨m,y,q,rfl⟩:=o2;obtain⟨a3,A,r,rfl⟩:=o3;simp[results,h,ht,go_sem,d,g,j,l]
theorem fh {W:World}{B:Nat}{u0 u1 u2 u3:Value}{T:TypeId}{fr:Nat × Nat}(h:W.heap[B]?=some (.cells #[u0,u1,u2,u3] T fr))(v0 v1 v2 v3:Value) :
  ((((W.setCell ⟨B,0,none⟩ v0).setCell ⟨B,1,none⟩ v1).setCell ⟨B,2,none⟩ v2).setCell ⟨B,3,none⟩ v3).heap[B]?=some (.cells #[v0,v1,v2,v3] T fr):=by
 have:=cX (i:=3) v3 (cX (i:=2) v2 (cX (i:=1) v1 (cX (i:=0) v0 h)));simpa using this
theorem gw {W:World}{B k:Nat}(v0 v1 v2 v3:Value)(h:B≠k):((((W.setCell ⟨B,0,none⟩ v0).setCell ⟨B,1,none⟩ v1).setCell ⟨B,2,none⟩ v2).setCell ⟨B,3,none⟩ v3).heap[k]?=W.heap[k]?:=by rw[heap_setCell_ne' _ h,heap_setCell_ne' _ h,heap_setCell_ne' _ h,heap_setCell_ne' _ h]
theorem xa {W:World}{B:Nat}{row:Array Value}{fr:Nat × Nat}(hb:W.heap[B]?=some (.cells row 25 fr))(v0 v1 v2 v3:Value):Kt W ((((W.setCell ⟨B,0,none⟩ v0).setCell ⟨B,1,none⟩ v1).setCell ⟨B,2,none⟩ v2).setCell ⟨B,3,none⟩ v3):=by intro k c t d g;rw[gw _ _ _ _ (fun e=>by rw[e,d]at hb;rcases g with rfl|rfl<;>cases hb)];exact d
theorem oe {w W:World}{B:Nat}(h:Gr w W)(hB:w.heap.size<=B)(v0 v1 v2 v3:Value):Gr w ((((W.setCell ⟨B,0,none⟩ v0).setCell ⟨B,1,none⟩ v1).setCell ⟨B,2,none⟩ v2).setCell ⟨B,3,none⟩ v3):=by
 iterate 4 refine Gr.setCell ?_ hB _
 exact h
section
variable {w W wl:World}{Bo:Nat}{f:Fn}{vp vs:Value}{row:Array Value}
theorem CInv.start (hB0:Gr w W)(hr0:W.heap[w.heap.size]?=some (.cells row 25 (0,0)))(hr1:W.heap[w.heap.size+1]?=some (.cells #[.slice none 0 0,.int .i64 0,.slice none 0 0,.slice none 0 0] 25 (0,0)))(gl:Gr W wl)
  (hbx:wl.heap[Bo]?=some (.cells #[.slice none 0 0,.int .i64 0,.slice none 0 0,.slice none 0 0] 25 (0,0))) (hBo:w.heap.size+1<Bo) (ta:TI w.heap.size wl vp f.params) (tt:TI w.heap.size wl vs f.slots) :
  CInv w ((((wl.setCell ⟨Bo,0,none⟩ vp).setCell ⟨Bo,1,none⟩ (.int .i64 f.ret)).setCell ⟨Bo,2,none⟩ vs).setCell ⟨Bo,3,none⟩ (.slice none 0 0)) Bo f vp vs row 0 (.slice none 0 0) ((((wl.setCell ⟨Bo,0,none⟩ vp).setCell ⟨Bo,1,none⟩ (.int .i64 f.ret)).setCell ⟨Bo,2,none⟩ vs).setCell ⟨Bo,3,none⟩ (.slice none 0 0)):=by
 have g:=xa hbx vp (.int .i64 f.ret) vs (.slice none 0 0);have d:=oe (hB0.trans gl) (B:=Bo) (by omega) vp (.int .i64 f.ret) vs (.slice none 0 0)
 exact⟨[],fh hbx _ _ _ _,Own1.nil _ _ _,rfl,fun j l h=>by omega,ta.kt g,tt.kt g,d,
   (gw _ _ _ _ (by omega)).trans ((gl.heap _ (vE.1 hr0).1).trans hr0),(gw _ _ _ _ (by omega)).trans ((gl.heap _ (vE.1 hr1).1).trans hr1),vV _,hBo,d.size⟩
theorem CInv.start' (hB0:Gr w W)(hr0:W.heap[w.heap.size]?=some (.cells row 25 (0,0)))(hr1:W.heap[w.heap.size+1]?=some (.cells #[.slice none 0 0,.int .i64 0,.slice none 0 0,.slice none 0 0] 25 (0,0)))(gl:Gr W wl)
  (ta:TI w.heap.size wl vp f.params) (tt:TI w.heap.size wl vs f.slots) :
  CInv w (wl.alloc (.cells #[vp,.int .i64 f.ret,vs,.slice none 0 0] 25)) wl.heap.size f vp vs row 0 (.slice none 0 0) (wl.alloc (.cells #[vp,.int .i64 f.ret,vs,.slice none 0 0] 25)):=by
 have d:Gr wl (wl.alloc (.cells #[vp,.int .i64 f.ret,vs,.slice none 0 0] 25)):=(wL _).alloc _;have g:=hB0.trans (gl.trans d);have m:=(vE.1 hr1).1;have p:=gl.size
 exact⟨[],heap_alloc_new _ _,Own1.nil _ _ _,rfl,fun j l h=>by omega,ta.gr d,tt.gr d,g,
   ((gl.trans d).heap _ (vE.1 hr0).1).trans hr0,((gl.trans d).heap _ (vE.1 hr1).1).trans hr1,vV _,by omega,g.size⟩
theorem CInv.done {wb wr:World}{vb:Value}(h:CInv w wb Bo f vp vs row f.blocks.length vb wr) :
  CpAt w.heap.size ((((wr.setCell ⟨w.heap.size+1,0,none⟩ vp).setCell ⟨w.heap.size+1,1,none⟩ (.int .i64 f.ret)).setCell ⟨w.heap.size+1,2,none⟩ vs).setCell ⟨w.heap.size+1,3,none⟩ vb) (.agg #[vp,.int .i64 f.ret,vs,vb]) f /\
  Gr w ((((wr.setCell ⟨w.heap.size+1,0,none⟩ vp).setCell ⟨w.heap.size+1,1,none⟩ (.int .i64 f.ret)).setCell ⟨w.heap.size+1,2,none⟩ vs).setCell ⟨w.heap.size+1,3,none⟩ vb):=by
 obtain⟨us,G,m,z,A,B,C,D,H,p,t,y,g⟩:=h;have d:=xa p vp (.int .i64 f.ret) vs vb;refine⟨⟨vp,vs,vb,us,rfl,B.kt d,C.kt d,?_,z,fun j l hl=>?_⟩,oe D (by omega) _ _ _ _⟩
 ·refine(m.lower g).keep fun k d=>gw _ _ _ _ (fun e=>?_);obtain⟨-,-,r,q⟩:=m.typed d;rw[<-e,p]at q;cases q
 ·obtain⟨u,E,F⟩:=A j l (yC.1 hl).1 hl;exact⟨u,E,F.kt d⟩
end
section
variable {P:Program}{Q:Exit->Act->World->Prop}
end
section
variable {P:Program}{w:World}
end
def CopyJ (w W:World)(f:Fn)(Ap As:Option Addr)(cp cs:Nat)(row:Array Value)(L:Nat->Bool)(v3 v8 v9 v10 v11 v12 v13 v14 v15 v16 v17 v18:Value)(w':World):Prop :=
 Gr W w'/\(L 0=true->∃g:Nat,v8=.slice (some ⟨g,0,none⟩) 0 0) /\
  (L 1=true->v9=.pointer (some ⟨w.heap.size,0,none⟩)) /\
  (L 2=true->v10=.slice Ap f.params.length cp) /\
  (L 3=true->∃(A:Option Addr)(c:Nat),v11=.slice A f.params.length c/\TI w.heap.size w' (.slice A f.params.length c) f.params) /\
  (L 4=true->v12=.pointer (some ⟨w.heap.size,1,none⟩)) /\
  (L 5=true->v13=.int .i64 f.ret) /\
  (L 6=true->∃g:Nat,v14=.slice (some ⟨g,0,none⟩) 0 0) /\
  (L 7=true->v15=.pointer (some ⟨w.heap.size,2,none⟩)) /\
  (L 8=true->v16=.slice As f.slots.length cs) /\
  (L 9=true->∃(A:Option Addr)(c:Nat),v17=.slice A f.slots.length c/\TI w.heap.size w' (.slice A f.slots.length c) f.slots) /\
  (L 10=true->(L 3=true/\L 5=true/\L 9=true)/\v18=.agg #[v11,v13,v17,.slice none 0 0]) /\
  (L 11=true->L 12=false->∃Bo:Nat,v3=.pointer (some ⟨Bo,0,none⟩)/\W.heap.size<=Bo/\w'.heap[Bo]?=some (Obj.cells #[.slice none 0 0,.int .i64 0,.slice none 0 0,.slice none 0 0] 25 (0,0))) /\
  (L 12=true->(∀j,j<12->L j=true)/\∃(Bo:Nat)(A1:Option Addr)(c1:Nat)(A2:Option Addr)(c2:Nat),v3=.pointer (some ⟨Bo,0,none⟩)/\CInv w w' Bo f (.slice A1 f.params.length c1) (.slice A2 f.slots.length c2) row 0 (.slice none 0 0) w')
section
variable {w W w' w'':World}{f:Fn}{Ap As:Option Addr}{cp cs:Nat}{row:Array Value}{L L':Nat->Bool}{v3 v8 v9 v10 v11 v12 v13 v14 v15 v16 v17 v18:Value}
theorem CopyJ.s0 (h:CopyJ w W f Ap As cp cs row L v3 v8 v9 v10 v11 v12 v13 v14 v15 v16 v17 v18 w')(g':Gr w' w'')(hun:L 0=false)(hL:∀j,j≠0->L' j=L j)(g:Nat):CopyJ w W f Ap As cp cs row L' v3 (.slice (some ⟨g,0,none⟩) 0 0) v9 v10 v11 v12 v13 v14 v15 v16 v17 v18 w'':=by
 obtain⟨G,K,r,u,y,z,B,C,D,E,F,d,l,m⟩:=h;refine⟨G.trans g',?_,?_,?_,?_,?_,?_,?_,?_,?_,?_,?_,?_,?_⟩
 ·intro _;exact⟨g,rfl⟩
 ·rw[hL 1 (by decide)];exact r
 ·rw[hL 2 (by decide)];exact u
 ·rw[hL 3 (by decide)];intro hl;obtain⟨A,c,e,t⟩:=y hl;exact⟨A,c,e,t.gr g'⟩
 ·rw[hL 4 (by decide)];exact z
 ·rw[hL 5 (by decide)];exact B
 ·rw[hL 6 (by decide)];exact C
 ·rw[hL 7 (by decide)];exact D
 ·rw[hL 8 (by decide)];exact E
 ·rw[hL 9 (by decide)];intro hl;obtain⟨A,c,e,t⟩:=F hl;exact⟨A,c,e,t.gr g'⟩
 ·rw[hL 10 (by decide),hL 3 (by decide),hL 5 (by decide),hL 9 (by decide)];exact d
 ·rw[hL 11 (by decide),hL 12 (by decide)];intro H I;obtain⟨q,e,J,p⟩:=l H I;exact⟨q,e,J,(g'.heap _ (vE.1 p).1).trans p⟩
 ·rw[hL 12 (by decide)];intro hl;exact absurd ((m hl).1 0 (by decide)) (by rw[hun];decide)
theorem CopyJ.s1 (h:CopyJ w W f Ap As cp cs row L v3 v8 v9 v10 v11 v12 v13 v14 v15 v16 v17 v18 w')(g':Gr w' w'')(hun:L 1=false)(hL:∀j,j≠1->L' j=L j) :CopyJ w W f Ap As cp cs row L' v3 v8 (.pointer (some ⟨w.heap.size,0,none⟩)) v10 v11 v12 v13 v14 v15 v16 v17 v18 w'':=by
 obtain⟨F,q,J,r,u,y,z,B,C,D,E,d,g,l⟩:=h;refine⟨F.trans g',?_,?_,?_,?_,?_,?_,?_,?_,?_,?_,?_,?_,?_⟩
 ·rw[hL 0 (by decide)];exact q
 ·intro _;exact rfl
 ·rw[hL 2 (by decide)];exact r
 ·rw[hL 3 (by decide)];intro hl;obtain⟨A,c,e,t⟩:=u hl;exact⟨A,c,e,t.gr g'⟩
 ·rw[hL 4 (by decide)];exact y
 ·rw[hL 5 (by decide)];exact z
 ·rw[hL 6 (by decide)];exact B
 ·rw[hL 7 (by decide)];exact C
 ·rw[hL 8 (by decide)];exact D
 ·rw[hL 9 (by decide)];intro hl;obtain⟨A,c,e,t⟩:=E hl;exact⟨A,c,e,t.gr g'⟩
 ·rw[hL 10 (by decide),hL 3 (by decide),hL 5 (by decide),hL 9 (by decide)];exact d
 ·rw[hL 11 (by decide),hL 12 (by decide)];intro G H;obtain⟨p,e,I,m⟩:=g G H;exact⟨p,e,I,(g'.heap _ (vE.1 m).1).trans m⟩
 ·rw[hL 12 (by decide)];intro hl;exact absurd ((l hl).1 1 (by decide)) (by rw[hun];decide)
theorem CopyJ.s2 (h:CopyJ w W f Ap As cp cs row L v3 v8 v9 v10 v11 v12 v13 v14 v15 v16 v17 v18 w')(g':Gr w' w'')(hun:L 2=false)(hL:∀j,j≠2->L' j=L j) :CopyJ w W f Ap As cp cs row L' v3 v8 v9 (.slice Ap f.params.length cp) v11 v12 v13 v14 v15 v16 v17 v18 w'':=by
 obtain⟨F,q,r,J,u,y,z,B,C,D,E,d,g,l⟩:=h;refine⟨F.trans g',?_,?_,?_,?_,?_,?_,?_,?_,?_,?_,?_,?_,?_⟩
 ·rw[hL 0 (by decide)];exact q
 ·rw[hL 1 (by decide)];exact r
 ·intro _;exact rfl
 ·rw[hL 3 (by decide)];intro hl;obtain⟨A,c,e,t⟩:=u hl;exact⟨A,c,e,t.gr g'⟩
 ·rw[hL 4 (by decide)];exact y
 ·rw[hL 5 (by decide)];exact z
 ·rw[hL 6 (by decide)];exact B
 ·rw[hL 7 (by decide)];exact C
 ·rw[hL 8 (by decide)];exact D
 ·rw[hL 9 (by decide)];intro hl;obtain⟨A,c,e,t⟩:=E hl;exact⟨A,c,e,t.gr g'⟩
 ·rw[hL 10 (by decide),hL 3 (by decide),hL 5 (by decide),hL 9 (by decide)];exact d
 ·rw[hL 11 (by decide),hL 12 (by decide)];intro G H;obtain⟨p,e,I,m⟩:=g G H;exact⟨p,e,I,(g'.heap _ (vE.1 m).1).trans m⟩
 ·rw[hL 12 (by decide)];intro hl;exact absurd ((l hl).1 2 (by decide)) (by rw[hun];decide)
theorem CopyJ.s3 (h:CopyJ w W f Ap As cp cs row L v3 v8 v9 v10 v11 v12 v13 v14 v15 v16 v17 v18 w')(g':Gr w' w'')(hun:L 3=false)(hL:∀j,j≠3->L' j=L j)(A:Option Addr)(c:Nat)(ht:TI w.heap.size w'' (.slice A f.params.length c) f.params):CopyJ w W f Ap As cp cs row L' v3 v8 v9 v10 (.slice A f.params.length c) v12 v13 v14 v15 v16 v17 v18 w'':=by
 obtain⟨F,q,r,u,J,y,z,B,C,D,E,d,g,l⟩:=h;refine⟨F.trans g',?_,?_,?_,?_,?_,?_,?_,?_,?_,?_,?_,?_,?_⟩
 ·rw[hL 0 (by decide)];exact q
 ·rw[hL 1 (by decide)];exact r
 ·rw[hL 2 (by decide)];exact u
 ·intro _;exact⟨A,c,rfl,ht⟩
 ·rw[hL 4 (by decide)];exact y
 ·rw[hL 5 (by decide)];exact z
 ·rw[hL 6 (by decide)];exact B
 ·rw[hL 7 (by decide)];exact C
 ·rw[hL 8 (by decide)];exact D
 ·rw[hL 9 (by decide)];intro hl;obtain⟨A,c,e,t⟩:=E hl;exact⟨A,c,e,t.gr g'⟩
 ·rw[hL 10 (by decide)];intro hl;exact absurd (d hl).1.1 (by rw[hun];decide)
 ·rw[hL 11 (by decide),hL 12 (by decide)];intro G H;obtain⟨p,e,I,m⟩:=g G H;exact⟨p,e,I,(g'.heap _ (vE.1 m).1).trans m⟩
 ·rw[hL 12 (by decide)];intro hl;exact absurd ((l hl).1 3 (by decide)) (by rw[hun];decide)
theorem CopyJ.s4 (h:CopyJ w W f Ap As cp cs row L v3 v8 v9 v10 v11 v12 v13 v14 v15 v16 v17 v18 w')(g':Gr w' w'')(hun:L 4=false)(hL:∀j,j≠4->L' j=L j) :CopyJ w W f Ap As cp cs row L' v3 v8 v9 v10 v11 (.pointer (some ⟨w.heap.size,1,none⟩)) v13 v14 v15 v16 v17 v18 w'':=by
 obtain⟨F,q,r,u,y,J,z,B,C,D,E,d,g,l⟩:=h;refine⟨F.trans g',?_,?_,?_,?_,?_,?_,?_,?_,?_,?_,?_,?_,?_⟩
 ·rw[hL 0 (by decide)];exact q
 ·rw[hL 1 (by decide)];exact r
 ·rw[hL 2 (by decide)];exact u
 ·rw[hL 3 (by decide)];intro hl;obtain⟨A,c,e,t⟩:=y hl;exact⟨A,c,e,t.gr g'⟩
 ·intro _;exact rfl
 ·rw[hL 5 (by decide)];exact z
 ·rw[hL 6 (by decide)];exact B
 ·rw[hL 7 (by decide)];exact C
 ·rw[hL 8 (by decide)];exact D
 ·rw[hL 9 (by decide)];intro hl;obtain⟨A,c,e,t⟩:=E hl;exact⟨A,c,e,t.gr g'⟩
 ·rw[hL 10 (by decide),hL 3 (by decide),hL 5 (by decide),hL 9 (by decide)];exact d
 ·rw[hL 11 (by decide),hL 12 (by decide)];intro G H;obtain⟨p,e,I,m⟩:=g G H;exact⟨p,e,I,(g'.heap _ (vE.1 m).1).trans m⟩
 ·rw[hL 12 (by decide)];intro hl;exact absurd ((l hl).1 4 (by decide)) (by rw[hun];decide)
theorem CopyJ.s5 (h:CopyJ w W f Ap As cp cs row L v3 v8 v9 v10 v11 v12 v13 v14 v15 v16 v17 v18 w')(g':Gr w' w'')(hun:L 5=false)(hL:∀j,j≠5->L' j=L j) :CopyJ w W f Ap As cp cs row L' v3 v8 v9 v10 v11 v12 (.int .i64 f.ret) v14 v15 v16 v17 v18 w'':=by
 obtain⟨F,q,r,u,y,z,J,B,C,D,E,d,g,l⟩:=h;refine⟨F.trans g',?_,?_,?_,?_,?_,?_,?_,?_,?_,?_,?_,?_,?_⟩
 ·rw[hL 0 (by decide)];exact q
 ·rw[hL 1 (by decide)];exact r
 ·rw[hL 2 (by decide)];exact u
 ·rw[hL 3 (by decide)];intro hl;obtain⟨A,c,e,t⟩:=y hl;exact⟨A,c,e,t.gr g'⟩
 ·rw[hL 4 (by decide)];exact z
 ·intro _;exact rfl
 ·rw[hL 6 (by decide)];exact B
 ·rw[hL 7 (by decide)];exact C
 ·rw[hL 8 (by decide)];exact D
 ·rw[hL 9 (by decide)];intro hl;obtain⟨A,c,e,t⟩:=E hl;exact⟨A,c,e,t.gr g'⟩
 ·rw[hL 10 (by decide)];intro hl;exact absurd (d hl).1.2.1 (by rw[hun];decide)
 ·rw[hL 11 (by decide),hL 12 (by decide)];intro G H;obtain⟨p,e,I,m⟩:=g G H;exact⟨p,e,I,(g'.heap _ (vE.1 m).1).trans m⟩
 ·rw[hL 12 (by decide)];intro hl;exact absurd ((l hl).1 5 (by decide)) (by rw[hun];decide)
theorem CopyJ.s6 (h:CopyJ w W f Ap As cp cs row L v3 v8 v9 v10 v11 v12 v13 v14 v15 v16 v17 v18 w')(g':Gr w' w'')(hun:L 6=false)(hL:∀j,j≠6->L' j=L j)(g:Nat):CopyJ w W f Ap As cp cs row L' v3 v8 v9 v10 v11 v12 v13 (.slice (some ⟨g,0,none⟩) 0 0) v15 v16 v17 v18 w'':=by
 obtain⟨G,r,u,y,z,B,C,K,D,E,F,d,l,m⟩:=h;refine⟨G.trans g',?_,?_,?_,?_,?_,?_,?_,?_,?_,?_,?_,?_,?_⟩
 ·rw[hL 0 (by decide)];exact r
 ·rw[hL 1 (by decide)];exact u
 ·rw[hL 2 (by decide)];exact y
 ·rw[hL 3 (by decide)];intro hl;obtain⟨A,c,e,t⟩:=z hl;exact⟨A,c,e,t.gr g'⟩
 ·rw[hL 4 (by decide)];exact B
 ·rw[hL 5 (by decide)];exact C
 ·intro _;exact⟨g,rfl⟩
 ·rw[hL 7 (by decide)];exact D
 ·rw[hL 8 (by decide)];exact E
 ·rw[hL 9 (by decide)];intro hl;obtain⟨A,c,e,t⟩:=F hl;exact⟨A,c,e,t.gr g'⟩
 ·rw[hL 10 (by decide),hL 3 (by decide),hL 5 (by decide),hL 9 (by decide)];exact d
 ·rw[hL 11 (by decide),hL 12 (by decide)];intro H I;obtain⟨q,e,J,p⟩:=l H I;exact⟨q,e,J,(g'.heap _ (vE.1 p).1).trans p⟩
 ·rw[hL 12 (by decide)];intro hl;exact absurd ((m hl).1 6 (by decide)) (by rw[hun];decide)
theorem CopyJ.s8 (h:CopyJ w W f Ap As cp cs row L v3 v8 v9 v10 v11 v12 v13 v14 v15 v16 v17 v18 w')(g':Gr w' w'')(hun:L 8=false)(hL:∀j,j≠8->L' j=L j) :CopyJ w W f Ap As cp cs row L' v3 v8 v9 v10 v11 v12 v13 v14 v15 (.slice As f.slots.length cs) v17 v18 w'':=by
 obtain⟨F,q,r,u,y,z,B,C,D,J,E,d,g,l⟩:=h;refine⟨F.trans g',?_,?_,?_,?_,?_,?_,?_,?_,?_,?_,?_,?_,?_⟩
 ·rw[hL 0 (by decide)];exact q
 ·rw[hL 1 (by decide)];exact r
 ·rw[hL 2 (by decide)];exact u
 ·rw[hL 3 (by decide)];intro hl;obtain⟨A,c,e,t⟩:=y hl;exact⟨A,c,e,t.gr g'⟩
 ·rw[hL 4 (by decide)];exact z
 ·rw[hL 5 (by decide)];exact B
 ·rw[hL 6 (by decide)];exact C
 ·rw[hL 7 (by decide)];exact D
 ·intro _;exact rfl
 ·rw[hL 9 (by decide)];intro hl;obtain⟨A,c,e,t⟩:=E hl;exact⟨A,c,e,t.gr g'⟩
 ·rw[hL 10 (by decide),hL 3 (by decide),hL 5 (by decide),hL 9 (by decide)];exact d
 ·rw[hL 11 (by decide),hL 12 (by decide)];intro G H;obtain⟨p,e,I,m⟩:=g G H;exact⟨p,e,I,(g'.heap _ (vE.1 m).1).trans m⟩
 ·rw[hL 12 (by decide)];intro hl;exact absurd ((l hl).1 8 (by decide)) (by rw[hun];decide)
theorem CopyJ.s9 (h:CopyJ w W f Ap As cp cs row L v3 v8 v9 v10 v11 v12 v13 v14 v15 v16 v17 v18 w')(g':Gr w' w'')(hun:L 9=false)(hL:∀j,j≠9->L' j=L j)(A:Option Addr)(c:Nat)(ht:TI w.heap.size w'' (.slice A f.slots.length c) f.slots):CopyJ w W f Ap As cp cs row L' v3 v8 v9 v10 v11 v12 v13 v14 v15 v16 (.slice A f.slots.length c) v18 w'':=by
 obtain⟨F,q,r,u,y,z,B,C,D,E,J,d,g,l⟩:=h;refine⟨F.trans g',?_,?_,?_,?_,?_,?_,?_,?_,?_,?_,?_,?_,?_⟩
 ·rw[hL 0 (by decide)];exact q
 ·rw[hL 1 (by decide)];exact r
 ·rw[hL 2 (by decide)];exact u
 ·rw[hL 3 (by decide)];intro hl;obtain⟨A,c,e,t⟩:=y hl;exact⟨A,c,e,t.gr g'⟩
 ·rw[hL 4 (by decide)];exact z
 ·rw[hL 5 (by decide)];exact B
 ·rw[hL 6 (by decide)];exact C
 ·rw[hL 7 (by decide)];exact D
 ·rw[hL 8 (by decide)];exact E
 ·intro _;exact⟨A,c,rfl,ht⟩
 ·rw[hL 10 (by decide)];intro hl;exact absurd (d hl).1.2.2 (by rw[hun];decide)
 ·rw[hL 11 (by decide),hL 12 (by decide)];intro G H;obtain⟨p,e,I,m⟩:=g G H;exact⟨p,e,I,(g'.heap _ (vE.1 m).1).trans m⟩
 ·rw[hL 12 (by decide)];intro hl;exact absurd ((l hl).1 9 (by decide)) (by rw[hun];decide)
theorem CopyJ.s10 (h:CopyJ w W f Ap As cp cs row L v3 v8 v9 v10 v11 v12 v13 v14 v15 v16 v17 v18 w')(g':Gr w' w'')(hun:L 10=false)(hL:∀j,j≠10->L' j=L j)(d3:L 3=true)(d5:L 5=true)(d9:L 9=true):CopyJ w W f Ap As cp cs row L' v3 v8 v9 v10 v11 v12 v13 v14 v15 v16 v17 (.agg #[v11,v13,v17,.slice none 0 0]) w'':=by
 obtain⟨G,p,q,u,y,z,B,C,D,E,F,r,d,g⟩:=h;refine⟨G.trans g',?_,?_,?_,?_,?_,?_,?_,?_,?_,?_,?_,?_,?_⟩
 ·rw[hL 0 (by decide)];exact p
 ·rw[hL 1 (by decide)];exact q
 ·rw[hL 2 (by decide)];exact u
 ·rw[hL 3 (by decide)];intro hl;obtain⟨A,c,e,t⟩:=y hl;exact⟨A,c,e,t.gr g'⟩
 ·rw[hL 4 (by decide)];exact z
 ·rw[hL 5 (by decide)];exact B
 ·rw[hL 6 (by decide)];exact C
 ·rw[hL 7 (by decide)];exact D
 ·rw[hL 8 (by decide)];exact E
 ·rw[hL 9 (by decide)];intro hl;obtain⟨A,c,e,t⟩:=F hl;exact⟨A,c,e,t.gr g'⟩
 ·intro _;exact⟨⟨(hL 3 (by decide)).trans d3,(hL 5 (by decide)).trans d5,(hL 9 (by decide)).trans d9⟩,rfl⟩
 ·rw[hL 11 (by decide),hL 12 (by decide)];intro H I;obtain⟨m,e,J,l⟩:=d H I;exact⟨m,e,J,(g'.heap _ (vE.1 l).1).trans l⟩
 ·rw[hL 12 (by decide)];intro hl;exact absurd ((g hl).1 10 (by decide)) (by rw[hun];decide)
theorem CopyJ.s11 (h:CopyJ w W f Ap As cp cs row L v3 v8 v9 v10 v11 v12 v13 v14 v15 v16 v17 v18 w')(g':Gr w' w'')(hun:L 11=false)(hL:∀j,j≠11->L' j=L j)(Bo:Nat)(hBo:W.heap.size<=Bo)(hb:w''.heap[Bo]?=some (Obj.cells #[.slice none 0 0,.int .i64 0,.slice none 0 0,.slice none 0 0] 25 (0,0))):CopyJ w W f Ap As cp cs row L' (.pointer (some ⟨Bo,0,none⟩)) v8 v9 v10 v11 v12 v13 v14 v15 v16 v17 v18 w'':=by
 obtain⟨E,l,m,q,r,u,y,z,B,C,D,d,p,g⟩:=h;refine⟨E.trans g',?_,?_,?_,?_,?_,?_,?_,?_,?_,?_,?_,?_,?_⟩
 ·rw[hL 0 (by decide)];exact l
 ·rw[hL 1 (by decide)];exact m
 ·rw[hL 2 (by decide)];exact q
 ·rw[hL 3 (by decide)];intro hl;obtain⟨A,c,e,t⟩:=r hl;exact⟨A,c,e,t.gr g'⟩
 ·rw[hL 4 (by decide)];exact u
 ·rw[hL 5 (by decide)];exact y
 ·rw[hL 6 (by decide)];exact z
 ·rw[hL 7 (by decide)];exact B
 ·rw[hL 8 (by decide)];exact C
 ·rw[hL 9 (by decide)];intro hl;obtain⟨A,c,e,t⟩:=D hl;exact⟨A,c,e,t.gr g'⟩
 ·rw[hL 10 (by decide),hL 3 (by decide),hL 5 (by decide),hL 9 (by decide)];exact d
 ·intro _ _;exact⟨Bo,rfl,hBo,hb⟩
 ·rw[hL 12 (by decide)];intro hl;exact absurd ((g hl).1 11 (by decide)) (by rw[hun];decide)
theorem CopyJ.s12 (h:CopyJ w W f Ap As cp cs row L v3 v8 v9 v10 v11 v12 v13 v14 v15 v16 v17 v18 w')(hall:∀j,j<12->L j=true)(hun:L 12=false)(hL:∀j,j≠12->L' j=L j)(hL12:L' 12=true)(hB0:Gr w W)(hr0:W.heap[w.heap.size]?=some (.cells row 25 (0,0)))(hr1:W.heap[w.heap.size+1]?=some (.cells #[.slice none 0 0,.int .i64 0,.slice none 0 0,.slice none 0 0] 25 (0,0)))(hWs:w.heap.size+2<=W.heap.size) :
  ∃(Bo:Nat)(A1:Option Addr)(c1:Nat)(A2:Option Addr)(c2:Nat),v3=.pointer (some ⟨Bo,0,none⟩)/\v18=.agg #[.slice A1 f.params.length c1,.int .i64 f.ret,.slice A2 f.slots.length c2,.slice none 0 0]/\w'.heap[Bo]?=some (Obj.cells #[.slice none 0 0,.int .i64 0,.slice none 0 0,.slice none 0 0] 25 (0,0)) /\
   CopyJ w W f Ap As cp cs row L' v3 v8 v9 v10 v11 v12 v13 v14 v15 v16 v17 v18 ((((w'.setCell ⟨Bo,0,none⟩ (.slice A1 f.params.length c1)).setCell ⟨Bo,1,none⟩ (.int .i64 f.ret)).setCell ⟨Bo,2,none⟩ (.slice A2 f.slots.length c2)).setCell ⟨Bo,3,none⟩ (.slice none 0 0)):=by
 obtain⟨t,A,B,D,E,F,r,G,H,I,J,d,l,C⟩:=h;obtain⟨A1,c1,rfl,y⟩:=E (hall 3 (by decide));obtain⟨A2,c2,rfl,z⟩:=J (hall 9 (by decide));obtain rfl:=r (hall 5 (by decide));obtain⟨-,g⟩:=d (hall 10 (by decide));obtain⟨Bo,rfl,m,p⟩:=l (hall 11 (by decide)) hun;have u:=xa p (.slice A1 f.params.length c1) (.int .i64 f.ret) (.slice A2 f.slots.length c2) (.slice none 0 0);refine⟨Bo,A1,c1,A2,c2,rfl,g,p,oe t m _ _ _ _,?_,?_,?_,?_,?_,?_,?_,?_,?_,?_,?_,?_,?_⟩
 ·rw[hL 0 (by decide)];exact A
 ·rw[hL 1 (by decide)];exact B
 ·rw[hL 2 (by decide)];exact D
 ·intro _;exact⟨A1,c1,rfl,y.kt u⟩
 ·rw[hL 4 (by decide)];exact F
 ·rw[hL 5 (by decide)];exact r
 ·rw[hL 6 (by decide)];exact G
 ·rw[hL 7 (by decide)];exact H
 ·rw[hL 8 (by decide)];exact I
 ·intro _;exact⟨A2,c2,rfl,z.kt u⟩
 ·rw[hL 10 (by decide),hL 3 (by decide),hL 5 (by decide),hL 9 (by decide)];exact d
 ·intro _ q;rw[hL12]at q;cases q
 ·intro _;exact⟨fun j K=>(hL j (by omega)).trans (hall j K),Bo,A1,c1,A2,c2,rfl,CInv.start hB0 hr0 hr1 t p (by omega) y z⟩
end
theorem CInv.turn {w wb wr:World}{Bo:Nat}{f f':Fn}{vp vs vb:Value}{row:Array Value}(h:CInv w wb Bo f vp vs row 0 vb wr)(h1:f'.params=f.params)(h2:f'.ret=f.ret)(h3:f'.slots=f.slots):CInv w wb Bo f' vp vs row 0 vb wr:=by obtain⟨us,d,g,m,u,p,q,r⟩:=h;exact⟨us,by rw[h2];exact d,g,m,fun j l t=>by omega,by rw[h1];exact p,by rw[h3];exact q,r⟩
structure YI (w:World)(Bx:Nat)(op wd fl im:Int)(va vt:Value)(As Ts:List Int)(W:World):Prop where
 box:W.heap[Bx]?=some (.cells #[.int .i64 op,.int .i64 wd,.int .i64 fl,va,.int .u32 im,vt] 67 (0,0))
 own3:Own1 w.heap.size 3 W va (As.map (Value.int .i64))
 own5:Own1 w.heap.size 3 W vt (Ts.map (Value.int .i64))
 apart:Apart va vt
 gr:Gr w W
 lx:w.heap.size<=Bx
section
variable {w wr wr':World}{Bx:Nat}{op wd fl im:Int}{va vt:Value}{As Ts:List Int}
theorem YI.grow (h:YI w Bx op wd fl im va vt As Ts wr)(g:Gr wr wr'):YI w Bx op wd fl im va vt As Ts wr' :=
 ⟨(g.heap _ (vE.1 h.box).1).trans h.box,h.own3.gr g,h.own5.gr g,h.apart,h.gr.trans g,h.lx⟩
theorem YI.form3 (h:YI w Bx op wd fl im va vt As Ts wr):∃A c,va=.slice A As.length c:=by obtain⟨A,c,e⟩:=h.own3.form;exact⟨A,c,by rw[e,vS]⟩
theorem YI.form5 (h:YI w Bx op wd fl im va vt As Ts wr):∃A c,vt=.slice A Ts.length c:=by obtain⟨A,c,e⟩:=h.own5.form;exact⟨A,c,by rw[e,vS]⟩
theorem YI.cells (h:YI w Bx op wd fl im va vt As Ts wr):(wr.cell? ⟨Bx,0,none⟩=some (.int .i64 op)/\wr.cell? ⟨Bx,1,none⟩=some (.int .i64 wd)/\wr.cell? ⟨Bx,2,none⟩=some (.int .i64 fl)/\wr.cell? ⟨Bx,3,none⟩=some va/\wr.cell? ⟨Bx,4,none⟩=some (.int .u32 im)/\wr.cell? ⟨Bx,5,none⟩=some vt) /\
  wr.frozen? ⟨Bx,3,none⟩=false/\wr.frozen? ⟨Bx,5,none⟩=false :=
 ⟨⟨vX _ _ 0 _ _ _ h.box,vX _ _ 1 _ _ _ h.box,vX _ _ 2 _ _ _ h.box,vX _ _ 3 _ _ _ h.box,vX _ _ 4 _ _ _ h.box,vX _ _ 5 _ _ _ h.box⟩,vY _ _ 3 _ _ h.box,vY _ _ 5 _ _ h.box⟩
theorem YI.start (g:Gr w wr)(h:wr.heap[Bx]?=some (.cells #[.int .i64 op,.int .i64 wd,.int .i64 fl,.slice none 0 0,.int .u32 im,.slice none 0 0] 67 (0,0)))(hB:w.heap.size<=Bx):YI w Bx op wd fl im (.slice none 0 0) (.slice none 0 0) [] [] wr :=
 ⟨h,Own1.nil _ _ _,Own1.nil _ _ _,fun k d=>by simp[Value.ownBlock]at d,g,hB⟩
theorem tr {B:Nat}{e:TypeId}{W:World}{v:Value}{L:List Int}{z:Int}(h:W.ownsRow B e 1 v (L.length+1) (L.map (Value.int .i64)++[.int .i64 z])):Own1 B e W v ((L++[z]).map (Value.int .i64)):=by unfold Own1;rw[vS,vW,List.map_append];exact h
theorem YI.wp3 {o:Oper}{a:Act}{K:Act->World->Prop}{Q:Exit->Act->World->Prop}(h:YI w Bx op wd fl im va vt As Ts wr)(z:Int)
  (s x:Operand) (ho:o.op=.call {callee:=.builtin .append,args:=#[s,x],argTypes:=#[22,22]}) (hs:a.eval s=va) (hx:a.eval x=.slice (some ⟨wr.heap.size,0,none⟩) 1 1) (hlt:As.length<=1000000) {e':TypeId}
  (hK:∀g c w1,w1.heap[Bx]?=some (.cells #[.int .i64 op,.int .i64 wd,.int .i64 fl,va,.int .u32 im,vt] 67 (0,0))->YI w Bx op wd fl im (.slice (some ⟨g,0,none⟩) (As.length+1) c) vt (As++[z]) Ts (w1.setCell ⟨Bx,3,none⟩ (.slice (some ⟨g,0,none⟩) (As.length+1) c))->K (a.put o.dst (.slice (some ⟨g,0,none⟩) (As.length+1) c)) w1) :
  o.wp prog a (wr.alloc (.cells #[.int .i64 z] e')) K Q:=by
 obtain⟨B,A,p,q,r⟩:=info_parts dR;have hl:(As.map (Value.int .i64)).length=As.length:=vS _;have m:=h.gr.size;have j:=h.own3;unfold Own1 at j;rw[hl]at j;refine eM s x 22 ho w.heap.size 3 B (.int .i64 0) 1 8 underlying22 A p q r rfl (by omega) va As.length (As.map (Value.int .i64)) hs (ew j ((wL _).alloc _)) _ 1 [.int .i64 z] hx (wM _ _ _) ?_ ?_ ?_ ?_ ?_
 ·intro y t;simp at t;subst t;rfl
 ·simp only[maxLen];omega
 ·omega
 ·simp;omega
 ·intro N w1 d u l;obtain⟨g,c,rfl⟩:=ownsRow_succ d;obtain⟨C,D,E,J,L,F,G,M⟩:=eS (i:=3) (n₀:=w.heap.size) (ys:=(As++[z]).map (Value.int .i64)) h.box (by decide) h.own3 (tr d) u l;obtain⟨H,I⟩:=F _ _ h.own5 h.apart;exact hK g c w1 C ⟨D,E,H,I,h.gr.below (G w.heap.size (vV _) h.lx m) (vV _),h.lx⟩
theorem YI.app3 {ops:Array Oper}{rest:List Oper}{o:Oper}{a:Act}{Q:Exit->Act->World->Prop}(h:YI w Bx op wd fl im va vt As Ts wr)(z:Int)
  (hgd:o.guard=none) (s x:Operand) (ho:o.op=.call {callee:=.builtin .append,args:=#[s,x],argTypes:=#[22,22]}) (hs:a.eval s=va) (hx:a.eval x=.slice (some ⟨wr.heap.size,0,none⟩) 1 1) (hlt:As.length<=1000000) {e':TypeId}
  (hK:∀g c w1,w1.heap[Bx]?=some (.cells #[.int .i64 op,.int .i64 wd,.int .i64 fl,va,.int .u32 im,vt] 67 (0,0))->YI w Bx op wd fl im (.slice (some ⟨g,0,none⟩) (As.length+1) c) vt (As++[z]) Ts (w1.setCell ⟨Bx,3,none⟩ (.slice (some ⟨g,0,none⟩) (As.length+1) c))->wpList prog ops Q rest (a.put o.dst (.slice (some ⟨g,0,none⟩) (As.length+1) c)) w1) :
  wpList prog ops Q (o::rest) a (wr.alloc (.cells #[.int .i64 z] e')) :=
 wpList_plain hgd fun _ d=>YI.wp3 h z s x ho hs hx hlt fun g c w1 h1 h2=>d _ _ (hK g c w1 h1 h2)
theorem YI.wp5 {o:Oper}{a:Act}{K:Act->World->Prop}{Q:Exit->Act->World->Prop}(h:YI w Bx op wd fl im va vt As Ts wr)(z:Int)
  (s x:Operand) (ho:o.op=.call {callee:=.builtin .append,args:=#[s,x],argTypes:=#[22,22]}) (hs:a.eval s=vt) (hx:a.eval x=.slice (some ⟨wr.heap.size,0,none⟩) 1 1) (hlt:Ts.length<=1000000) {e':TypeId}
  (hK:∀g c w1,w1.heap[Bx]?=some (.cells #[.int .i64 op,.int .i64 wd,.int .i64 fl,va,.int .u32 im,vt] 67 (0,0))->YI w Bx op wd fl im va (.slice (some ⟨g,0,none⟩) (Ts.length+1) c) As (Ts++[z]) (w1.setCell ⟨Bx,5,none⟩ (.slice (some ⟨g,0,none⟩) (Ts.length+1) c))->K (a.put o.dst (.slice (some ⟨g,0,none⟩) (Ts.length+1) c)) w1) :
  o.wp prog a (wr.alloc (.cells #[.int .i64 z] e')) K Q:=by
 obtain⟨B,A,p,q,r⟩:=info_parts dR;have hl:(Ts.map (Value.int .i64)).length=Ts.length:=vS _;have m:=h.gr.size;have j:=h.own5;unfold Own1 at j;rw[hl]at j;refine eM s x 22 ho w.heap.size 3 B (.int .i64 0) 1 8 underlying22 A p q r rfl (by omega) vt Ts.length (Ts.map (Value.int .i64)) hs (ew j ((wL _).alloc _)) _ 1 [.int .i64 z] hx (wM _ _ _) ?_ ?_ ?_ ?_ ?_
 ·intro y t;simp at t;subst t;rfl
 ·simp only[maxLen];omega
 ·omega
 ·simp;omega
 ·intro N w1 d u l;obtain⟨g,c,rfl⟩:=ownsRow_succ d;obtain⟨C,D,E,J,L,F,G,M⟩:=eS (i:=5) (n₀:=w.heap.size) (ys:=(Ts++[z]).map (Value.int .i64)) h.box (by decide) h.own5 (tr d) u l;obtain⟨H,I⟩:=F _ _ h.own3 h.apart.symm;exact hK g c w1 C ⟨D,H,E,I.symm,h.gr.below (G w.heap.size (vV _) h.lx m) (vV _),h.lx⟩
theorem YI.app5 {ops:Array Oper}{rest:List Oper}{o:Oper}{a:Act}{Q:Exit->Act->World->Prop}(h:YI w Bx op wd fl im va vt As Ts wr)(z:Int)
  (hgd:o.guard=none) (s x:Operand) (ho:o.op=.call {callee:=.builtin .append,args:=#[s,x],argTypes:=#[22,22]}) (hs:a.eval s=vt) (hx:a.eval x=.slice (some ⟨wr.heap.size,0,none⟩) 1 1) (hlt:Ts.length<=1000000) {e':TypeId}
  (hK:∀g c w1,w1.heap[Bx]?=some (.cells #[.int .i64 op,.int .i64 wd,.int .i64 fl,va,.int .u32 im,vt] 67 (0,0))->YI w Bx op wd fl im va (.slice (some ⟨g,0,none⟩) (Ts.length+1) c) As (Ts++[z]) (w1.setCell ⟨Bx,5,none⟩ (.slice (some ⟨g,0,none⟩) (Ts.length+1) c))->wpList prog ops Q rest (a.put o.dst (.slice (some ⟨g,0,none⟩) (Ts.length+1) c)) w1) :
  wpList prog ops Q (o::rest) a (wr.alloc (.cells #[.int .i64 z] e')) :=
 wpList_plain hgd fun _ d=>YI.wp5 h z s x ho hs hx hlt fun g c w1 h1 h2=>d _ _ (hK g c w1 h1 h2)
theorem YI.ti (h:YI w Bx op wd fl im va vt As Ts wr)(h3:As.length<=17592186044416)(h5:Ts.length<=17592186044416):TI w.heap.size wr va As/\TI w.heap.size wr vt Ts:=⟨h.own3.ti h3,h.own5.ti h5⟩
end
def NRow (B hb n:Nat)(w:World)(ns:List Int):Prop:=w.ownsRow B 3 1 (.slice (some ⟨hb,0,none⟩) n n) n (ns.map (Value.int .i64))
section
variable {B hb n:Nat}{w w':World}{ns:List Int}
theorem NRow.len (h:NRow B hb n w ns):ns.length=n:=by have:=h.1;simpa using this
theorem NRow.cell (h:NRow B hb n w ns)(j:Nat)(z:Int)(hj:ns[j]?=some z):w.cell? ⟨hb,j,none⟩=some (.int .i64 z):=by have hl:=h.len;have d:=(yC.1 hj).1;rw[World.ownsRow.cellAt h j (by omega),vH,hj];rfl
theorem NRow.frozen (h:NRow B hb n w ns)(j:Nat):w.frozen? ⟨hb,j,none⟩=false:=World.ownsRow.frozenAt h j
theorem NRow.set_ (h:NRow B hb n w ns)(j:Nat)(z:Int):NRow B hb n (w.setCell ⟨hb,j,none⟩ (.int .i64 z)) (ns.set j z):=by have:=(World.ownsRow.stored h j (.int .i64 z)).1;unfold NRow;rw[List.map_set];exact this
theorem NRow.gr (h:NRow B hb n w ns)(g:Gr w w'):NRow B hb n w' ns:=ew h g
theorem NRow.own (h:NRow B hb n w ns):Own1 B 3 w (.slice (some ⟨hb,0,none⟩) n n) (ns.map (Value.int .i64)):=by have hl:=h.len;unfold Own1;rw[vS,hl];exact h
theorem NRow.lt (h:NRow B hb n w ns):B<=hb/\hb<w.heap.size:=by have:=h.own.typed (k:=hb) rfl;exact⟨this.1,this.2.1⟩
theorem NRow.ti (h:NRow B hb n w ns)(hn:n<=17592186044416):TI B w (.slice (some ⟨hb,0,none⟩) n n) ns:=h.own.ti (by rw[h.len];exact hn)
end
theorem xg {w:World}{ops:Array Oper}{rest:List Oper}{o:Oper}{a:Act}{Q:Exit->Act->World->Prop}(hg:o.guard=none)(l c:Operand)(hop:o.op=Op.makeSlice 22 l c)
  (B n:Nat) (hl:a.eval l=.int .i64 n) (hc:a.eval c=.int .i64 n) (hn:n<=17592186044) (hB:B<=w.heap.size)
  (hK:∀w',NRow B w.heap.size n w' (List.replicate n 0)->Gr w w'->wpList prog ops Q rest (a.put o.dst (.slice (some ⟨w.heap.size,0,none⟩) n n)) w') :
  wpList prog ops Q (o::rest) a w:=by
 obtain⟨t,q,j,m,p⟩:=info_parts dR;refine wpList_make_full _ hg l c 22 hop B 3 t _ 1 underlying22 q j m _ _ _ _ n hl hc rfl rfl (by rw[p];omega) (by simp only[maxLen];omega) hB ?_;intro u d g;rw[Nat.mul_one,show (Value.int .i64 0).cells=#[Value.int .i64 0] from rfl,toList_madeCells_one]at d;exact hK u (by unfold NRow;rw[List.map_replicate];exact d) ((wL w).grown g (fun k r=>by cases r))
theorem OwnI.wp {n₀ B:Nat}{wr:World}{o:Oper}{a:Act}{K:Act->World->Prop}{Q:Exit->Act->World->Prop}{v va vt:Value}{l:List Ins}{x:Ins}(h:OwnI n₀ B wr v l)(ha:TI n₀ wr va x.args)(ht:TI n₀ wr vt x.to)(hB:B<=wr.heap.size)(hlt:l.length<=1000000)
  (s y:Operand) (ho:o.op=.call {callee:=.builtin .append,args:=#[s,y],argTypes:=#[68,68]}) (hs:a.eval s=v) (hy:a.eval y=.slice (some ⟨wr.heap.size,0,none⟩) 1 1) {e':TypeId}
  (hK:∀A c w',OwnI n₀ B w' (.slice A (l.length+1) c) (l++[x])->Below B wr w'->K (a.put o.dst (.slice A (l.length+1) c)) w') :
  o.wp prog a (wr.alloc (.cells #[.int .i64 x.op,.int .i64 x.width,.int .i64 x.flags,va,.int .u32 x.imm,vt] e')) K Q:=by
 obtain⟨I,H,g,j,m⟩:=info_parts xM;obtain⟨rows,z,F⟩:=id h;have D:=ha;have E:=ht;obtain⟨p,r,rfl,-,-,-⟩:=D;obtain⟨q,t,rfl,-,-,-⟩:=E;refine eM s y 68 ho B 67 I _ 6 80 underlying68 H g j m rfl (by omega) v l.length rows hs (ew z ((wL _).alloc _)) _ 1 [.int .i64 x.op,.int .i64 x.width,.int .i64 x.flags,.slice p x.args.length r,.int .u32 x.imm,.slice q x.to.length t] hy (yG wr [.int .i64 x.op,.int .i64 x.width,.int .i64 x.flags,.slice p x.args.length r,.int .u32 x.imm,.slice q x.to.length t] e') ?_ ?_ ?_ ?_ ?_
 ·intro u C;simp at C;rcases C with rfl|rfl|rfl|rfl|rfl|rfl<;>rfl
 ·simp only[maxLen];omega
 ·omega
 ·simp;omega
 ·intro J w' d G _;obtain⟨A,c,hv,_⟩:=dU d;subst hv;obtain⟨s1,s2⟩:=OwnI.snoc h z F d G ha ht hB;exact hK A c w' s1 s2
theorem OwnI.app {n₀ B:Nat}{wr:World}{ops:Array Oper}{rest:List Oper}{o:Oper}{a:Act}{Q:Exit->Act->World->Prop}{v va vt:Value}{l:List Ins}{x:Ins}(h:OwnI n₀ B wr v l)(ha:TI n₀ wr va x.args)(ht:TI n₀ wr vt x.to)(hB:B<=wr.heap.size)(hlt:l.length<=1000000)
  (hgd:o.guard=none) (s y:Operand) (ho:o.op=.call {callee:=.builtin .append,args:=#[s,y],argTypes:=#[68,68]}) (hs:a.eval s=v) (hy:a.eval y=.slice (some ⟨wr.heap.size,0,none⟩) 1 1) {e':TypeId}
  (hK:∀A c w',OwnI n₀ B w' (.slice A (l.length+1) c) (l++[x])->Below B wr w'->wpList prog ops Q rest (a.put o.dst (.slice A (l.length+1) c)) w') :
  wpList prog ops Q (o::rest) a (wr.alloc (.cells #[.int .i64 x.op,.int .i64 x.width,.int .i64 x.flags,va,.int .u32 x.imm,vt] e')) :=
 wpList_plain hgd fun _ d=>OwnI.wp h ha ht hB hlt s y ho hs hy fun A c w' h1 h2=>d _ _ (hK A c w' h1 h2)
theorem OwnI.step {n₀ B:Nat}{wr:World}{ops:Array Oper}{F:Prop}{o:Oper}{a:Act}{K:Act->World->Prop}{Q:Exit->Act->World->Prop}{v va vt:Value}{l:List Ins}{x:Ins}(h:OwnI n₀ B wr v l)(ha:TI n₀ wr va x.args)(ht:TI n₀ wr vt x.to)(hB:B<=wr.heap.size)(hlt:l.length<=1000000)
  (hgd:o.guard=none) (s y:Operand) (ho:o.op=.call {callee:=.builtin .append,args:=#[s,y],argTypes:=#[68,68]}) (hs:a.eval s=v) (hy:a.eval y=.slice (some ⟨wr.heap.size,0,none⟩) 1 1) {e':TypeId}
  (hK:∀A c w',OwnI n₀ B w' (.slice A (l.length+1) c) (l++[x])->Below B wr w'->K (a.put o.dst (.slice A (l.length+1) c)) w') :
  if Region.wanted o (yielded ops a.tmps)=true then Oper.wp prog o a (wr.alloc (.cells #[.int .i64 x.op,.int .i64 x.width,.int .i64 x.flags,va,.int .u32 x.imm,vt] e')) K Q else F:=by
 have d:Region.wanted o (yielded ops a.tmps)=true:=by simp[Region.wanted,hgd]
 rw[wa d];exact OwnI.wp h ha ht hB hlt s y ho hs hy hK
section
variable {w wb wr wr':World}{Bo:Nat}{f:Fn}{vp vs vb:Value}{row:Array Value}{k:Nat}
end
end

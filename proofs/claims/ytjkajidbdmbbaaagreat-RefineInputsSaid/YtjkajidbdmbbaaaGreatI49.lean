/- Parts. -/
import Derived.Test.YtjkajidbdmbbaaaGreatI48
set_option linter.unusedSimpArgs false
set_option linter.unusedVariables false
set_option maxRecDepth 100000
set_option maxHeartbeats 16000000
open Go.Proofs.Tryz
namespace Go.Proofs.YtjkajidbdmbbaaaGreat
section
open Go.RowKit
namespace Rf
def inputE (f:Fn)(k:Int):Int:=if inputsE f≠0 then inputsE f else if k<0\/inputsN f<=k then 4 else 0
def inputX (f:Fn)(k:Int):Rn.Inp:=if inputE f k=0 then input f k else ⟨[],[]⟩
theorem inputE_zero {f:Fn}{k:Int}(h:inputE f k=0):inputsE f=0/\0<=k/\k<inputsN f:=by
 unfold inputE at h;by_cases d:inputsE f=0
 ·rw[tC (by simp[d])]at h;refine⟨d,?_,?_⟩
  ·exact Classical.byContradiction fun q=>by rw[tB (.inl (by omega))]at h;cases h
  ·exact Classical.byContradiction fun q=>by rw[tB (.inr (by omega))]at h;cases h
 ·rw[tB d]at h;exact absurd h d
theorem input_rows {f:Fn}(h:inputsE f=0)(k:Int):∀l∈(input f k).mem,l≠[]:=by intro l d e;have j:(input f k).mem=f.slots.map fun n=>List.replicate n.toNat 0:=rfl;rw[j]at d;obtain⟨z,m,rfl⟩:=List.mem_map.1 d;have hv:=(Ref.val_iff f).1 (inputs_small h).1;have:=tu.1 hv.head.2 z m;unfold Ref.isSlot at this;simp only[tD,decide_eq_true_eq]at this;have g:=congrArg List.length e;simp at g;omega
end Rf
theorem InpAt.other {w w':World}{B:Nat}{ty:TypeId}{va vm:Value}{i:Rn.Inp}(h:InpAt w.heap.size w va vm i)(hF:FrS (·=B) w w')(hB:w.heap[B]?=some (.cells #[.slice none 0 0,.slice none 0 0] ty (0,0)))(hm:∀l∈i.mem,l≠[]):InpAt w'.heap.size w' va vm i:=by
 have D:∀o v,w.cell? ⟨B,o,none⟩=some v->v=.slice none 0 0:=fun o v e=>by
  rw[tv _ _ o _ _ _ hB]at e
  match o,e with
  | 0,e=>simpa using e.symm
  | 1,e=>simpa using e.symm
  | n+2,e=>simp at e
 have p:∀b o v,b<w.heap.size->v≠.slice none 0 0->w.cell? ⟨b,o,none⟩=some v->w'.cell? ⟨b,o,none⟩=some v:=fun b o v d hv e=>by have E:b≠B:=fun q=>hv (D o v (q ▸ e));have:=hF.block b d E;rw[<-e];simp only[World.cell?,this]
 refine⟨?_,?_,h.2.2⟩
 ·exact SlAt.mono (SlAt.imp h.1 fun b off d g j z r=>p _ _ _ d (by simp) (g j z r)) hF.size
 ·refine SlAt.mono (SlAt.imp h.2.1 fun b off d g j l y=>?_) hF.size;obtain⟨u,C,t⟩:=g j l y
  have F:u≠.slice none 0 0:=fun q=>by obtain⟨A,c,e,-,-,J⟩:=t;have m:l≠[]:=hm l (sS y);have K:0<l.length:=List.length_pos_iff.2 m;rw[q]at e;injection e with G H I;omega
  exact⟨u,p _ _ _ d F C,SlAt.mono (SlAt.imp t fun b off d g j z r=>p _ _ _ d (by simp) (g j z r)) hF.size⟩
def InO (f:Fn)(k:Int)(e:Ending)(w':World):Prop :=
 ∃A c A2 c2,e=.returned (.tuple #[.agg #[.slice A (Rf.inputX f k).args.length c,.slice A2 (Rf.inputX f k).mem.length c2],.int .i64 (Rf.inputE f k)])/\InpAt w'.heap.size w' (.slice A (Rf.inputX f k).args.length c) (.slice A2 (Rf.inputX f k).mem.length c2) (Rf.inputX f k)
theorem qO (w:World):InpAt w.heap.size w (.slice none 0 0) (.slice none 0 0) ⟨[],[]⟩ :=
 ⟨⟨none,0,rfl,tS _,by simp,fun h=>by simp at h⟩,⟨none,0,rfl,tS _,by simp,fun h=>by simp at h⟩,fun a ha=>by cases ha⟩
theorem fM {f:Fn}{k:Int}{E:Int}{w:World}(hE:Rf.inputE f k=E)(h:E≠0):InO f k (.returned (.tuple #[.agg #[.slice none 0 0,.slice none 0 0],.int .i64 E])) w:=by
 have d:Rf.inputX f k=⟨[],[]⟩:=by unfold Rf.inputX;rw[tC (by rw[hE];exact h)]
 refine⟨none,0,none,0,?_,?_⟩
 ·rw[d,hE];rfl
 ·rw[d];exact qO w
theorem lZ {w:World}{vf:Value}{f:Fn}(hf:FnAt w.heap.size w vf f)(hn:fH f)(k:Int):Calls prog 24 #[vf,.int .i64 k] w fun e w'=>InO f k e w'/\Gr w w':=by
 have I:Hid (∀u,Gr w u->Calls prog 22 #[vf] u (RG (dw f) u)):=fun u q=>eO (hf.gr q) hn
 have J:Hid (Rf.inputE f k=0->∀u,Gr w u->Calls prog 46 #[vf,.int .i64 k] u fun e w'=>(∃A c H Q,e=.returned (.agg #[.slice A (Rf.input f k).args.length c,.slice H (Rf.input f k).mem.length Q])/\InpAt w'.heap.size w' (.slice A (Rf.input f k).args.length c) (.slice H (Rf.input f k).mem.length Q) (Rf.input f k))/\Gr u w'):=fun h u q=>by obtain⟨Y,Z,h3⟩:=Rf.inputE_zero h;obtain⟨z,q2,q3,-,-,q4⟩:=Rf.inputs_small Y;obtain⟨n,rfl⟩:=tb Z;exact ju (hf.gr q) z (by omega) (by omega)
 have B:Hid (Rf.inputE f k=if Rf.inputsE f≠0 then Rf.inputsE f else if k<0\/Rf.inputsN f<=k then 4 else 0):=by show _=_;rfl
 obtain⟨vp,vs,vb,rfl,hp,hs,hb⟩:=hf;obtain⟨Ap,cp,rfl,-⟩:=hp;obtain⟨As,cs,rfl,-⟩:=hs;obtain⟨Ab,cb,rfl,-⟩:=hb;obtain⟨d,L⟩:=xJ (w.alloc (.cells #[.slice Ap f.params.length cp,.int .i64 f.ret,.slice As f.slots.length cs,.slice Ab f.blocks.length cb] 36));obtain⟨W,hW⟩:=xJ (d.alloc (.cells #[.slice none 0 0,.slice none 0 0] 41));have R:Gr w d:=by rw[<-L];exact(tX _).alloc _
 have l:Gr d W:=by rw[<-hW];exact(tX _).alloc _
 have D:w.heap.size<=d.heap.size:=R.size;have z:W.heap[d.heap.size]?=some (.cells #[.slice none 0 0,.slice none 0 0] 41 (0,0)):=by rw[<-hW];exact heap_alloc_new _ _
 have K:=dJ (R.trans l);have HK:Hid (∀u,Gr W u->FBox w.heap.size u f Ap As Ab cp cs cb):=fun u g=>by have:=l.trans g;rw[<-L]at this;exact FBox.new this rfl
 have O:Hid (∀u,Gr W u->u.cell? ⟨d.heap.size,0,none⟩=some (.slice none 0 0)/\u.cell? ⟨d.heap.size,1,none⟩=some (.slice none 0 0)/\u.frozen? ⟨d.heap.size,0,none⟩=false/\u.frozen? ⟨d.heap.size,1,none⟩=false):=fun u g=>by have:=(g.heap _ (cX z)).trans z;exact⟨tv _ _ 0 _ _ _ this,tv _ _ 1 _ _ _ this,tx _ _ 0 _ _ this,tx _ _ 1 _ _ this⟩
 have U:Hid (∀u,Gr W u->u.heap[d.heap.size]?=some (.cells #[.slice none 0 0,.slice none 0 0] 41 (0,0))):=fun u g=>(g.heap _ (cX z)).trans z
 have m:Hid (∀(u:World)(a c:Value),Gr W u->Gr w ((u.setCell ⟨d.heap.size,0,none⟩ a).setCell ⟨d.heap.size,1,none⟩ c)/\((u.setCell ⟨d.heap.size,0,none⟩ a).setCell ⟨d.heap.size,1,none⟩ c).cell? ⟨d.heap.size,0,none⟩=some a/\((u.setCell ⟨d.heap.size,0,none⟩ a).setCell ⟨d.heap.size,1,none⟩ c).cell? ⟨d.heap.size,1,none⟩=some c/\FrS (·=d.heap.size) u ((u.setCell ⟨d.heap.size,0,none⟩ a).setCell ⟨d.heap.size,1,none⟩ c)):=fun u a c g=>by have:=(g.heap _ (cX z)).trans z;have h9:=cY (i:=1) c (cY (i:=0) a this);exact⟨Gr.setCell (Gr.setCell ((R.trans l).trans g) (p:=⟨d.heap.size,0,none⟩) D _) (p:=⟨d.heap.size,1,none⟩) D _,tv _ _ 0 _ _ _ h9,tv _ _ 1 _ _ _ h9,((FrS.refl (·=d.heap.size) u).setCell (p:=⟨d.heap.size,0,none⟩) rfl _).setCell (p:=⟨d.heap.size,1,none⟩) rfl _⟩
 obtain⟨k0,k1,k2,k3⟩:=HK.out W (tX W);unfold dw at I;obtain⟨E,hE⟩:=xJ (Rf.inputsE f);obtain⟨N,hN⟩:=xJ (Rf.inputsN f);rw[hE,hN]at I B;have M:d.heap.size<W.heap.size:=cX z;have ab:=dJ M;clear hE hN hn R l z M D;by_cases t:E=0
 ·have e0:(E != 0)=false:=by simp[t]
  by_cases Y:k<0
  ·have j:Hid (Rf.inputE f k=4):=by show _=_;rw[B.out,tC (by simp[t]),tB (.inl Y)]
   clear J B t
   go_enter func24, ntmps24
   go_wp2_with (go_at_call 22;refine(I.out _ K.out).mono ?_;rintro e y ⟨rfl,l⟩;have r:=dJ l;clear l;obtain⟨y0,y1,y2,y3⟩:=O.out y r.out);obtain⟨F,G,z3,-⟩:=m.out y (.slice none 0 0) (.slice none 0 0) r.out;refine tA (v:=.tuple #[.agg #[.slice none 0 0,.slice none 0 0],.int .i64 4]) (by simp[results,results24,go_sem,G,z3]) rfl ?_;exact⟨fM j.out (by decide),F⟩
  ·by_cases Z:N<=k
   ·have j:Hid (Rf.inputE f k=4):=by show _=_;rw[B.out,tC (by simp[t]),tB (.inr Z)]
    clear J B t
    go_enter func24, ntmps24
    go_wp2_with (go_at_call 22;refine(I.out _ K.out).mono ?_;rintro e y ⟨rfl,l⟩;have r:=dJ l;clear l;obtain⟨y0,y1,y2,y3⟩:=O.out y r.out);obtain⟨F,G,z3,-⟩:=m.out y (.slice none 0 0) (.slice none 0 0) r.out;refine tA (v:=.tuple #[.agg #[.slice none 0 0,.slice none 0 0],.int .i64 4]) (by simp[results,results24,go_sem,G,z3]) rfl ?_;exact⟨fM j.out (by decide),F⟩
   ·have j:Hid (Rf.inputE f k=0):=by show _=_;rw[B.out,tC (by simp[t]),tC (by omega)]
    have Q:=dJ (J.out j.out);have HX:Hid (Rf.inputX f k=Rf.input f k):=by show _=_;unfold Rf.inputX;rw[tB j.out]
    clear J B t
    go_enter func24, ntmps24
    go_wp2_with (first|(go_at_call 22;refine(I.out _ K.out).mono ?_;rintro e y ⟨rfl,l⟩;have r:=dJ l;clear l;obtain⟨k0,k1,k2,k3⟩:=HK.out y r.out)|(go_at_call 46;refine(Q.out _ (K.out.trans r.out)).mono ?_;rintro e S ⟨⟨A,c,H,C,rfl,hi⟩,X⟩;have HI:=dJ hi;have T:Hid (Gr W S):=r.out.trans X;have aa:Hid (Gr y S):=X;clear hi X;obtain⟨y0,y1,y2,y3⟩:=O.out S T.out))
    obtain⟨F,G,z3,z4⟩:=m.out S (.slice A (Rf.input f k).args.length c) (.slice H (Rf.input f k).mem.length C) T.out;refine tA (v:=.tuple #[.agg #[.slice A (Rf.input f k).args.length c,.slice H (Rf.input f k).mem.length C],.int .i64 0]) (by simp[results,results24,go_sem,G,z3]) rfl ?_;refine⟨⟨A,c,H,C,by rw[HX.out,j.out],?_⟩,F⟩;rw[HX.out];exact HI.out.other z4 (U.out _ T.out) (Rf.input_rows (Rf.inputE_zero j.out).1 k)
 ·have e0:(E != 0)=true:=by simp[t]
  have j:Hid (Rf.inputE f k=E):=by show _=_;rw[B.out,tB t]
  have H0:Hid (E≠0):=t;clear J B t
  go_enter func24, ntmps24
  go_wp2_with (go_at_call 22;refine(I.out _ K.out).mono ?_;rintro e y ⟨rfl,l⟩;have r:=dJ l;clear l;obtain⟨y0,y1,y2,y3⟩:=O.out y r.out);obtain⟨F,G,z3,-⟩:=m.out y (.slice none 0 0) (.slice none 0 0) r.out;refine tA (v:=.tuple #[.agg #[.slice none 0 0,.slice none 0 0],.int .i64 E]) (by simp[results,results24,go_sem,G,z3]) rfl ?_;exact⟨fM j.out H0.out,F⟩
theorem kO {w:World}{vf:Value}{f:Fn}(hf:FnAt w.heap.size w vf f)(hn:fH f)(k:Int):Calls prog 25 #[vf,.int .i64 k] w fun e w'=>InO f k e w'/\Gr w w':=by
 have I:Hid (∀u,Gr w u->Calls prog 23 #[vf] u (RG (dw f) u)):=fun u q=>fV (hf.gr q) hn
 have J:Hid (Rf.inputE f k=0->∀u,Gr w u->Calls prog 47 #[vf,.int .i64 k] u fun e w'=>(∃A c H Q,e=.returned (.agg #[.slice A (Rf.input f k).args.length c,.slice H (Rf.input f k).mem.length Q])/\InpAt w'.heap.size w' (.slice A (Rf.input f k).args.length c) (.slice H (Rf.input f k).mem.length Q) (Rf.input f k))/\Gr u w'):=fun h u q=>by obtain⟨Y,Z,h3⟩:=Rf.inputE_zero h;obtain⟨z,q2,q3,-,-,q4⟩:=Rf.inputs_small Y;obtain⟨n,rfl⟩:=tb Z;exact kP (hf.gr q) z (by omega) (by omega)
 have B:Hid (Rf.inputE f k=if Rf.inputsE f≠0 then Rf.inputsE f else if k<0\/Rf.inputsN f<=k then 4 else 0):=by show _=_;rfl
 obtain⟨vp,vs,vb,rfl,hp,hs,hb⟩:=hf;obtain⟨Ap,cp,rfl,-⟩:=hp;obtain⟨As,cs,rfl,-⟩:=hs;obtain⟨Ab,cb,rfl,-⟩:=hb;obtain⟨d,L⟩:=xJ (w.alloc (.cells #[.slice Ap f.params.length cp,.int .i64 f.ret,.slice As f.slots.length cs,.slice Ab f.blocks.length cb] 36));obtain⟨W,hW⟩:=xJ (d.alloc (.cells #[.slice none 0 0,.slice none 0 0] 41));have R:Gr w d:=by rw[<-L];exact(tX _).alloc _
 have l:Gr d W:=by rw[<-hW];exact(tX _).alloc _
 have D:w.heap.size<=d.heap.size:=R.size;have z:W.heap[d.heap.size]?=some (.cells #[.slice none 0 0,.slice none 0 0] 41 (0,0)):=by rw[<-hW];exact heap_alloc_new _ _
 have K:=dJ (R.trans l);have HK:Hid (∀u,Gr W u->FBox w.heap.size u f Ap As Ab cp cs cb):=fun u g=>by have:=l.trans g;rw[<-L]at this;exact FBox.new this rfl
 have O:Hid (∀u,Gr W u->u.cell? ⟨d.heap.size,0,none⟩=some (.slice none 0 0)/\u.cell? ⟨d.heap.size,1,none⟩=some (.slice none 0 0)/\u.frozen? ⟨d.heap.size,0,none⟩=false/\u.frozen? ⟨d.heap.size,1,none⟩=false):=fun u g=>by have:=(g.heap _ (cX z)).trans z;exact⟨tv _ _ 0 _ _ _ this,tv _ _ 1 _ _ _ this,tx _ _ 0 _ _ this,tx _ _ 1 _ _ this⟩
 have U:Hid (∀u,Gr W u->u.heap[d.heap.size]?=some (.cells #[.slice none 0 0,.slice none 0 0] 41 (0,0))):=fun u g=>(g.heap _ (cX z)).trans z
 have m:Hid (∀(u:World)(a c:Value),Gr W u->Gr w ((u.setCell ⟨d.heap.size,0,none⟩ a).setCell ⟨d.heap.size,1,none⟩ c)/\((u.setCell ⟨d.heap.size,0,none⟩ a).setCell ⟨d.heap.size,1,none⟩ c).cell? ⟨d.heap.size,0,none⟩=some a/\((u.setCell ⟨d.heap.size,0,none⟩ a).setCell ⟨d.heap.size,1,none⟩ c).cell? ⟨d.heap.size,1,none⟩=some c/\FrS (·=d.heap.size) u ((u.setCell ⟨d.heap.size,0,none⟩ a).setCell ⟨d.heap.size,1,none⟩ c)):=fun u a c g=>by have:=(g.heap _ (cX z)).trans z;have h9:=cY (i:=1) c (cY (i:=0) a this);exact⟨Gr.setCell (Gr.setCell ((R.trans l).trans g) (p:=⟨d.heap.size,0,none⟩) D _) (p:=⟨d.heap.size,1,none⟩) D _,tv _ _ 0 _ _ _ h9,tv _ _ 1 _ _ _ h9,((FrS.refl (·=d.heap.size) u).setCell (p:=⟨d.heap.size,0,none⟩) rfl _).setCell (p:=⟨d.heap.size,1,none⟩) rfl _⟩
 obtain⟨k0,k1,k2,k3⟩:=HK.out W (tX W);unfold dw at I;obtain⟨E,hE⟩:=xJ (Rf.inputsE f);obtain⟨N,hN⟩:=xJ (Rf.inputsN f);rw[hE,hN]at I B;have M:d.heap.size<W.heap.size:=cX z;have ab:=dJ M;clear hE hN hn R l z M D;by_cases t:E=0
 ·have e0:(E != 0)=false:=by simp[t]
  by_cases Y:k<0
  ·have j:Hid (Rf.inputE f k=4):=by show _=_;rw[B.out,tC (by simp[t]),tB (.inl Y)]
   clear J B t
   go_enter func25, ntmps25
   go_wp2_with (go_at_call 23;refine(I.out _ K.out).mono ?_;rintro e y ⟨rfl,l⟩;have r:=dJ l;clear l;obtain⟨y0,y1,y2,y3⟩:=O.out y r.out);obtain⟨F,G,z3,-⟩:=m.out y (.slice none 0 0) (.slice none 0 0) r.out;refine tA (v:=.tuple #[.agg #[.slice none 0 0,.slice none 0 0],.int .i64 4]) (by simp[results,results25,go_sem,G,z3]) rfl ?_;exact⟨fM j.out (by decide),F⟩
  ·by_cases Z:N<=k
   ·have j:Hid (Rf.inputE f k=4):=by show _=_;rw[B.out,tC (by simp[t]),tB (.inr Z)]
    clear J B t
    go_enter func25, ntmps25
    go_wp2_with (go_at_call 23;refine(I.out _ K.out).mono ?_;rintro e y ⟨rfl,l⟩;have r:=dJ l;clear l;obtain⟨y0,y1,y2,y3⟩:=O.out y r.out);obtain⟨F,G,z3,-⟩:=m.out y (.slice none 0 0) (.slice none 0 0) r.out;refine tA (v:=.tuple #[.agg #[.slice none 0 0,.slice none 0 0],.int .i64 4]) (by simp[results,results25,go_sem,G,z3]) rfl ?_;exact⟨fM j.out (by decide),F⟩
   ·have j:Hid (Rf.inputE f k=0):=by show _=_;rw[B.out,tC (by simp[t]),tC (by omega)]
    have Q:=dJ (J.out j.out);have HX:Hid (Rf.inputX f k=Rf.input f k):=by show _=_;unfold Rf.inputX;rw[tB j.out]
    clear J B t
    go_enter func25, ntmps25
    go_wp2_with (first|(go_at_call 23;refine(I.out _ K.out).mono ?_;rintro e y ⟨rfl,l⟩;have r:=dJ l;clear l;obtain⟨k0,k1,k2,k3⟩:=HK.out y r.out)|(go_at_call 47;refine(Q.out _ (K.out.trans r.out)).mono ?_;rintro e S ⟨⟨A,c,H,C,rfl,hi⟩,X⟩;have HI:=dJ hi;have T:Hid (Gr W S):=r.out.trans X;have aa:Hid (Gr y S):=X;clear hi X;obtain⟨y0,y1,y2,y3⟩:=O.out S T.out))
    obtain⟨F,G,z3,z4⟩:=m.out S (.slice A (Rf.input f k).args.length c) (.slice H (Rf.input f k).mem.length C) T.out;refine tA (v:=.tuple #[.agg #[.slice A (Rf.input f k).args.length c,.slice H (Rf.input f k).mem.length C],.int .i64 0]) (by simp[results,results25,go_sem,G,z3]) rfl ?_;refine⟨⟨A,c,H,C,by rw[HX.out,j.out],?_⟩,F⟩;rw[HX.out];exact HI.out.other z4 (U.out _ T.out) (Rf.input_rows (Rf.inputE_zero j.out).1 k)
 ·have e0:(E != 0)=true:=by simp[t]
  have j:Hid (Rf.inputE f k=E):=by show _=_;rw[B.out,tB t]
  have H0:Hid (E≠0):=t;clear J B t
  go_enter func25, ntmps25
  go_wp2_with (go_at_call 23;refine(I.out _ K.out).mono ?_;rintro e y ⟨rfl,l⟩;have r:=dJ l;clear l;obtain⟨y0,y1,y2,y3⟩:=O.out y r.out);obtain⟨F,G,z3,-⟩:=m.out y (.slice none 0 0) (.slice none 0 0) r.out;refine tA (v:=.tuple #[.agg #[.slice none 0 0,.slice none 0 0],.int .i64 E]) (by simp[results,results25,go_sem,G,z3]) rfl ?_;exact⟨fM j.out H0.out,F⟩
theorem jS {w:World}{A:Option Addr}{n c:Nat}{t:List (List Int)}(h:TabAt w.heap.size w (.slice A n c) t):∀(i:Nat)(x:List Int),t[i]?=some x->∃b off Ax cx,A=some ⟨b,off,none⟩/\x.length<=17592186044416 /\
  (∀u,Gr w u->u.cell? ⟨b,off+i,none⟩=some (.slice Ax x.length cx))/\∀(k:Nat)(y:Int),x[k]?=some y->∃bx ox,Ax=some ⟨bx,ox,none⟩/\∀u,Gr w u->u.cell? ⟨bx,ox+k,none⟩=some (.int .i64 y):=by
 obtain⟨D,E,e,H,I,p⟩:=h;injection e with m F G;subst m;intro i x l;obtain⟨b,off,rfl,q,r⟩:=p (by have:=(sR.1 l).1;omega);obtain⟨u,z,Ax,cx,rfl,J,B,C⟩:=r i x l;refine⟨b,off,Ax,cx,rfl,B,fun v g=>(g.cell _ _ q).trans z,fun k y hy=>?_⟩;obtain⟨bx,ox,rfl,d,j⟩:=C (by have:=(sR.1 hy).1;omega);exact⟨bx,ox,rfl,fun v g=>(g.cell _ _ d).trans (j k y hy)⟩
theorem jU {w:World}{A:Option Addr}{n c:Nat}{t:List Int}(h:U32At w.heap.size w (.slice A n c) t):∀(i:Nat)(x:Int),t[i]?=some x->∃b off,A=some ⟨b,off,none⟩/\∀u,Gr w u->u.cell? ⟨b,off+i,none⟩=some (.int .u32 x):=by obtain⟨q,r,e,B,C,l⟩:=h;injection e with j y z;subst j;intro i x d;obtain⟨b,off,rfl,m,p⟩:=l (by have:=(sR.1 d).1;omega);exact⟨b,off,rfl,fun v g=>(g.cell _ _ m).trans (p i x d)⟩
theorem iV {w:World}{va vm vb vn:Value}{i:Rn.Inp}(ha:InpAt w.heap.size w va vm i)(hb:InpAt w.heap.size w vb vn i) :
  Calls prog 26 #[.agg #[va,vm],.agg #[vb,vn]] w (RG (.bool true) w):=by
 obtain⟨m,im⟩:=i;obtain⟨Y,ca,rfl,a1,a2,-⟩:=id ha.1;obtain⟨Am,cm,rfl,m1,m2,-⟩:=id ha.2.1;obtain⟨Z,cb,rfl,b1,b2,-⟩:=id hb.1;obtain⟨An,cn,rfl,n1,n2,-⟩:=id hb.2.1;dsimp only at a1 a2 m1 m2;obtain⟨D,E⟩:=xJ (w.alloc (.cells #[.slice Y m.length ca,.slice Am im.length cm] 41));obtain⟨W,hW⟩:=xJ (D.alloc (.cells #[.slice Z m.length cb,.slice An im.length cn] 41));have g1:Gr w D:=by rw[<-E];exact(tX w).alloc _
 have g2:Gr D W:=by rw[<-hW];exact(tX D).alloc _
 have J:=g1.trans g2;have q1:W.heap[w.heap.size]?=some (.cells #[.slice Y m.length ca,.slice Am im.length cm] 41 (0,0)):=(g2.heap _ (by rw[<-E];simp)).trans (by rw[<-E];exact heap_alloc_new _ _);have q2:W.heap[D.heap.size]?=some (.cells #[.slice Z m.length cb,.slice An im.length cn] 41 (0,0)):=by rw[<-hW];exact heap_alloc_new _ _
 have q:Hid (∀u,Gr W u->u.cell? ⟨w.heap.size,0,none⟩=some (.slice Y m.length ca)/\u.cell? ⟨w.heap.size,1,none⟩=some (.slice Am im.length cm)/\u.cell? ⟨D.heap.size,0,none⟩=some (.slice Z m.length cb)/\u.cell? ⟨D.heap.size,1,none⟩=some (.slice An im.length cn)):=fun u g=>by have r1:=(g.heap _ (cX q1)).trans q1;have r2:=(g.heap _ (cX q2)).trans q2;exact⟨tv _ _ 0 _ _ _ r1,tv _ _ 1 _ _ _ r1,tv _ _ 0 _ _ _ r2,tv _ _ 1 _ _ _ r2⟩
 have HA:=dJ (jU (ha.gr J).1);have HB:=dJ (jU (hb.gr J).1);have HM:=dJ (jS (ha.gr J).2.1);have HN:=dJ (jS (hb.gr J).2.1);have HG:=dJ J;obtain⟨y,A,B,C⟩:=q.out W (tX W);have a3:(m.length:Int)<=17592186044416:=by omega
 have m3:(im.length:Int)<=17592186044416:=by omega
 clear ha hb g1 g2 J q1 q2 a1 a2 m1 m2 b1 b2 n1 n2;have X:((m.length:Int) != (m.length:Int))=false:=by simp
 have s2:((im.length:Int) != (im.length:Int))=false:=by simp
 dsimp only at *
 go_enter func26, ntmps26
 go_wp2;clear y A B C X s2
 go_loopw [5] (fun s5 wr=>∃k:Nat,k<=m.length/\s5=.int .i64 (k:Int)/\Hid (Gr W wr)) (fun s5 _=>m.length-(intOf s5).toNat)
 case atStart=>exact⟨0,tR _,rfl,tX _⟩
 case round =>
  obtain⟨k,hk,rfl,p⟩:=hrel;have d:=p.out;obtain⟨y,A,B,C⟩:=q.out wr d;have t:=dJ d;by_cases l:k<m.length
  ·obtain⟨z,I⟩:∃z,m[k]?=some z:=⟨_,sQ l⟩;obtain⟨ba,oa,rfl,O⟩:=HA.out k z I;obtain⟨bb,ob,rfl,Q⟩:=HB.out k z I;have U0:=fun u:GrW wr=>(q.out u.val (d.trans u.gr)).1;have U2:=fun u:GrW wr=>(q.out u.val (d.trans u.gr)).2.2.1;have M:=fun u:GrW wr=>O u.val (d.trans u.gr);have N:=fun u:GrW wr=>Q u.val (d.trans u.gr);have X:(z != z)=false:=by simp
   have ac:(k:Int)<(m.length:Int):=by omega
   clear I O Q p d;go_wp2;refine dg (by kernel_rfl) (by kernel_rfl) ?_;repeat (go_big_quiet_step (fail))
   refine wpQuiet_nil ?_;intro w8 F;obtain⟨u8,rfl⟩:=F;have G8:=dJ (t.out.trans u8.gr);clear U0 U2 M N y A B C;go_wp2;exact⟨⟨k+1,by omega,by go_num,G8.out⟩,by simp[intOf];omega⟩
  ·obtain rfl:k=m.length:=by omega
   clear p d l hk;go_wp2;clear y A B C
   go_loopw [6,7] (fun s6 _ wr=>∃j:Nat,j<=im.length/\s6=.int .i64 (j:Int)/\Hid (Gr W wr)) (fun s6 _ _=>im.length-(intOf s6).toNat)
   case atStart=>exact⟨0,tR _,rfl,t⟩
   case round =>
    obtain⟨j,hj,rfl,p⟩:=hrel;have d:=p.out;obtain⟨y,A,B,C⟩:=q.out wr d;have t:=dJ d;by_cases l:j<im.length
    ·obtain⟨r,hr⟩:∃r,im[j]?=some r:=⟨_,sQ l⟩;obtain⟨bm,om,Ax,cx,rfl,ag,G,T⟩:=HM.out j r hr;obtain⟨bn,on,Ay,cy,rfl,-,H,U⟩:=HN.out j r hr;have K:=dJ G;have L:=dJ H;have aa:=dJ T;have ab:=dJ U;have U1:=fun u:GrW wr=>(q.out u.val (d.trans u.gr)).2.1;have U3:=fun u:GrW wr=>(q.out u.val (d.trans u.gr)).2.2.2;have M:=fun u:GrW wr=>G u.val (d.trans u.gr);have N:=fun u:GrW wr=>H u.val (d.trans u.gr);have X:((r.length:Int) != (r.length:Int))=false:=by simp
     have af:(j:Int)<(im.length:Int):=by omega
     have HJ:Hid (j<im.length):=l;clear hr G H T U p d;go_wp2;refine dg (by kernel_rfl) (by kernel_rfl) ?_;repeat (go_big_quiet_step (fail))
     refine wpQuiet_nil ?_;intro w8 F;obtain⟨u8,rfl⟩:=F;have G8:=dJ (t.out.trans u8.gr);clear U1 U3 M N y A B C X;go_wp2
     go_loopw [7] (fun s7 w2=>∃k:Nat,k<=r.length/\s7=.int .i64 (k:Int)/\Hid (Gr W w2)) (fun s7 _=>r.length-(intOf s7).toNat)
     case atStart=>exact⟨0,tR _,rfl,G8.out⟩
     case round=>as_aux_lemma =>
      obtain⟨k,hk,rfl,p⟩:=hrel;have d:=p.out;obtain⟨y,A,B,C⟩:=q.out wr d;have x5:=K.out wr d;have x6:=L.out wr d;have t:=dJ d;by_cases l:k<r.length
      ·obtain⟨z,I⟩:∃z,r[k]?=some z:=⟨_,sQ l⟩;obtain⟨bx,ox,rfl,R⟩:=aa.out k z I;obtain⟨ae,oy,rfl,S⟩:=ab.out k z I;have U1:=fun u:GrW wr=>(q.out u.val (d.trans u.gr)).2.1;have U3:=fun u:GrW wr=>(q.out u.val (d.trans u.gr)).2.2.2;have M:=fun u:GrW wr=>K.out u.val (d.trans u.gr);have N:=fun u:GrW wr=>L.out u.val (d.trans u.gr);have U6:=fun u:GrW wr=>R u.val (d.trans u.gr);have U7:=fun u:GrW wr=>S u.val (d.trans u.gr);have X:(z != z)=false:=by simp
       have ac:(k:Int)<(r.length:Int):=by omega
       clear I R S p d;go_wp2;refine dg (by kernel_rfl) (by kernel_rfl) ?_;repeat (go_big_quiet_step (fail))
       refine wpQuiet_nil ?_;intro w7 ad;obtain⟨u7,rfl⟩:=ad;have G7:=dJ (t.out.trans u7.gr);clear U1 U3 M N U6 U7 y A B C x5 x6;go_wp2;exact⟨⟨k+1,by omega,by go_num,G7.out⟩,by simp[intOf];omega⟩
      ·obtain rfl:k=r.length:=by omega
       clear p d l hk;go_wp2;exact⟨⟨j+1,by have:=HJ.out;omega,by go_num,t.out⟩,by have:=HJ.out;simp[intOf];omega⟩
    ·obtain rfl:j=im.length:=by omega
     clear p d l hj;go_wp2;go_ret;exact⟨rfl,HG.out.trans t.out⟩
theorem Rn.widB_of {n:Int}(h:Wd.Wid n):Wd.widB n=true:=by unfold Wd.widB;have d:=h.1;have g:=h.2;simp[d,g]
theorem km {w:World}{f:Fn}{vf:Value}(hfn:FnAt w.heap.size w vf f)(hnice:fH f){i:Rn.Inp}{va vm:Value}(ha:U32At w.heap.size w va i.args)(hm:TabAt w.heap.size w vm i.mem)(hnn:∀a∈i.args,0<=a/\a<4294967296) :
  Calls prog 27 #[vf,.agg #[va,vm]] w (RG (.int .i64 (Rn.validInput f i)) w):=by
 have aD:=dJ hnn;clear hnn;obtain⟨vp,vs,vb,rfl,hp,hs,hb⟩:=hfn;obtain⟨W,hW⟩:=xJ ((w.alloc (.cells #[vp,.int .i64 f.ret,vs,vb] 36)).alloc (.cells #[va,vm] 41));have G:Gr w W:=by rw[<-hW];exact((tX w).alloc _).alloc _
 have au:(w.alloc (.cells #[vp,.int .i64 f.ret,vs,vb] 36)).heap.size=w.heap.size+1:=by simp
 have ac:W.heap[w.heap.size]?=some (.cells #[vp,.int .i64 f.ret,vs,vb] 36 (0,0)):=by rw[<-hW];exact(((tX (w.alloc (.cells #[vp,.int .i64 f.ret,vs,vb] 36))).alloc _).heap _ (by simp)).trans (heap_alloc_new w _)
 have ad:W.heap[w.heap.size+1]?=some (.cells #[va,vm] 41 (0,0)):=by rw[<-hW,<-au];exact heap_alloc_new _ _
 have CV:=dJ (fF (.agg #[vp,.int .i64 f.ret,vs,vb]) f W ⟨vp,vs,vb,rfl,(hp.below G).mono G.size,(hs.below G).mono G.size,(hb.below G).mono G.size⟩ hnice);have HF:Hid (∀wr,Gr W wr->wr.heap[w.heap.size]?=some (.cells #[vp,.int .i64 f.ret,vs,vb] 36 (0,0))/\wr.heap[w.heap.size+1]?=some (.cells #[va,vm] 41 (0,0))):=fun wr g=>⟨(g.heap _ (cX ac)).trans ac,(g.heap _ (cX ad)).trans ad⟩;obtain⟨Ap,cp,rfl,p1,p2,p3⟩:=hp;obtain⟨As,cs,rfl,s1,s2,s3⟩:=hs;obtain⟨Ab,cb,rfl,-,-,-⟩:=id hb;obtain⟨Aa,ca,rfl,a1,a2,a3⟩:=ha;obtain⟨Am,cm,rfl,m1,m2,m3⟩:=hm
 have al:Hid (∀wr,Gr W wr->∀j z,f.params[j]?=some z->∃b o,Ap=some ⟨b,o,none⟩/\wr.cell? ⟨b,o+j,none⟩=some (.int .i64 z)):=fun wr g j z r=>by obtain⟨b,o,e,hb,h4⟩:=p3 (by have:=(sR.1 r).1;omega);exact⟨b,o,e,((G.trans g).cell _ _ (by omega)).trans (h4 j z r)⟩
 have ao:Hid (∀wr,Gr W wr->∀j z,f.slots[j]?=some z->∃b o,As=some ⟨b,o,none⟩/\wr.cell? ⟨b,o+j,none⟩=some (.int .i64 z)):=fun wr g j z r=>by obtain⟨b,o,e,hb,h4⟩:=s3 (by have:=(sR.1 r).1;omega);exact⟨b,o,e,((G.trans g).cell _ _ (by omega)).trans (h4 j z r)⟩
 have ah:Hid (∀wr,Gr W wr->∀j z,i.args[j]?=some z->∃b o,Aa=some ⟨b,o,none⟩/\wr.cell? ⟨b,o+j,none⟩=some (.int .u32 z)):=fun wr g j z r=>by obtain⟨b,o,e,hb,h4⟩:=a3 (by have:=(sR.1 r).1;omega);exact⟨b,o,e,((G.trans g).cell _ _ (by omega)).trans (h4 j z r)⟩
 have az:Hid (∀j l,i.mem[j]?=some l->∃b o Al cl,Am=some ⟨b,o,none⟩/\l.length<=17592186044416/\∀wq,Gr W wq->wq.cell? ⟨b,o+j,none⟩=some (.slice Al l.length cl)/\∀t x,l[t]?=some x->∃b' o',Al=some ⟨b',o',none⟩/\wq.cell? ⟨b',o'+t,none⟩=some (.int .i64 x)):=fun j l hl=>by obtain⟨b,o,e,hb,h4⟩:=m3 (by have:=(sR.1 hl).1;omega);obtain⟨u,hu,Al,cl,rfl,-,h6,h7⟩:=h4 j l hl;refine⟨b,o,Al,cl,e,h6,fun wq g=>⟨((G.trans g).cell _ _ (by omega)).trans hu,fun t x E=>?_⟩⟩;obtain⟨b',o',F,aH,h8⟩:=h7 (by have:=(sR.1 E).1;omega);exact⟨b',o',F,((G.trans g).cell _ _ aH).trans (h8 t x E)⟩
 have C:=dJ G;obtain⟨R,hR⟩:=xJ (Rn.validInput f i);rw[hR];unfold Rn.validInput at hR;have HR:=dJ hR;obtain⟨V,hV⟩:=xJ (Ref.validate f);rw[hV]at CV HR;have HV:=dJ hV
 have aa:∀wr,Gr W wr->C6 wr w.heap.size (.slice Ap f.params.length cp) (.int .i64 f.ret) (.slice As f.slots.length cs) (.slice Ab f.blocks.length cb) (.slice Aa i.args.length ca) (.slice Am i.mem.length cm):=fun wr g=>by obtain⟨q1,q2⟩:=HF.out wr g;exact⟨tv _ _ 0 _ _ _ q1,tv _ _ 1 _ _ _ q1,tv _ _ 2 _ _ _ q1,tv _ _ 3 _ _ _ q1,tv _ _ 0 _ _ _ q2,tv _ _ 1 _ _ _ q2⟩
 have HC:=dJ aa;obtain⟨k0,k1,k2,k3,k4,k5⟩:=aa W (tX _);clear G ac ad p3 s3 a3 m3 hR hV aa au hb;by_cases av:V=0
 ·subst av
  have HW:Hid (∀j z,f.params[j]?=some z->Wd.Wid z):=fun j z r=>by have hv:Ref.Val f:=(Ref.val_iff f).1 HV.out;exact Rn.wid_of (tu.1 hv.head.1 z (sS r))
  by_cases y:i.args.length=f.params.length
  ·by_cases p:i.mem.length=f.slots.length
   ·have am:Hid ((if (f.params.zip i.args).any (fun q=>decide (Wd.sz q.1<=q.2))=true then 1 else if (f.slots.zip i.mem).any (fun q=>decide ((q.2.length:Int)≠q.1) || q.2.any (fun b=>decide (b < -1) || decide (255<b)))=true then 1 else 0)=R):=by
     have:=HR.out;rw[tC (by decide),tC (by omega)]at this;exact this
    obtain⟨n,hn⟩:=xJ f.params.length;obtain⟨m,hm⟩:=xJ f.slots.length;rw[hn]at y p1 p2 k0;rw[hm]at p s1 s2 k2;rw[y]at a1 a2 k4;rw[p]at m1 m2 k5
    have B:Hid (∀wr,Gr W wr->wr.cell? ⟨w.heap.size,0,none⟩=some (.slice Ap n cp)/\wr.cell? ⟨w.heap.size,2,none⟩=some (.slice As m cs)/\wr.cell? ⟨w.heap.size+1,0,none⟩=some (.slice Aa n ca)/\wr.cell? ⟨w.heap.size+1,1,none⟩=some (.slice Am m cm)):=fun wr g=>by obtain⟨q0,q1,q2,q3,q4,q5⟩:=HC.out wr g;rw[hn]at q0;rw[hm]at q2;rw[y]at q4;rw[p]at q5;exact⟨q0,q2,q4,q5⟩
    have aj:=dJ hn;have ak:=dJ hm;have aA:=dJ y;have aB:=dJ p;rw[hn,hm,y,p]at hW;rw[hn,hm]at CV;rw[hn,hm,y,p];clear y p hn hm
    go_enter func27, ntmps27
    go_wp2_with (go_at_call 44;refine CV.out.mono ?_;rintro e w1 ⟨rfl,Q⟩;obtain⟨j0,j2,j4,j5⟩:=B.out w1 Q;have N:=dJ Q)
    have aC:Hid (∀k z x,f.params[k]?=some z->i.args[k]?=some x->Wd.sz z<=x->R=1):=fun k z x d D H=>by rw[<-am.out,tB (Rn.zip_any_at d D (by simpa using H))]
    as_aux_lemma =>
     go_loopw [6] (fun s6 wr=>∃k:Nat,k<=n/\s6=.int .i64 (k:Int)/\Hid (Gr W wr)/\Hid (∀j z x,j<k->f.params[j]?=some z->i.args[j]?=some x->x<Wd.sz z)) (fun s6 _=>n-(intOf s6).toNat)
     case atStart=>exact⟨0,tR _,rfl,N,(fun j z x h=>absurd h (Nat.not_lt_zero _))⟩
     case round =>
      obtain⟨k,hk,rfl,A,K⟩:=hrel;obtain⟨q0,q2,q4,q5⟩:=B.out wr A.out;have U0:=fun u:GrW wr=>(B.out u.val (A.out.trans u.gr)).1;have U4:=fun u:GrW wr=>(B.out u.val (A.out.trans u.gr)).2.2.1;by_cases ae:k<n
      ·obtain⟨z,r⟩:∃z,f.params[k]?=some z:=⟨_,sQ (by have:=aj.out;omega)⟩;obtain⟨x,E⟩:∃x,i.args[k]?=some x:=⟨_,sQ (by have:=aA.out;omega)⟩;obtain⟨bp,op,rfl,cz⟩:=al.out wr A.out k z r;obtain⟨ba,oa,rfl,cx⟩:=ah.out wr A.out k x E
       have UZ:∀u:GrW wr,u.val.cell? ⟨bp,op+k,none⟩=some (.int .i64 z):=fun u=>by obtain⟨b',o',F,h'⟩:=al.out u.val (A.out.trans u.gr) k z r;injection F with F;injection F with e1 e2;subst e1;subst e2;exact h'
       have UX:∀u:GrW wr,u.val.cell? ⟨ba,oa+k,none⟩=some (.int .u32 x):=fun u=>by obtain⟨b',o',F,h'⟩:=ah.out u.val (A.out.trans u.gr) k x E;injection F with F;injection F with e1 e2;subst e1;subst e2;exact h'
       have ag:=aD.out x (sS E);have CM:Hid (∀u:GrW wr,Calls prog 48 #[.int .i64 z,.int .u32 x] u.val (RG (.bool (decide (x<Wd.sz z))) u.val)):=fun u=>(lJ z x u.val ag.1 ag.2).mono fun e w' h=>⟨by rw[h.1,Wd.wordB,Rn.widB_of (HW.out k z r),Bool.true_and],by rw[<-h.2];exact tX _⟩;have U:=dJ (aC.out k z x r E)
       have S:Hid (x<Wd.sz z->∀j z x,j<k+1->f.params[j]?=some z->i.args[j]?=some x->x<Wd.sz z):=fun h j z' x' hj d D=>by
        rcases tF j k with q|q
        ·exact K.out j z' x' q d D
        ·obtain rfl:j=k:=by omega
         rw[r]at d;rw[E]at D;injection d with d;injection D with D;subst d;subst D;exact h
       obtain⟨s,hs⟩:=xJ (Wd.sz z);rw[hs]at CM U S;clear r E hs ag cz cx;obtain⟨bd,I⟩:∃bd,decide (x<s)=bd:=⟨_,rfl⟩;rw[I]at CM;have L:=dJ I;clear I;cases bd
       all_goals
        go_wp2;refine dg (by kernel_rfl) (by kernel_rfl) ?_;repeat (go_big_quiet_step ((rename_i u;go_at_call 48;exact dt u (CM.out u))))
        refine wpQuiet_nil ?_;intro w9 af;obtain⟨u9,rfl⟩:=af;have G9:=dJ (A.out.trans u9.gr);clear U0 U4 UZ UX;go_wp2
       ·go_ret;have H:=L.out;simp at H;exact⟨dc (U.out H).symm,C.out.trans G9.out⟩
       ·have H:=L.out;simp at H;have O:=dJ (S.out H);refine⟨⟨k+1,by omega,by go_num,G9,O⟩,by simp[intOf];omega⟩
      ·obtain rfl:n=k:=by omega
       have an:Hid ((if (f.slots.zip i.mem).any (fun q=>decide ((q.2.length:Int)≠q.1) || q.2.any (fun b=>decide (b < -1) || decide (255<b)))=true then 1 else 0)=R):=by
        show _=_;have h:=am.out
        rw[Rn.zip_any_none (fun j a b d D=>by
          have hj:=(sR.1 d).1
          have:=K.out j a b (by have:=aj.out;omega) d D
          simpa using this)]at h
        simpa using h
       have aw:=A;clear K ae hk U0 U4;go_wp2
       as_aux_lemma =>
        go_loopw [7] (fun s7 wr=>∃k:Nat,k<=m/\s7=.int .i64 (k:Int)/\Hid (Gr W wr)/\Hid (∀j z l,j<k->f.slots[j]?=some z->i.mem[j]?=some l->(decide ((l.length:Int)≠z) || l.any (fun b=>decide (b < -1) || decide (255<b)))=false)) (fun s7 _=>m-(intOf s7).toNat)
        case atStart=>exact⟨0,tR _,rfl,aw,(fun j z x h=>absurd h (Nat.not_lt_zero _))⟩
        case round =>
         obtain⟨k,hk,rfl,A,K⟩:=hrel;obtain⟨q0,q2,q4,q5⟩:=B.out wr A.out;have U2:=fun u:GrW wr=>(B.out u.val (A.out.trans u.gr)).2.1;have U5:=fun u:GrW wr=>(B.out u.val (A.out.trans u.gr)).2.2.2;by_cases ae:k<m
         ·obtain⟨z,r⟩:∃z,f.slots[k]?=some z:=⟨_,sQ (by have:=ak.out;omega)⟩;obtain⟨l,hl⟩:∃l,i.mem[k]?=some l:=⟨_,sQ (by have:=aB.out;omega)⟩;obtain⟨bs,os,rfl,-⟩:=ao.out wr A.out k z r;obtain⟨bm,om,Al,cl,rfl,aq,p⟩:=az.out k l hl
          have UZ:∀u:GrW wr,u.val.cell? ⟨bs,os+k,none⟩=some (.int .i64 z):=fun u=>by obtain⟨b',o',F,h'⟩:=ao.out u.val (A.out.trans u.gr) k z r;injection F with F;injection F with e1 e2;subst e1;subst e2;exact h'
          have ai:=dJ p;have UL:=fun u:GrW wr=>(ai.out u.val (A.out.trans u.gr)).1
          have T:Hid ((decide ((l.length:Int)≠z) || l.any (fun b=>decide (b < -1) || decide (255<b)))=true->R=1):=fun h=>by rw[<-an.out,tB (Rn.zip_any_at r hl h)]
          have S:Hid ((decide ((l.length:Int)≠z) || l.any (fun b=>decide (b < -1) || decide (255<b)))=false->∀j z l,j<k+1->f.slots[j]?=some z->i.mem[j]?=some l->(decide ((l.length:Int)≠z) || l.any (fun b=>decide (b < -1) || decide (255<b)))=false):=fun h j z' l' hj d D=>by
           rcases tF j k with q|q
           ·exact K.out j z' l' q d D
           ·obtain rfl:j=k:=by omega
            rw[r]at d;rw[hl]at D;injection d with d;injection D with D;subst d;subst D;exact h
          have ay:=dJ aq;have ax:Hid (k<m):=ae;clear r hl aq p;obtain⟨bd,I⟩:∃bd,((l.length:Int) != z)=bd:=⟨_,rfl⟩;have L:=dJ I;cases bd
          all_goals
           go_wp2;refine dg (by kernel_rfl) (by kernel_rfl) ?_;repeat (go_big_quiet_step (fail))
           refine wpQuiet_nil ?_;intro w9 af;obtain⟨u9,rfl⟩:=af;have G9:=dJ (A.out.trans u9.gr);clear U2 U5 UZ UL
          ·clear I;go_wp2
           as_aux_lemma =>
            go_loopw [8] (fun s8 wq=>∃t:Nat,t<=l.length/\s8=.int .i64 (t:Int)/\Hid (Gr W wq)/\Hid (∀j x,j<t->l[j]?=some x->(decide (x < -1) || decide (255<x))=false)) (fun s8 _=>l.length-(intOf s8).toNat)
            case atStart=>exact⟨0,tR _,rfl,G9,(fun j x h=>absurd h (Nat.not_lt_zero _))⟩
            case round =>
             obtain⟨t,ht,rfl,J,Z⟩:=hrel;have aL:=ay.out;obtain⟨r0,r2,r4,r5⟩:=B.out wr J.out;obtain⟨aN,ab⟩:=ai.out wr J.out;by_cases Y:t<l.length
             ·obtain⟨x,E⟩:∃x,l[t]?=some x:=⟨_,sQ Y⟩;obtain⟨be,oe,rfl,ce⟩:=ab t x E
              have ap:Hid ((decide (x < -1) || decide (255<x))=true->R=1):=fun h=>T.out (by rw[show l.any (fun b=>decide (b < -1) || decide (255<b))=true from tP.2 ⟨x,sS E,h⟩,Bool.or_true])
              have aG:Hid ((decide (x < -1) || decide (255<x))=false->∀j x,j<t+1->l[j]?=some x->(decide (x < -1) || decide (255<x))=false):=fun h j x' hj d=>by
               rcases tF j t with q|q
               ·exact Z.out j x' q d
               ·obtain rfl:j=t:=by omega
                rw[E]at d;injection d with d;subst d;exact h
              have aF:Hid (t<l.length):=Y;clear E ab;by_cases aI:x < -1
              ·have M:Hid (R=1):=ap.out (by simp[aI]);go_wp2;go_ret;exact⟨dc M.out.symm,C.out.trans J.out⟩
              ·by_cases aJ:255<x
               ·have M:Hid (R=1):=ap.out (by simp[aJ]);go_wp2;go_ret;exact⟨dc M.out.symm,C.out.trans J.out⟩
               ·have aE:=dJ (aG.out (by simp;omega));go_wp2;have aP:=aF.out;refine⟨⟨t+1,by omega,by go_num,J,aE⟩,by simp[intOf];omega⟩
             ·obtain rfl:t=l.length:=by omega
              have O:=dJ (S.out (by
                have H:=L.out
                simp only[bne_eq_false_iff_eq]at H
                rw[List.any_eq_false.2 (fun x E=>by
                  obtain⟨j,hj⟩:=List.getElem?_of_mem E
                  have:=Z.out j x (sR.1 hj).1 hj
                  rw[this];exact Bool.false_ne_true)]
                simp[H]))
              clear ab;go_wp2;have aO:=ax.out;refine⟨⟨k+1,by omega,by go_num,J,O⟩,by simp[intOf];omega⟩
          ·go_wp2;go_ret;exact⟨dc (T.out (by have H:=L.out;simp at H;simp[H])).symm,C.out.trans G9.out⟩
         ·obtain rfl:m=k:=by omega
          have M:Hid (R=0):=by
           show _=_
           rw[<-an.out,Rn.zip_any_none (fun j a b d D=>by
             have hj:=(sR.1 d).1
             exact K.out j a b (by have:=ak.out;omega) d D)]
           rfl
          clear U2 U5;go_wp2;go_ret;exact⟨dc M.out.symm,C.out.trans A.out⟩
   ·have M:Hid (R=1):=by show _=_;rw[<-HR.out,tC (by decide),tB (.inr p)]
    have ar:¬((i.mem.length:Int)=(f.slots.length:Int)):=by omega
    have X:(i.args.length:Int)=(f.params.length:Int):=by omega
    have aK:((i.args.length:Int) != (f.params.length:Int))=false:=by simp[y]
    have aM:((i.mem.length:Int) != (f.slots.length:Int))=true:=by simp;omega
    clear y X ar
    go_enter func27, ntmps27
    go_wp2_with (go_at_call 44;refine CV.out.mono ?_;rintro e w1 ⟨rfl,Q⟩;obtain⟨j0,j1,j2,j3,j4,j5⟩:=HC.out w1 Q;have N:=dJ Q);go_ret;exact⟨dc M.out.symm,C.out.trans N.out⟩
  ·have M:Hid (R=1):=by show _=_;rw[<-HR.out,tC (by decide),tB (.inl y)]
   have X:¬((i.args.length:Int)=(f.params.length:Int)):=by omega
   go_enter func27, ntmps27
   go_wp2_with (go_at_call 44;refine CV.out.mono ?_;rintro e w1 ⟨rfl,Q⟩;obtain⟨j0,j1,j2,j3,j4,j5⟩:=HC.out w1 Q;have N:=dJ Q);go_ret;exact⟨dc M.out.symm,C.out.trans N.out⟩
 ·have M:Hid (R=V):=by show _=_;rw[<-HR.out,tB av]
  go_enter func27, ntmps27
  go_wp2_with (go_at_call 44;refine CV.out.mono ?_;rintro e w1 ⟨rfl,Q⟩);go_ret;exact⟨dc M.out.symm,C.out.trans Q⟩
end
section
open Go.RowKit Go.Deep Go.ChangeShapes Go.WideShapes
section
variable {H:Type}{enc:TypeId × Value->H}{w:World}
end
end
section
open Go.RowKit Go.Shelf
namespace Rf
theorem argsP_fit (k:Int):∀l:List Int,((l.zip (argsP k l)).any fun q=>decide (Wd.sz q.1<=q.2))=false
 | []=>rfl
 | w::r=>by
  have h:=Int.emod_lt_of_pos (k / Wd.sz (bitsOf r)) (Wd.sz_pos w)
  rw[argsP,List.zip_cons_cons,List.any_cons,argsP_fit k r,Bool.or_false];exact decide_eq_false (Int.not_le.2 h)
theorem argsP_word (k:Int):∀(l:List Int),(∀z∈l,0<=z/\z<=32)->∀a∈argsP k l,0<=a/\a<4294967296
 | [],_,a,h=>by cases h
 | w::r,hz,a,h=>by
  rw[argsP]at h
  rcases List.mem_cons.1 h with rfl|h
  ·have m:=Int.emod_lt_of_pos (k / Wd.sz (bitsOf r)) (Wd.sz_pos w)
   have p:=Int.emod_nonneg (k / Wd.sz (bitsOf r)) (Int.ne_of_gt (Wd.sz_pos w));obtain⟨g,j⟩:=hz w (by simp);have q:=gP g j;omega
  ·exact argsP_word k r (fun z d=>hz z (by simp[d])) a h
theorem rows_fit:∀l:List Int,(∀z∈l,0<=z)->((l.zip (l.map fun n=>List.replicate n.toNat (0:Int))).any fun q=>decide ((q.2.length:Int)≠q.1) || q.2.any fun b=>decide (b < -1) || decide (255<b))=false
 | [],_=>rfl
 | w::r,h=>by
  have j:=h w (by simp)
  rw[List.map_cons,List.zip_cons_cons,List.any_cons,rows_fit r (fun z g=>h z (by simp[g])),Bool.or_false,Bool.or_eq_false_iff];refine⟨decide_eq_false (by simp;omega),List.any_eq_false.2 fun b d=>?_⟩;rw[(List.mem_replicate.1 d).2];decide
theorem input_valid {f:Fn}(h:inputsE f=0)(k:Int):Rn.validInput f (input f k)=0/\∀a∈(input f k).args,0<=a/\a<4294967296:=by have hv:=(inputs_small h).1;obtain⟨-,j,-,m⟩:=valid_widths hv;have g:=gD f k fun z d=>(j z d).1;have l:(input f k).mem=f.slots.map fun n=>List.replicate n.toNat 0:=rfl;refine⟨?_,by rw[g];exact argsP_word k _ j⟩;unfold Rn.validInput;rw[g,l,tC (by simp[hv]),tC (by simp[argsP_len]),argsP_fit,tC (by simp),rows_fit _ fun z d=>(m z d).1,tC (by simp)]
end Rf
theorem lawRefineInputs_any {w:World}{f:Fn}{vf:Value}(hf:FnAt w.heap.size w vf f)(hnf:dR f=false->fH f)(k:Int) :
  Calls prog 7 #[vf,.int .i64 k] w (RG (.bool true) w):=by
 have J:Hid (∀H,Calls prog 11 #[] H (RG (.bool true) H)):=mn;have L1:Hid (∀u,Gr w u->Calls prog 16 #[vf] u (RG (.bool (dR f)) u)):=fun u q=>pg _ f u (hf.gr q);have m:Hid (dR f=false->∀u,Gr w u->Calls prog 22 #[vf] u (RG (dw f) u)):=fun h u q=>eO (hf.gr q) (hnf h);have p:Hid (dR f=false->∀u,Gr w u->Calls prog 23 #[vf] u (RG (dw f) u)):=fun h u q=>fV (hf.gr q) (hnf h);have r:Hid (dR f=false->∀u,Gr w u->Calls prog 24 #[vf,.int .i64 k] u fun e w'=>InO f k e w'/\Gr u w'):=fun h u q=>lZ (hf.gr q) (hnf h) k;have t:Hid (dR f=false->∀u,Gr w u->Calls prog 25 #[vf,.int .i64 k] u fun e w'=>InO f k e w'/\Gr u w'):=fun h u q=>kO (hf.gr q) (hnf h) k
 have j:Hid (dR f=false->Rf.inputE f k=0->∀u va vm,Gr w u->InpAt u.heap.size u va vm (Rf.inputX f k)->Calls prog 27 #[vf,.agg #[va,vm]] u (RG (.int .i64 0) u)):=fun h h2 u va vm q l=>by
  obtain⟨h3,h4⟩:=Rf.input_valid (Rf.inputE_zero h2).1 k;have hx:Rf.inputX f k=Rf.input f k:=by unfold Rf.inputX;rw[tB h2]
  rw[hx]at l;have:=km (hf.gr q) (hnf h) l.1 l.2.1 h4
  rwa [h3]at this
 obtain⟨vp,vs,vb,rfl,hp,hs,hb⟩:=hf;obtain⟨Ap,cp,rfl,-⟩:=hp;obtain⟨As,cs,rfl,-⟩:=hs;obtain⟨Ab,cb,rfl,-⟩:=hb;obtain⟨W,hW⟩:=xJ (w.alloc (.cells #[.slice Ap f.params.length cp,.int .i64 f.ret,.slice As f.slots.length cs,.slice Ab f.blocks.length cb] 36));have g0:Gr w W:=by rw[<-hW];exact(tX _).alloc _
 have d:=dJ g0;have y:Hid (∀u,Gr W u->FBox w.heap.size u f Ap As Ab cp cs cb):=fun u g=>FBox.new (by rw[hW];exact g) rfl;obtain⟨z,B,C,F⟩:=y.out W (tX W);obtain⟨n,hn⟩:=xJ (dR f);rw[hn]at L1 m p r t j;clear hn hnf g0
 cases n with
 | true =>
  clear m p r t j
  go_enter func7, ntmps7
  go_wp2_with (first|(go_at_call 16;refine(L1.out _ d.out).mono ?_;rintro e H ⟨rfl,U⟩)|(go_at_call 11;refine(J.out _).mono ?_;rintro e w2 ⟨rfl,Y⟩))
  go_ret;exact⟨rfl,d.out.trans (U.trans Y)⟩
 | false =>
  replace m:=dJ (m.out rfl);replace p:=dJ (p.out rfl);replace r:=dJ (r.out rfl);replace t:=dJ (t.out rfl);replace j:=dJ (j.out rfl);unfold dw at m p;obtain⟨E,hE⟩:=xJ (Rf.inputsE f);obtain⟨N,hN⟩:=xJ (Rf.inputsN f);rw[hE,hN]at m p;unfold InO at r t;obtain⟨X,hX⟩:=xJ (Rf.inputX f k);obtain⟨D,hD⟩:=xJ (Rf.inputE f k);rw[hX,hD]at r t j;have s1:(N != N)=false:=by simp
  have s2:(E != E)=false:=by simp
  have s3:(D != D)=false:=by simp
  clear hE hN hX hD;by_cases Q:D=0
  case' pos =>
   have d0:(D != 0)=false:=by simp[Q]
   have d1:(D == 0)=true:=by simp[Q]
   replace j:=dJ (j.out Q)
  case' neg =>
   have d0:(D != 0)=true:=by simp[Q]
   clear j
  all_goals
   clear Q
   go_enter func7, ntmps7
   go_wp2_with (first|(go_at_call 16;refine(L1.out _ d.out).mono ?_;rintro e H ⟨rfl,U⟩;have G1:Hid (Gr W H):=U;clear U;obtain⟨z,B,C,F⟩:=y.out H G1.out)|(go_at_call 22;refine(m.out _ (d.out.trans G1.out)).mono ?_;rintro e w2 ⟨rfl,Y⟩;have G2:Hid (Gr W w2):=G1.out.trans Y;clear Y;obtain⟨z,B,C,F⟩:=y.out w2 G2.out)|(go_at_call 23;refine(p.out _ (d.out.trans G2.out)).mono ?_;rintro e w3 ⟨rfl,g3⟩;have G3:Hid (Gr W w3):=G2.out.trans g3;clear g3;obtain⟨z,B,C,F⟩:=y.out w3 G3.out)|(go_at_call 24;refine(r.out _ (d.out.trans G3.out)).mono ?_;rintro e w4 ⟨⟨A,c,A2,c2,rfl,l⟩,g4⟩;obtain⟨w5,R⟩:=xJ (w4.alloc (.cells #[.slice A X.args.length c,.slice A2 X.mem.length c2] 41));have g5:Gr w4 w5:=(by rw[<-R];exact(tX _).alloc _);have G5:Hid (Gr W w5):=(G3.out.trans g4).trans g5;have HI:=dJ (l.gr g5);have K:Hid (w5.heap[w4.heap.size]?=some (.cells #[.slice A X.args.length c,.slice A2 X.mem.length c2] 41 (0,0))):=(by rw[<-R];exact heap_alloc_new _ _);clear l g4 g5;obtain⟨z,B,C,F⟩:=y.out w5 G5.out)|(go_at_call 25;refine(t.out _ (d.out.trans G5.out)).mono ?_;rintro e w6 ⟨⟨A3,c3,A4,c4,rfl,l⟩,Z⟩;obtain⟨w7,S⟩:=xJ (w6.alloc (.cells #[.slice A3 X.args.length c3,.slice A4 X.mem.length c4] 41));have O:Gr w6 w7:=(by rw[<-S];exact(tX _).alloc _);have G7:Hid (Gr W w7):=(G5.out.trans Z).trans O;have HJ:=dJ (l.gr O);have I:=dJ (HI.out.gr (Z.trans O));have r2:w7.heap[w6.heap.size]?=some (.cells #[.slice A3 X.args.length c3,.slice A4 X.mem.length c4] 41 (0,0)):=(by rw[<-S];exact heap_alloc_new _ _);have G:=((Z.trans O).heap _ (cX K.out)).trans K.out;have L:=dJ G;obtain⟨x0,x1⟩:=crw2 G 0 1;obtain⟨x2,x3⟩:=crw2 r2 0 1;clear l Z O G r2;obtain⟨z,B,C,F⟩:=y.out w7 G7.out)|(go_at_call 26;refine(iV I.out HJ.out).mono ?_;rintro e w8 ⟨rfl,g8⟩;have T:Hid (Gr W w8):=G7.out.trans g8;have aa:=dJ (I.out.gr g8);have G:=(g8.heap _ (cX L.out)).trans L.out;obtain⟨y0,y1⟩:=crw2 G 0 1;clear g8 G;obtain⟨z,B,C,F⟩:=y.out w8 T.out)|(go_at_call 27;refine(j.out _ _ _ (d.out.trans T.out) aa.out).mono ?_;rintro e w9 ⟨rfl,g9⟩;have G9:Hid (Gr W w9):=T.out.trans g9;clear g9)|(go_at_call 11;refine(J.out _).mono ?_;rintro e ab ⟨rfl,M⟩))
  all_goals
   go_ret
   first
    | exact⟨rfl,d.out.trans (G9.out.trans M)⟩
    | exact⟨rfl,d.out.trans (T.out.trans M)⟩
end

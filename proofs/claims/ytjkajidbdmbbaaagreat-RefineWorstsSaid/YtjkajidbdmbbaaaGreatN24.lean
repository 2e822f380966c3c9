import Derived.Test.YtjkajidbdmbbaaaGreatN23
import Derived.Maps.OwnSet
set_option linter.unusedSimpArgs false
set_option linter.unusedVariables false
set_option maxRecDepth 100000
set_option maxHeartbeats 16000000
open Go.Proofs.Tryz
namespace Go.Proofs.YtjkajidbdmbbaaaGreat
open Ref Rn Wd Ir Rf
variable {ops:Array Oper}{Q:Exit->Act->World->Prop}{a b fl k n o z:Int}{rest:List Oper}{B Bh G R clock r:Nat}{v:Value}{W W' w w':World}
section
open Go.RowKit Go.Maps
namespace Ops
def Word (k:Int):Prop:=-9223372036854775808<=k/\k<=9223372036854775807
theorem Word.wf (h:Word k):(Lit.int .i64 k).wf=true:=by obtain⟨d,g⟩:=h;simp[Lit.wf,show IntKind.i64.min=-9223372036854775808 from rfl,show IntKind.i64.max=9223372036854775807 from rfl];omega
theorem keyed_int:Keyed prog 3:=int_keyed underlying3
def heldElem (v:Value):Option (DataW Value × List MemPlace):=some (.held v,[])
def MapV (r n:Nat)(w:World)(M:Int->Option Value):Prop :=
 ∃D:DataW Value,w.ownsMap prog 3 heldElem r n D/\∀k,Word k->∀z,Maps.has D (.int .i64 k)=(M k).isSome/\D.atKey (.int .i64 k) (.held z)=.held ((M k).getD z)
section
variable {r n:Nat}{w w':World}{M:Int->Option Value}
theorem MapV.made (w:World):MapV w.heap.size 0 (w.alloc (.map #[] 0)) fun _=>none :=
 ⟨_,World.ownsMap_made _ _ _ _,fun k _ z=>⟨rfl,rfl⟩⟩
theorem MapV.same (h:MapV r n w M)(hs:∀o,w.heap[r]?=some o->o.isCells=false->w'.heap[r]?=some o):MapV r n w' M:=by obtain⟨D,⟨g,d,l,m⟩,j⟩:=h;exact⟨D,⟨g,d,hs _ l rfl,m⟩,j⟩
theorem MapV.gr (h:MapV r n w M)(g:Gr w w'):MapV r n w' M:=h.same fun o d _=>(g.heap _ (xY.1 d).1).trans d
theorem MapV.lt (h:MapV r n w M):r<w.heap.size:=by obtain⟨D,d,-⟩:=h;exact d.lt
def zeroOp:Value:=.agg #[.nilFunc,.nilFunc,.nilFunc]
theorem zero_op (w:World):(zeroValue 225).run prog w=.ok zeroOp w:=by kernel_rfl
theorem MapV.look2 (h:MapV r n w M)(hk:Word k):(Instr.lookup 234 (.map (some r)) (.int .i64 k) true).run prog w=.ok (.tuple #[(M k).getD zeroOp,.bool (M k).isSome]) w:=by obtain⟨D,d,g⟩:=h;obtain⟨v,ps,j,hv⟩:=d.look_ok keyed_int underlying234 (zero_op w) (zd:=.held zeroOp) (zp:=[]) rfl (keyOf_int_mk underlying3 hk.wf);obtain⟨l,m⟩:=g k hk zeroOp;unfold heldElem at hv;injection hv with hv;have hv:=congrArg Prod.fst hv;simp only[m]at hv;injection hv with hv;rw[<-hv,<-l];exact j
theorem MapV.insert {o:Oper}{a:Act}(h:MapV r n w M)(hn:n<=1000000)(k:Int)(v:Value)(hk:Word k)
  (hg:o.guard=none) (m x y:Operand) (hop:o.op=Op.insert 234 m x y) (hm:a.eval m=.map (some r)) (hx:a.eval x=.int .i64 k) (hy:a.eval y=v)
  (hK:∀w',MapV r (n+1) w' (fun j=>if j=k then some v else M j)->w.grownBy w' (some r)->wpList prog ops Q rest (a.put o.dst undef) w') :
  wpList prog ops Q (o::rest) a w:=by
 obtain⟨D,u,C⟩:=h;refine wpList_plain hg fun G t=>?_;obtain⟨w',p,F,B⟩:=u.update (val:=v) keyed_int underlying234 (by unfold maxLen;omega) (keyOf_int_mk underlying3 hk.wf) (d:=.held v) (ps:=[]) rfl;unfold Oper.wp;simp[execOp,hop,hm,hx,hy,p,Result.andThen];refine t _ _ (hK w' ⟨_,F,fun j E z=>?_⟩ B);have A:=u.isMap;have g:WideAt.IsKeyLit (.int .i64 k):=trivial;show _=(if j=k then some v else M j).isSome/\_=DataW.held ((if j=k then some v else M j).getD z);by_cases e:j=k
 ·subst e;rw[yr rfl];exact⟨has_put_same A g _,atKey_put_same A g _ _⟩
 ·have l:(Lit.int .i64 j)≠.int .i64 k:=fun q=>by injection q with _ q;exact e q
  rw[yt e,has_put_other l,atKey_put_other l];exact C j E z
end
end Ops
namespace Ops
def boxV (F B:Nat):Value:=.func (.func F) #[] #[.pointer (some ⟨B,0,none⟩)]
def opV (o:Int)(B:Nat):Value :=
 if o=1 then .agg #[boxV 246 B,fnV 220,.nilFunc]
 else if o=2 then .agg #[boxV 246 B,fnV 222,.nilFunc]
 else if o=3 then .agg #[boxV 246 B,fnV 224,.nilFunc]
 else if o=4 then .agg #[fnV 227,.nilFunc,fnV 228]
 else if o=5 then .agg #[fnV 229,.nilFunc,.nilFunc]
 else if o=6 then .agg #[fnV 230,.nilFunc,fnV 232]
 else if o=7 then .agg #[fnV 233,.nilFunc,.nilFunc]
 else if o<=10 then .agg #[boxV 247 B,.nilFunc,.nilFunc]
 else if o=11 then .agg #[fnV 238,fnV 239,.nilFunc]
 else if o=12 then .agg #[fnV 240,.nilFunc,fnV 241]
 else .agg #[fnV 242,.nilFunc,fnV 244]
def boxOf (o:Int):Nat :=
 if o=1 then 221 else if o=2 then 223 else if o=3 then 226
 else if o=8 then 235 else if o=9 then 236 else 237
def boxed (o:Int):Prop:=o<=3\/(8<=o/\o<=10)
def OpAt (w:World)(o:Int)(v:Value):Prop:=∃B,v=opV o B/\(boxed o->B<w.heap.size/\w.cell? ⟨B,0,none⟩=some (fnV (boxOf o)))
theorem OpAt.keep (h:OpAt w o v)(hk:∀B,B<w.heap.size->w.cell? ⟨B,0,none⟩=some (fnV (boxOf o))->B<w'.heap.size/\w'.cell? ⟨B,0,none⟩=some (fnV (boxOf o))):OpAt w' o v:=by obtain⟨B,j,d⟩:=h;exact⟨B,j,fun g=>hk B (d g).1 (d g).2⟩
theorem OpAt.gr (h:OpAt w o v)(g:Gr w w'):OpAt w' o v :=
 h.keep fun B d j=>⟨by have:=g.size;omega,(g.cell _ _ d).trans j⟩
def OpsAt (r n:Nat)(w:World):Prop:=∃M:Int->Option Value,MapV r n w M/\∀o:Int,if 1<=o/\o<=n then ∃v,M o=some v/\OpAt w o v else M o=none
section
variable {r n:Nat}{w w':World}
theorem OpsAt.made (w:World):OpsAt w.heap.size 0 (w.alloc (.map #[] 0)):=⟨_,MapV.made w,fun o=>by rw[yt (by omega)]⟩
theorem OpsAt.gr (h:OpsAt r n w)(g:Gr w w'):OpsAt r n w':=by
 obtain⟨M,d,j⟩:=h;refine⟨M,d.gr g,fun o=>?_⟩;have:=j o;split
 next h =>
  rw[yr h]at this;obtain⟨v,l,m⟩:=this;exact⟨v,l,m.gr g⟩
 next h=>rwa [yt h]at this
theorem cell_keep {es:Array MapEntry}(hr:w.heap[r]?=some (.map es clock))(g:w.grownBy w' (some r))(hb:B<w.heap.size)(hc:w.cell? ⟨B,0,none⟩=some (fnV G)):B<w'.heap.size/\w'.cell? ⟨B,0,none⟩=some (fnV G):=by
 have d:some B≠some r:=by
  intro e;injection e with e;subst e
  have:w.cell? ⟨B,0,none⟩=none:=by unfold World.cell?;simp[hr]
  rw[this]at hc;cases hc
 exact⟨by have:=g.size;omega,(yE (w:=w) (a:=⟨B,0,none⟩) (g.block B hb d)).trans hc⟩
theorem OpsAt.insert {o:Oper}{a:Act}(h:OpsAt r n w)(hn:n<=13)(v:Value)(hv:OpAt w (n+1:Nat) v)
  (hg:o.guard=none) (m x y:Operand) (hop:o.op=Op.insert 234 m x y) (hm:a.eval m=.map (some r)) (hx:a.eval x=.int .i64 ((n+1:Nat):Int)) (hy:a.eval y=v)
  (hK:∀w',OpsAt r (n+1) w'->w.grownBy w' (some r)->wpList prog ops Q rest (a.put o.dst undef) w') :
  wpList prog ops Q (o::rest) a w:=by
 obtain⟨M,z,E⟩:=h
 have q:∃l d,w.heap[r]?=some (.map l d):=by obtain⟨D,⟨l,d,g,-⟩,-⟩:=z;exact⟨l,d,g⟩
 obtain⟨l,d,C⟩:=q;refine z.insert (by omega) ((n+1:Nat):Int) v ⟨by omega,by omega⟩ hg m x y hop hm hx hy fun w' F t=>hK w' ⟨_,F,fun j=>?_⟩ t;by_cases e:j=((n+1:Nat):Int)
 ·subst e;rw[yr ⟨by omega,by omega⟩,yr rfl];exact⟨v,rfl,hv.keep fun B g p=>cell_keep C t g p⟩
 ·have:=E j;rw[yt e];by_cases A:1<=j/\j<=n
  ·rw[yr A]at this;rw[yr ⟨by omega,by omega⟩];obtain⟨u,G,H⟩:=this;exact⟨u,G,H.keep fun B g p=>cell_keep C t g p⟩
  ·rw[yt A]at this;rw[yt (by omega)];exact this
end
theorem wraps_box (F G:Nat)(w:World):Calls prog 219 #[fnV F,fnV G] w fun e w'=>∃B,e=.returned (.agg #[boxV 246 B,fnV F,.nilFunc])/\(B<w'.heap.size/\w'.cell? ⟨B,0,none⟩=some (fnV G))/\Gr w w' :=
 (oM F G w).mono fun e w' h=>⟨_,h.2.1,⟨by have:=h.2.2.2;omega,h.2.2.1⟩,h.1⟩
theorem plain_box (G:Nat)(w:World):Calls prog 234 #[fnV G] w fun e w'=>∃B,e=.returned (.agg #[boxV 247 B,.nilFunc,.nilFunc])/\(B<w'.heap.size/\w'.cell? ⟨B,0,none⟩=some (fnV G))/\Gr w w' :=
 (oL G w).mono fun e w' h=>⟨_,h.2.1,⟨by have:=h.2.2.2;omega,h.2.2.1⟩,h.1⟩
theorem operations_any (w:World):Calls prog 217 #[] w fun e w'=>∃r,e=.returned (.map (some r))/\OpsAt r 13 w'/\Gr w w':=by
 have A:=@run_makeMap prog;have g:=dJ (OpsAt.made w);have d:=dJ ((yO w).alloc (.map #[] 0))
 go_enter func217, ntmps217
 go_wp2_with (first|(go_at_call 219;(refine(wraps_box _ _ _).mono ?_);rintro e C ⟨B,rfl,q,y⟩;have z:=dJ q;have m:=dJ (g.out.gr y);have j:=dJ (d.out.trans y);clear g d y q;have g:=m;have d:=j;clear m j)|(go_at_call 234;(refine(plain_box _ _).mono ?_);rintro e C ⟨B,rfl,q,y⟩;have z:=dJ q;have m:=dJ (g.out.gr y);have j:=dJ (d.out.trans y);clear g d y q;have g:=m;have d:=j;clear m j)|(refine OpsAt.insert g.out (by omega) _ ⟨_,rfl,fun _=>z.out⟩ rfl _ _ _ rfl rfl rfl rfl ?_;intro D u t;have p:=dJ u;have l:=dJ (d.out.grown t (fun k hk=>by injection hk with hk;omega));clear g d u t z;have g:=p;have d:=l;clear p l)|(refine OpsAt.insert g.out (by omega) _ ⟨0,rfl,fun h=>absurd h (by unfold boxed;omega)⟩ rfl _ _ _ rfl rfl rfl rfl ?_;intro D u t;have p:=dJ u;have l:=dJ (d.out.grown t (fun k hk=>by injection hk with hk;omega));clear g d u t;have g:=p;have d:=l;clear p l))
 go_ret;exact⟨_,rfl,g.out,d.out⟩
end Ops
namespace Ops
theorem opV_parts (o:Int)(B:Nat):∃g0 a0 b0 f1 f2,opV o B=.agg #[.func g0 a0 b0,f1,f2]/\(f1=.nilFunc\/∃g a b,f1=.func g a b)/\(f2=.nilFunc\/∃g a b,f2=.func g a b):=by
 suffices h:∀v,v=opV o B->∃g0 a0 b0 f1 f2,v=.agg #[.func g0 a0 b0,f1,f2]/\(f1=.nilFunc\/∃g a b,f1=.func g a b)/\(f2=.nilFunc\/∃g a b,f2=.func g a b) from h _ rfl
 intro v hv;unfold opV fnV boxV at hv
 repeat' (split at hv)
 all_goals
  subst hv;exact⟨_,_,_,_,_,rfl,(by first|exact .inl rfl|exact .inr ⟨_,_,_,rfl⟩),(by first|exact .inl rfl|exact .inr ⟨_,_,_,rfl⟩)⟩
theorem u32_two {k:Nat}(h0:w.cell? ⟨k,0,none⟩=some (.int .u32 a))(h1:w.cell? ⟨k,1,none⟩=some (.int .u32 b)):U32At (k+1) w (.slice (some ⟨k,0,none⟩) 2 2) [a,b] :=
 ⟨_,_,rfl,yJ _,by simp,fun _=>⟨_,_,rfl,Nat.lt_succ_self _,fun j z hz=>by match j,hz with|0,hz=>simp at hz;subst hz;exact h0|1,hz=>simp at hz;subst hz;exact h1|j+2,hz=>simp at hz⟩⟩
theorem frm_setCell (h:Frm Bh W W')(i:Nat)(v:Value):Frm Bh W (W'.setCell ⟨Bh,i,none⟩ v) :=
 ⟨by have:=h.1;simp;omega,fun k g d=>(yy _ _ _ _ d).trans (h.2 k g d)⟩
theorem frm_drew (h:Frm Bh W W'):Frm Bh W W'.drew:=h
theorem OpAt.away (h:OpAt w o v)(hR:w.cell? ⟨R,0,none⟩=some .nilFunc)(hf:Frm R w w'):OpAt w' o v :=
 h.keep fun B j d=>by
  have g:B≠R:=fun e=>by subst e;rw[hR]at d;cases d
  exact⟨by have:=hf.1;omega,(yE (w:=w) (a:=⟨B,0,none⟩) (hf.2 B j g)).trans d⟩
theorem asked_any (o n a b:Int)(w:World)(ho:1<=o/\o<=13)(hn:zi n)(ha:yX n a)(hb:yX n b):Calls prog 207 #[.int .i64 o,.int .i64 n,.int .u32 a,.int .u32 b] w fun e w'=>∃v,e=.returned (.tuple #[v,.bool true])/\OpAt w' o v/\Gr w w':=by
 have y:Hid (∀k d,d.cell? ⟨k,0,none⟩=some (.int .u32 a)->d.cell? ⟨k,1,none⟩=some (.int .u32 b)->Calls prog 210 #[.int .i64 n,.slice (some ⟨k,0,none⟩) 2 2] d (RS (.bool true) d)):=fun k d h0 D=>by
  have:=iJ (k+1) n _ [a,b] d (u32_two h0 D);have e:gX n [a,b]=true:=by unfold gX;rw[ei hn];simp[ha.2,hb.2]
  rwa [e]at this
 have H:Hid (∀r d,OpsAt r 13 d->∃m a0 l q t,(q=.nilFunc\/∃g a b,q=.func g a b)/\(t=.nilFunc\/∃g a b,t=.func g a b)/\OpAt d o (.agg #[.func m a0 l,q,t]) /\
     (Instr.lookup 234 (.map (some r)) (.int .i64 o) true).run prog d=.ok (.tuple #[.agg #[.func m a0 l,q,t],.bool true]) d):=fun r d h=>by
  obtain⟨M,D,T⟩:=h;have R:=T o;rw[yr ⟨ho.1,by omega⟩]at R;obtain⟨v,C,B,rfl,S⟩:=R;obtain⟨m,a0,l,q,t,e,E,F⟩:=opV_parts o B;refine⟨m,a0,l,q,t,E,F,⟨B,e.symm,S⟩,?_⟩;have:=D.look2 (k:=o) ⟨by omega,by omega⟩;rw[C,e]at this;exact this
 clear ho hn ha hb
 go_enter func207, ntmps207
 go_wp2_with (first|(go_at_call 217;refine(operations_any _).mono ?_;rintro e d ⟨r,rfl,u,N⟩;obtain⟨m,a0,l,q,t,E,F,C,S⟩:=H.out _ _ u;have z:=dJ C;have p:=dJ N;clear H C N u;rcases E with rfl|⟨O,I,K,rfl⟩<;>rcases F with rfl|⟨Q,J,L,rfl⟩))
 all_goals
  have j:=dJ (((yO w).alloc _).trans p.out);have A:d.cell? ⟨w.heap.size,0,none⟩=some .nilFunc:=df _ _ 0 p.out rfl;have U:d.cell? ⟨w.heap.size,1,none⟩=some .nilFunc:=df _ _ 1 p.out rfl;have W:d.cell? ⟨w.heap.size,2,none⟩=some .nilFunc:=df _ _ 2 p.out rfl;have X:d.frozen? ⟨w.heap.size,0,none⟩=false:=(p.out.frozen w.heap.size 0 (by simp)).trans (World.frozen?_alloc_at _ _ _ _ rfl);have Y:d.frozen? ⟨w.heap.size,1,none⟩=false:=(p.out.frozen w.heap.size 1 (by simp)).trans (World.frozen?_alloc_at _ _ _ _ rfl);have Z:d.frozen? ⟨w.heap.size,2,none⟩=false:=(p.out.frozen w.heap.size 2 (by simp)).trans (World.frozen?_alloc_at _ _ _ _ rfl);have z1:w.heap.size<d.heap.size:=by have:=p.out.size;simp at this;omega
 ·go_region_with ((go_at_call 210;(with_reducible refine(y.out _ _ (by simp) (by simp)).mono ?_);rintro e G ⟨rfl,rfl⟩))
  all_goals go_wp2
  all_goals refine yq (v:=.tuple #[.agg #[.func m a0 l,.nilFunc,.nilFunc],.bool true]) (by simp[results,results207,go_sem, *]) rfl ?_
  all_goals exact⟨_,rfl,z.out.away A (by repeat (first|with_reducible refine frm_drew ?_|with_reducible refine Frm.alloc ?_ _|with_reducible refine frm_setCell ?_ _ _|with_reducible exact Frm.refl _ _)),(by repeat (first|with_reducible exact j.out|with_reducible refine Gr.drew ?_|with_reducible refine Gr.alloc ?_ _|with_reducible refine Gr.setCell ?_ (yJ _) _))⟩
 ·go_region_with ((go_at_call 210;(with_reducible refine(y.out _ _ (by simp) (by simp)).mono ?_);rintro e G ⟨rfl,rfl⟩))
  all_goals go_wp2
  all_goals refine yq (v:=.tuple #[.agg #[.func m a0 l,.nilFunc,.func Q J L],.bool true]) (by simp[results,results207,go_sem, *]) rfl ?_
  all_goals exact⟨_,rfl,z.out.away A (by repeat (first|with_reducible refine frm_drew ?_|with_reducible refine Frm.alloc ?_ _|with_reducible refine frm_setCell ?_ _ _|with_reducible exact Frm.refl _ _)),(by repeat (first|with_reducible exact j.out|with_reducible refine Gr.drew ?_|with_reducible refine Gr.alloc ?_ _|with_reducible refine Gr.setCell ?_ (yJ _) _))⟩
 ·go_region_with ((go_at_call 210;(with_reducible refine(y.out _ _ (by simp) (by simp)).mono ?_);rintro e G ⟨rfl,rfl⟩))
  all_goals go_wp2
  all_goals refine yq (v:=.tuple #[.agg #[.func m a0 l,.func O I K,.nilFunc],.bool true]) (by simp[results,results207,go_sem, *]) rfl ?_
  all_goals exact⟨_,rfl,z.out.away A (by repeat (first|with_reducible refine frm_drew ?_|with_reducible refine Frm.alloc ?_ _|with_reducible refine frm_setCell ?_ _ _|with_reducible exact Frm.refl _ _)),(by repeat (first|with_reducible exact j.out|with_reducible refine Gr.drew ?_|with_reducible refine Gr.alloc ?_ _|with_reducible refine Gr.setCell ?_ (yJ _) _))⟩
 ·go_region_with ((go_at_call 210;(with_reducible refine(y.out _ _ (by simp) (by simp)).mono ?_);rintro e G ⟨rfl,rfl⟩))
  all_goals go_wp2
  all_goals refine yq (v:=.tuple #[.agg #[.func m a0 l,.func O I K,.func Q J L],.bool true]) (by simp[results,results207,go_sem, *]) rfl ?_
  all_goals exact⟨_,rfl,z.out.away A (by repeat (first|with_reducible refine frm_drew ?_|with_reducible refine Frm.alloc ?_ _|with_reducible refine frm_setCell ?_ _ _|with_reducible exact Frm.refl _ _)),(by repeat (first|with_reducible exact j.out|with_reducible refine Gr.drew ?_|with_reducible refine Gr.alloc ?_ _|with_reducible refine Gr.setCell ?_ (yJ _) _))⟩
end Ops
end
section
open Go.RowKit
theorem vW {k:Nat}(h0:w.cell? ⟨k,0,none⟩=some (.int .u32 a)):U32At (k+1) w (.slice (some ⟨k,0,none⟩) 1 1) [a] :=
 ⟨_,_,rfl,yJ _,by simp,fun _=>⟨_,_,rfl,Nat.lt_succ_self _,fun j z hz=>by match j,hz with|0,hz=>simp at hz;subst hz;exact h0|j+1,hz=>simp at hz⟩⟩
theorem wB (n a:Int)(hn:zi n)(ha:yX n a)(k:Nat)(w1:World)(h0:w1.cell? ⟨k,0,none⟩=some (.int .u32 a)):Calls prog 210 #[.int .i64 n,.slice (some ⟨k,0,none⟩) 1 1] w1 (RS (.bool true) w1):=by
 have:=iJ (k+1) n _ [a] w1 (vW h0);have e:gX n [a]=true:=by unfold gX;rw[ei hn];simp[ha.2]
 rwa [e]at this
theorem wC (n a b:Int)(hn:zi n)(ha:yX n a)(hb:yX n b)(k:Nat)(w1:World)(h0:w1.cell? ⟨k,0,none⟩=some (.int .u32 a))(h1:w1.cell? ⟨k,1,none⟩=some (.int .u32 b)):Calls prog 210 #[.int .i64 n,.slice (some ⟨k,0,none⟩) 2 2] w1 (RS (.bool true) w1):=by
 have:=iJ (k+1) n _ [a,b] w1 (Ops.u32_two h0 h1);have e:gX n [a,b]=true:=by unfold gX;rw[ei hn];simp[ha.2,hb.2]
 rwa [e]at this
theorem lh (n:Int)(hn:zi n)(w1:World):Calls prog 146 #[.int .i64 n] w1 (RS (.bool true) w1):=by
 have:=eS n w1
 rwa [<-iD,ei hn]at this
theorem lf (n:Int)(w:World)(hn:zi n):Calls prog 116 #[.int .i64 n] w (RS (.tuple #[.int .u32 (m9 n-1),.int .i64 0]) w):=by
 have l:=dJ fun d=>lh n hn d;have g:=dJ fun d=>dG n d hn;obtain⟨s,j⟩:=xJ (m9 n-1);rw[j]at g ⊢;clear hn j
 go_enter func116, ntmps116
 go_wp2_with (first|(go_at_call 146;refine(l.out _).mono ?_;rintro e d ⟨rfl,rfl⟩)|(go_at_call 147;refine(g.out _).mono ?_;rintro e d ⟨rfl,rfl⟩))
 go_ret2;exact⟨rfl,rfl⟩
theorem mt (n x:Int)(w:World)(hn:zi n)(hx:yX n x):Calls prog 196 #[.int .i64 n,.int .u32 x] w (RG (.tuple #[.int .i64 (zU n x),.int .i64 0]) w):=by
 have j:=dJ (wB n x hn hx);have CS:=dJ fun d=>dA n x d hn hx;obtain⟨s,g⟩:=xJ (zU n x);rw[g]at CS ⊢;clear hn g hx
 go_enter func196, ntmps196
 go_wp2_with (first|(go_at_call 210;refine(j.out _ _ (by simp)).mono ?_;rintro e d ⟨rfl,rfl⟩)|(go_at_call 208;refine(CS.out _).mono ?_;rintro e d ⟨rfl,rfl⟩))
 go_ret2;exact⟨rfl,(yO w).alloc _⟩
theorem pc (p:Int)(w:World)(hp:0<=p/\p<=9):Calls prog 209 #[.int .i64 p] w (RS (.bool true) w):=by
 obtain⟨d,g⟩:=hp
 go_enter func209, ntmps209
 go_wp2;all_goals go_ret
 all_goals exact⟨by simp,rfl⟩
theorem le (p n a b:Int)(w:World)(hp:0<=p/\p<=9)(hn:zi n)(ha:yX n a)(hb:yX n b):Calls prog 192 #[.int .i64 p,.int .i64 n,.int .u32 a,.int .u32 b] w (RG (.tuple #[.bool (Gy p n a b),.int .i64 0]) w):=by
 have t:=dJ (wC n a b hn ha hb);have l:=dJ fun d=>dA n a d hn ha;have m:=dJ fun d=>dA n b d hn hb;have u:=dJ fun d=>pc p d hp;obtain⟨x,g⟩:=xJ (zU n a);obtain⟨y,j⟩:=xJ (zU n b);have q:Hid (Gy p n a b=if 6<=p then JW p x y else JW p a b):=by show _=_;rw[<-g,<-j];rfl
 obtain⟨c,r⟩:=xJ (Gy p n a b);rw[r]at q ⊢;rw[g]at l;rw[j]at m;have a0:=ha.1;have A:=hb.1;have z:a<4294967296:=by have:=C4 hn;have:=ha.2;omega
 have B:b<4294967296:=by have:=C4 hn;have:=hb.2;omega
 clear hn g j ha hb r;rcases (by omega:p=0\/p=1\/p=2\/p=3\/p=4\/p=5\/p=6\/p=7\/p=8\/p=9) with rfl|rfl|rfl|rfl|rfl|rfl|rfl|rfl|rfl|rfl
 all_goals
  go_enter func192, ntmps192
  go_wp2_with (first|(go_at_call 209;refine(u.out _).mono ?_;rintro e d ⟨rfl,rfl⟩)|(go_at_call 210;refine(t.out _ _ (by simp) (by simp)).mono ?_;rintro e d ⟨rfl,rfl⟩)|(go_at_call 208;first|((with_reducible refine(l.out _).mono ?_);rintro e d ⟨rfl,rfl⟩)|((with_reducible refine(m.out _).mono ?_);rintro e d ⟨rfl,rfl⟩)))
  go_ret2;exact⟨by rw[q.out];rfl,(yO w).alloc _⟩
theorem gh (o m n a:Int)(w:World)(ho:o=16\/o=17\/o=18)(hm:zi m)(hn:zi n)(ha:yX m a)(hd:if o=18 then n<m else m<n):Calls prog 194 #[.int .i64 o,.int .i64 m,.int .i64 n,.int .u32 a] w (RG (.tuple #[.int .u32 (E0 o m n a),.int .i64 0]) w):=by
 have l:=dJ (wB m a hm ha);have q:=dJ fun d=>lh n hn d;have u:=dJ fun d=>dA m a d hm ha;have p:=dJ fun d=>dG n d hn;have r:=dJ (EH (zU m a) hn);have y:=dJ (Ji hn ha.1 (by have:=C4 hm;have:=ha.2;omega));obtain⟨x,t⟩:=xJ (zU m a);obtain⟨s,A⟩:=xJ (m9 n-1);have j:Hid (E0 o m n a=if o=16 then a else if o=17 then x%m9 n else a%m9 n):=by show _=_;rw[<-t];rfl
 obtain⟨c,z⟩:=xJ (E0 o m n a);rw[z]at j ⊢;rw[t]at u r;rw[A]at p r y
 have g:(o=18/\n<m)\/(o≠18/\m<n):=by
  by_cases h:o=18
  ·rw[yr h]at hd;exact .inl ⟨h,hd⟩
  ·rw[yt h]at hd;exact .inr ⟨h,hd⟩
 clear hn t A ha hm z hd;rcases ho with rfl|rfl|rfl
 ·obtain⟨-,hd⟩:=g.resolve_left (by omega);clear g
  go_enter func194, ntmps194
  go_wp2_with (first|(go_at_call 210;refine(l.out _ _ (by simp)).mono ?_;rintro e d ⟨rfl,rfl⟩)|(go_at_call 146;refine(q.out _).mono ?_;rintro e d ⟨rfl,rfl⟩))
  go_ret2;exact⟨by rw[j.out];rfl,(yO w).alloc _⟩
 ·obtain⟨-,hd⟩:=g.resolve_left (by omega);clear g
  go_enter func194, ntmps194
  go_wp2_with (first|(go_at_call 210;refine(l.out _ _ (by simp)).mono ?_;rintro e d ⟨rfl,rfl⟩)|(go_at_call 146;refine(q.out _).mono ?_;rintro e d ⟨rfl,rfl⟩)|(go_at_call 208;refine(u.out _).mono ?_;rintro e d ⟨rfl,rfl⟩)|(go_at_call 147;refine(p.out _).mono ?_;rintro e d ⟨rfl,rfl⟩))
  go_ret2;exact⟨by rw[show c=bits .and .u32 (x%4294967296) s from j.out.trans r.out.symm];rfl,(yO w).alloc _⟩
 ·obtain⟨-,hd⟩:=g.resolve_right (by omega);clear g
  go_enter func194, ntmps194
  go_wp2_with (first|(go_at_call 210;refine(l.out _ _ (by simp)).mono ?_;rintro e d ⟨rfl,rfl⟩)|(go_at_call 146;refine(q.out _).mono ?_;rintro e d ⟨rfl,rfl⟩)|(go_at_call 147;refine(p.out _).mono ?_;rintro e d ⟨rfl,rfl⟩))
  go_ret2;exact⟨by rw[show c=bits .and .u32 a s from j.out.trans y.out.symm];rfl,(yO w).alloc _⟩
def vv (v:Rn.V):Value:=.agg #[.bool v.p,.int .i64 v.s,.int .u32 v.n]
def vI (v:Rn.V):Value:=.iface 24 (vv v)
def pW:Value:=.iface 178 (.agg #[.int .i64 1,.bool false,.int .i64 0,.int .u32 0,.slice none 0 0])
theorem du (w:World):Calls prog 171 #[] w (RG (.agg #[.bool true,.int .i64 0,.int .u32 0]) w):=by
 go_enter func171, ntmps171
 go_wp2;exact yq (v:=.agg #[.bool true,.int .i64 0,.int .u32 0]) (by simp[results,results171,go_sem]) rfl ⟨rfl,by repeat (first|with_reducible exact yO _|with_reducible refine Gr.alloc ?_ _|with_reducible refine Gr.setCell ?_ (yJ _) _)⟩
theorem pE (b:Bool)(w:World):Calls prog 193 #[.bool b] w (RG (.agg #[.bool false,.int .i64 0,.int .u32 (if b=true then 1 else 0)]) w):=by
 cases b
 ·go_enter func193, ntmps193
  go_wp2;exact yq (v:=.agg #[.bool false,.int .i64 0,.int .u32 0]) (by simp[results,results193,go_sem]) rfl ⟨rfl,by repeat (first|with_reducible exact yO _|with_reducible refine Gr.alloc ?_ _|with_reducible refine Gr.setCell ?_ (yJ _) _)⟩
 ·go_enter func193, ntmps193
  go_wp2;exact yq (v:=.agg #[.bool false,.int .i64 0,.int .u32 1]) (by simp[results,results193,go_sem]) rfl ⟨rfl,by repeat (first|with_reducible exact yO _|with_reducible refine Gr.alloc ?_ _|with_reducible refine Gr.setCell ?_ (yJ _) _)⟩
theorem ro (o:Int)(w:World):Calls prog 188 #[.int .i64 o] w (RS (.bool (decide (4<=o) && decide (o<=7))) w):=by
 go_enter func188, ntmps188
 go_wp2;all_goals go_ret
 all_goals exact⟨cZ (by (try simp[*])<;>(try omega)),rfl⟩
theorem ry (n:Int)(w:World)(hn:zi n):Calls prog 189 #[.int .i64 n] w (RS (.int .u32 (m9 (n-1))) w):=by
 obtain⟨k,l,d,m,g,j⟩:=ey hn;obtain⟨p,q⟩:=id hn;obtain⟨h,hh⟩:=xJ (m9 (n-1));rw[hh]at d g j ⊢;clear hh hn
 go_enter func189, ntmps189
 go_wp2;go_ret;exact⟨dg (by omega),rfl⟩
theorem dD (w:World):Calls prog 167 #[] w (RS pW w):=by
 go_enter func167, ntmps167
 go_wp2;go_ret;exact⟨rfl,rfl⟩
end
section
open Go.RowKit Go.Maps
namespace Ops
def DoPost (o n a b:Int)(w:World)(e:Ending)(w':World):Prop:=(∃z,e=.returned (.tuple #[.int .u32 z,.bool (Wd.op o n a b).isSome])/\∀y,Wd.op o n a b=some y->z=y)/\Gr w w'
theorem yL (h:Wd.op o n a b=some z)(g:Gr w w'):DoPost o n a b w (.returned (.tuple #[.int .u32 z,.bool true])) w' :=
 ⟨⟨z,by rw[h];rfl,fun y d=>by rw[h]at d;injection d⟩,g⟩
theorem yM (h:Wd.op o n a b=none)(g:Gr w w'):DoPost o n a b w (.returned (.tuple #[.int .u32 z,.bool false])) w' :=
 ⟨⟨z,by rw[h];rfl,fun y d=>by rw[h]at d;cases d⟩,g⟩
theorem words (hn:zi n)(ha:yX n a):0<=a/\a<4294967296:=⟨ha.1,by have:=C4 hn;have:=ha.2;omega⟩
theorem dofn1 (n a b:Int)(B:Nat)(w:World)(hn:zi n)(ha:yX n a)(hb:yX n b)(hc:w.cell? ⟨B,0,none⟩=some (fnV 221)):Calls prog 246 #[.int .i64 n,.int .u32 a,.int .u32 b,.pointer (some ⟨B,0,none⟩)] w (DoPost 1 n a b w):=by refine(gj _ (enters_of func221 (by kernel_rfl) rfl) n a b _ B w hn hc (fun d=>vK a b d)).mono ?_;rintro e w' ⟨rfl,rfl⟩;rw[EH _ hn];exact yL rfl (yO _)
theorem dofn2 (n a b:Int)(B:Nat)(w:World)(hn:zi n)(ha:yX n a)(hb:yX n b)(hc:w.cell? ⟨B,0,none⟩=some (fnV 223)):Calls prog 246 #[.int .i64 n,.int .u32 a,.int .u32 b,.pointer (some ⟨B,0,none⟩)] w (DoPost 2 n a b w):=by refine(gj _ (enters_of func223 (by kernel_rfl) rfl) n a b _ B w hn hc (fun d=>vL a b d)).mono ?_;rintro e w' ⟨rfl,rfl⟩;rw[EH _ hn];exact yL rfl (yO _)
theorem dofn3 (n a b:Int)(B:Nat)(w:World)(hn:zi n)(ha:yX n a)(hb:yX n b)(hc:w.cell? ⟨B,0,none⟩=some (fnV 226)):Calls prog 246 #[.int .i64 n,.int .u32 a,.int .u32 b,.pointer (some ⟨B,0,none⟩)] w (DoPost 3 n a b w):=by refine(gj _ (enters_of func226 (by kernel_rfl) rfl) n a b _ B w hn hc (fun d=>vM a b d)).mono ?_;rintro e w' ⟨rfl,rfl⟩;rw[EH _ hn];exact yL rfl (yO _)
theorem dofn4 (n a b:Int)(B:Nat)(w:World)(hn:zi n)(ha:yX n a)(hb:yX n b):Calls prog 227 #[.int .i64 n,.int .u32 a,.int .u32 b] w (DoPost 4 n a b w):=by
 refine(vO n a b w hn (words hn ha) (words hn hb)).mono ?_;rintro e w' ⟨rfl,rfl⟩;have e:Wd.op 4 n a b=if b=0 then none else some (a / b):=rfl
 by_cases h:b=0
 ·rw[yr h]at e;rw[yr h,show decide (b≠0)=false by simp[h]];exact yM e (yO _)
 ·rw[yt h]at e;rw[yt h,show decide (b≠0)=true by simp[h]];exact yL e (yO _)
theorem dofn5 (n a b:Int)(B:Nat)(w:World)(hn:zi n)(ha:yX n a)(hb:yX n b):Calls prog 229 #[.int .i64 n,.int .u32 a,.int .u32 b] w (DoPost 5 n a b w):=by
 refine(vQ n a b w (words hn ha) (words hn hb)).mono ?_;rintro e w' ⟨rfl,rfl⟩;have e:Wd.op 5 n a b=if b=0 then none else some (a%b):=rfl
 by_cases h:b=0
 ·rw[yr h]at e;rw[yr h,show decide (b≠0)=false by simp[h]];exact yM e (yO _)
 ·rw[yt h]at e;rw[yt h,show decide (b≠0)=true by simp[h]];exact yL e (yO _)
theorem dofn6 (n a b:Int)(B:Nat)(w:World)(hn:zi n)(ha:yX n a)(hb:yX n b):Calls prog 230 #[.int .i64 n,.int .u32 a,.int .u32 b] w (DoPost 6 n a b w):=by
 have e:Wd.op 6 n a b=if b=0\/(zU n a=-m9 (n-1)/\zU n b=-1) then none else some ((zU n a).tdiv (zU n b)%m9 n):=rfl
 by_cases h:noQ n a b
 ·rw[yr (show b=0\/_ from h)]at e;refine(vE n a b w hn ha hb h).mono ?_;rintro _ w' ⟨⟨z,rfl⟩,g⟩;exact yM e g
 ·rw[yt (show ¬(b=0\/_) from h)]at e;refine(tQ n a b w hn ha hb h).mono ?_;rintro _ w' ⟨rfl,g⟩;exact yL e g
theorem dofn7 (n a b:Int)(B:Nat)(w:World)(hn:zi n)(ha:yX n a)(hb:yX n b):Calls prog 233 #[.int .i64 n,.int .u32 a,.int .u32 b] w (DoPost 7 n a b w):=by
 have e:Wd.op 7 n a b=if b=0\/(zU n a=-m9 (n-1)/\zU n b=-1) then none else some ((zU n a).tmod (zU n b)%m9 n):=rfl
 by_cases h:noQ n a b
 ·rw[yr (show b=0\/_ from h)]at e;refine(vF n a b w hn ha hb h).mono ?_;rintro _ w' ⟨⟨z,rfl⟩,g⟩;exact yM e g
 ·rw[yt (show ¬(b=0\/_) from h)]at e;refine(tS n a b w hn ha hb h).mono ?_;rintro _ w' ⟨rfl,g⟩;exact yL e g
theorem dofn8 (n a b:Int)(B:Nat)(w:World)(hn:zi n)(ha:yX n a)(hb:yX n b)(hc:w.cell? ⟨B,0,none⟩=some (fnV 235)):Calls prog 247 #[.int .i64 n,.int .u32 a,.int .u32 b,.pointer (some ⟨B,0,none⟩)] w (DoPost 8 n a b w):=by refine(gi _ (enters_of func235 (by kernel_rfl) rfl) n a b _ B w hc (fun d=>tT a b d)).mono ?_;rintro e w' ⟨rfl,rfl⟩;exact yL rfl (yO _)
theorem dofn9 (n a b:Int)(B:Nat)(w:World)(hn:zi n)(ha:yX n a)(hb:yX n b)(hc:w.cell? ⟨B,0,none⟩=some (fnV 236)):Calls prog 247 #[.int .i64 n,.int .u32 a,.int .u32 b,.pointer (some ⟨B,0,none⟩)] w (DoPost 9 n a b w):=by refine(gi _ (enters_of func236 (by kernel_rfl) rfl) n a b _ B w hc (fun d=>tU a b d)).mono ?_;rintro e w' ⟨rfl,rfl⟩;exact yL rfl (yO _)
theorem dofn10 (n a b:Int)(B:Nat)(w:World)(hn:zi n)(ha:yX n a)(hb:yX n b)(hc:w.cell? ⟨B,0,none⟩=some (fnV 237)):Calls prog 247 #[.int .i64 n,.int .u32 a,.int .u32 b,.pointer (some ⟨B,0,none⟩)] w (DoPost 10 n a b w):=by refine(gi _ (enters_of func237 (by kernel_rfl) rfl) n a b _ B w hc (fun d=>tV a b d)).mono ?_;rintro e w' ⟨rfl,rfl⟩;exact yL rfl (yO _)
theorem dofn11 (n a b:Int)(B:Nat)(w:World)(hn:zi n)(ha:yX n a)(hb:yX n b):Calls prog 238 #[.int .i64 n,.int .u32 a,.int .u32 b] w (DoPost 11 n a b w):=by
 have e:Wd.op 11 n a b=if n<=b then none else some (a*2 ^ b.toNat%m9 n):=rfl
 by_cases h:n<=b
 ·rw[yr h]at e;refine(tW n a b w (words hn hb) h).mono ?_;rintro _ w' ⟨rfl,rfl⟩;exact yM e (yO _)
 ·rw[yt h]at e;refine(vG n a b w (words hn ha) hb.1 (by omega) hn).mono ?_;rintro _ w' ⟨rfl,rfl⟩;exact yL e (yO _)
theorem dofn12 (n a b:Int)(B:Nat)(w:World)(hn:zi n)(ha:yX n a)(hb:yX n b):Calls prog 240 #[.int .i64 n,.int .u32 a,.int .u32 b] w (DoPost 12 n a b w):=by
 have e:Wd.op 12 n a b=if n<=b then none else some (a / 2 ^ b.toNat):=rfl
 by_cases h:n<=b
 ·rw[yr h]at e;refine(tX n a b w (words hn hb) h).mono ?_;rintro _ w' ⟨rfl,rfl⟩;exact yM e (yO _)
 ·rw[yt h]at e;refine(vH n a b w (words hn ha) hb.1 (by omega) hn.2).mono ?_;rintro _ w' ⟨rfl,rfl⟩;exact yL e (yO _)
theorem dofn13 (n a b:Int)(B:Nat)(w:World)(hn:zi n)(ha:yX n a)(hb:yX n b):Calls prog 242 #[.int .i64 n,.int .u32 a,.int .u32 b] w (DoPost 13 n a b w):=by
 have e:Wd.op 13 n a b=if n<=b then none else some (zU n a / 2 ^ b.toNat%m9 n):=rfl
 by_cases h:n<=b
 ·rw[yr h]at e;refine(tZ n a b w hn ha (words hn hb) h).mono ?_;rintro _ w' ⟨⟨z,rfl⟩,rfl⟩;exact yM e (yO _)
 ·rw[yt h]at e;refine(vJ n a b w hn ha hb.1 (by omega)).mono ?_;rintro _ w' ⟨rfl,rfl⟩;exact yL e (yO _)
theorem bDo_any (o n a b:Int)(w:World)(ho:1<=o/\o<=13)(hn:zi n)(ha:yX n a)(hb:yX n b):Calls prog 190 #[.int .i64 o,.int .i64 n,.int .u32 a,.int .u32 b] w (RG (.tuple #[.int .u32 ((Wd.op o n a b).getD 0),.bool (Wd.op o n a b).isSome,.int .i64 0]) w):=by
 have C:=dJ fun d=>asked_any o n a b d ho hn ha hb;obtain⟨z,r⟩:=xJ (Wd.op o n a b);rw[r];rcases (by omega:o=1\/o=2\/o=3\/o=4\/o=5\/o=6\/o=7\/o=8\/o=9\/o=10\/o=11\/o=12\/o=13) with rfl|rfl|rfl|rfl|rfl|rfl|rfl|rfl|rfl|rfl|rfl|rfl|rfl
 ·have t:=dJ fun B d (hc:d.cell? ⟨B,0,none⟩=some (fnV 221))=>dofn1 n a b B d hn ha hb hc;clear hn ha hb ho;have j:=dJ r;have u:=dJ (show ∀B,opV 1 B=.agg #[boxV 246 B,fnV 220,.nilFunc] from fun B=>rfl);clear r
  go_enter func190, ntmps190
  go_wp2_with (first|(go_at_call 207;refine(C.out _).mono ?_;rintro e d ⟨v,rfl,⟨B,rfl,q⟩,l⟩;rw[u.out B];have A:=dJ (show B<d.heap.size/\d.cell? ⟨B,0,none⟩=some (fnV 221) from q (by unfold boxed;omega));unfold fnV boxV;clear q)|(go_at_call 246;refine(t.out B _ (by rw[World.cell?_alloc_past _ _ _ A.out.1];exact A.out.2)).mono ?_;rintro e D ⟨⟨y,rfl,p⟩,m⟩;have g:=dJ p;clear p;rw[j.out]at g;rw[j.out];obtain _|x:=z))
  ·exact yq (v:=.tuple #[.int .u32 0,.bool false,.int .i64 0]) (by simp[results,results190,go_sem]) rfl ⟨rfl,(l.alloc _).trans m⟩
  ·exact yq (v:=.tuple #[.int .u32 y,.bool true,.int .i64 0]) (by simp[results,results190,go_sem]) rfl ⟨by rw[g.out x rfl];rfl,(l.alloc _).trans m⟩
 ·have t:=dJ fun B d (hc:d.cell? ⟨B,0,none⟩=some (fnV 223))=>dofn2 n a b B d hn ha hb hc;clear hn ha hb ho;have j:=dJ r;have u:=dJ (show ∀B,opV 2 B=.agg #[boxV 246 B,fnV 222,.nilFunc] from fun B=>rfl);clear r
  go_enter func190, ntmps190
  go_wp2_with (first|(go_at_call 207;refine(C.out _).mono ?_;rintro e d ⟨v,rfl,⟨B,rfl,q⟩,l⟩;rw[u.out B];have A:=dJ (show B<d.heap.size/\d.cell? ⟨B,0,none⟩=some (fnV 223) from q (by unfold boxed;omega));unfold fnV boxV;clear q)|(go_at_call 246;refine(t.out B _ (by rw[World.cell?_alloc_past _ _ _ A.out.1];exact A.out.2)).mono ?_;rintro e D ⟨⟨y,rfl,p⟩,m⟩;have g:=dJ p;clear p;rw[j.out]at g;rw[j.out];obtain _|x:=z))
  ·exact yq (v:=.tuple #[.int .u32 0,.bool false,.int .i64 0]) (by simp[results,results190,go_sem]) rfl ⟨rfl,(l.alloc _).trans m⟩
  ·exact yq (v:=.tuple #[.int .u32 y,.bool true,.int .i64 0]) (by simp[results,results190,go_sem]) rfl ⟨by rw[g.out x rfl];rfl,(l.alloc _).trans m⟩
 ·have t:=dJ fun B d (hc:d.cell? ⟨B,0,none⟩=some (fnV 226))=>dofn3 n a b B d hn ha hb hc;clear hn ha hb ho;have j:=dJ r;have u:=dJ (show ∀B,opV 3 B=.agg #[boxV 246 B,fnV 224,.nilFunc] from fun B=>rfl);clear r
  go_enter func190, ntmps190
  go_wp2_with (first|(go_at_call 207;refine(C.out _).mono ?_;rintro e d ⟨v,rfl,⟨B,rfl,q⟩,l⟩;rw[u.out B];have A:=dJ (show B<d.heap.size/\d.cell? ⟨B,0,none⟩=some (fnV 226) from q (by unfold boxed;omega));unfold fnV boxV;clear q)|(go_at_call 246;refine(t.out B _ (by rw[World.cell?_alloc_past _ _ _ A.out.1];exact A.out.2)).mono ?_;rintro e D ⟨⟨y,rfl,p⟩,m⟩;have g:=dJ p;clear p;rw[j.out]at g;rw[j.out];obtain _|x:=z))
  ·exact yq (v:=.tuple #[.int .u32 0,.bool false,.int .i64 0]) (by simp[results,results190,go_sem]) rfl ⟨rfl,(l.alloc _).trans m⟩
  ·exact yq (v:=.tuple #[.int .u32 y,.bool true,.int .i64 0]) (by simp[results,results190,go_sem]) rfl ⟨by rw[g.out x rfl];rfl,(l.alloc _).trans m⟩
 ·have t:=dJ fun B d=>dofn4 n a b B d hn ha hb;clear hn ha hb ho;have j:=dJ r;have u:=dJ (show ∀B,opV 4 B=.agg #[fnV 227,.nilFunc,fnV 228] from fun B=>rfl);clear r
  go_enter func190, ntmps190
  go_wp2_with (first|(go_at_call 207;refine(C.out _).mono ?_;rintro e d ⟨v,rfl,⟨B,rfl,q⟩,l⟩;rw[u.out B];unfold fnV;clear q)|(go_at_call 227;refine(t.out B _).mono ?_;rintro e D ⟨⟨y,rfl,p⟩,m⟩;have g:=dJ p;clear p;rw[j.out]at g;rw[j.out];obtain _|x:=z))
  ·exact yq (v:=.tuple #[.int .u32 0,.bool false,.int .i64 0]) (by simp[results,results190,go_sem]) rfl ⟨rfl,(l.alloc _).trans m⟩
  ·exact yq (v:=.tuple #[.int .u32 y,.bool true,.int .i64 0]) (by simp[results,results190,go_sem]) rfl ⟨by rw[g.out x rfl];rfl,(l.alloc _).trans m⟩
 ·have t:=dJ fun B d=>dofn5 n a b B d hn ha hb;clear hn ha hb ho;have j:=dJ r;have u:=dJ (show ∀B,opV 5 B=.agg #[fnV 229,.nilFunc,.nilFunc] from fun B=>rfl);clear r
  go_enter func190, ntmps190
  go_wp2_with (first|(go_at_call 207;refine(C.out _).mono ?_;rintro e d ⟨v,rfl,⟨B,rfl,q⟩,l⟩;rw[u.out B];unfold fnV;clear q)|(go_at_call 229;refine(t.out B _).mono ?_;rintro e D ⟨⟨y,rfl,p⟩,m⟩;have g:=dJ p;clear p;rw[j.out]at g;rw[j.out];obtain _|x:=z))
  ·exact yq (v:=.tuple #[.int .u32 0,.bool false,.int .i64 0]) (by simp[results,results190,go_sem]) rfl ⟨rfl,(l.alloc _).trans m⟩
  ·exact yq (v:=.tuple #[.int .u32 y,.bool true,.int .i64 0]) (by simp[results,results190,go_sem]) rfl ⟨by rw[g.out x rfl];rfl,(l.alloc _).trans m⟩
 ·have t:=dJ fun B d=>dofn6 n a b B d hn ha hb;clear hn ha hb ho;have j:=dJ r;have u:=dJ (show ∀B,opV 6 B=.agg #[fnV 230,.nilFunc,fnV 232] from fun B=>rfl);clear r
  go_enter func190, ntmps190
  go_wp2_with (first|(go_at_call 207;refine(C.out _).mono ?_;rintro e d ⟨v,rfl,⟨B,rfl,q⟩,l⟩;rw[u.out B];unfold fnV;clear q)|(go_at_call 230;refine(t.out B _).mono ?_;rintro e D ⟨⟨y,rfl,p⟩,m⟩;have g:=dJ p;clear p;rw[j.out]at g;rw[j.out];obtain _|x:=z))
  ·exact yq (v:=.tuple #[.int .u32 0,.bool false,.int .i64 0]) (by simp[results,results190,go_sem]) rfl ⟨rfl,(l.alloc _).trans m⟩
  ·exact yq (v:=.tuple #[.int .u32 y,.bool true,.int .i64 0]) (by simp[results,results190,go_sem]) rfl ⟨by rw[g.out x rfl];rfl,(l.alloc _).trans m⟩
 ·have t:=dJ fun B d=>dofn7 n a b B d hn ha hb;clear hn ha hb ho;have j:=dJ r;have u:=dJ (show ∀B,opV 7 B=.agg #[fnV 233,.nilFunc,.nilFunc] from fun B=>rfl);clear r
  go_enter func190, ntmps190
  go_wp2_with (first|(go_at_call 207;refine(C.out _).mono ?_;rintro e d ⟨v,rfl,⟨B,rfl,q⟩,l⟩;rw[u.out B];unfold fnV;clear q)|(go_at_call 233;refine(t.out B _).mono ?_;rintro e D ⟨⟨y,rfl,p⟩,m⟩;have g:=dJ p;clear p;rw[j.out]at g;rw[j.out];obtain _|x:=z))
  ·exact yq (v:=.tuple #[.int .u32 0,.bool false,.int .i64 0]) (by simp[results,results190,go_sem]) rfl ⟨rfl,(l.alloc _).trans m⟩
  ·exact yq (v:=.tuple #[.int .u32 y,.bool true,.int .i64 0]) (by simp[results,results190,go_sem]) rfl ⟨by rw[g.out x rfl];rfl,(l.alloc _).trans m⟩
 ·have t:=dJ fun B d (hc:d.cell? ⟨B,0,none⟩=some (fnV 235))=>dofn8 n a b B d hn ha hb hc;clear hn ha hb ho;have j:=dJ r;have u:=dJ (show ∀B,opV 8 B=.agg #[boxV 247 B,.nilFunc,.nilFunc] from fun B=>rfl);clear r
  go_enter func190, ntmps190
  go_wp2_with (first|(go_at_call 207;refine(C.out _).mono ?_;rintro e d ⟨v,rfl,⟨B,rfl,q⟩,l⟩;rw[u.out B];have A:=dJ (show B<d.heap.size/\d.cell? ⟨B,0,none⟩=some (fnV 235) from q (by unfold boxed;omega));unfold boxV;clear q)|(go_at_call 247;refine(t.out B _ (by rw[World.cell?_alloc_past _ _ _ A.out.1];exact A.out.2)).mono ?_;rintro e D ⟨⟨y,rfl,p⟩,m⟩;have g:=dJ p;clear p;rw[j.out]at g;rw[j.out];obtain _|x:=z))
  ·exact yq (v:=.tuple #[.int .u32 0,.bool false,.int .i64 0]) (by simp[results,results190,go_sem]) rfl ⟨rfl,(l.alloc _).trans m⟩
  ·exact yq (v:=.tuple #[.int .u32 y,.bool true,.int .i64 0]) (by simp[results,results190,go_sem]) rfl ⟨by rw[g.out x rfl];rfl,(l.alloc _).trans m⟩
 ·have t:=dJ fun B d (hc:d.cell? ⟨B,0,none⟩=some (fnV 236))=>dofn9 n a b B d hn ha hb hc;clear hn ha hb ho;have j:=dJ r;have u:=dJ (show ∀B,opV 9 B=.agg #[boxV 247 B,.nilFunc,.nilFunc] from fun B=>rfl);clear r
  go_enter func190, ntmps190
  go_wp2_with (first|(go_at_call 207;refine(C.out _).mono ?_;rintro e d ⟨v,rfl,⟨B,rfl,q⟩,l⟩;rw[u.out B];have A:=dJ (show B<d.heap.size/\d.cell? ⟨B,0,none⟩=some (fnV 236) from q (by unfold boxed;omega));unfold boxV;clear q)|(go_at_call 247;refine(t.out B _ (by rw[World.cell?_alloc_past _ _ _ A.out.1];exact A.out.2)).mono ?_;rintro e D ⟨⟨y,rfl,p⟩,m⟩;have g:=dJ p;clear p;rw[j.out]at g;rw[j.out];obtain _|x:=z))
  ·exact yq (v:=.tuple #[.int .u32 0,.bool false,.int .i64 0]) (by simp[results,results190,go_sem]) rfl ⟨rfl,(l.alloc _).trans m⟩
  ·exact yq (v:=.tuple #[.int .u32 y,.bool true,.int .i64 0]) (by simp[results,results190,go_sem]) rfl ⟨by rw[g.out x rfl];rfl,(l.alloc _).trans m⟩
 ·have t:=dJ fun B d (hc:d.cell? ⟨B,0,none⟩=some (fnV 237))=>dofn10 n a b B d hn ha hb hc;clear hn ha hb ho;have j:=dJ r;have u:=dJ (show ∀B,opV 10 B=.agg #[boxV 247 B,.nilFunc,.nilFunc] from fun B=>rfl);clear r
  go_enter func190, ntmps190
  go_wp2_with (first|(go_at_call 207;refine(C.out _).mono ?_;rintro e d ⟨v,rfl,⟨B,rfl,q⟩,l⟩;rw[u.out B];have A:=dJ (show B<d.heap.size/\d.cell? ⟨B,0,none⟩=some (fnV 237) from q (by unfold boxed;omega));unfold boxV;clear q)|(go_at_call 247;refine(t.out B _ (by rw[World.cell?_alloc_past _ _ _ A.out.1];exact A.out.2)).mono ?_;rintro e D ⟨⟨y,rfl,p⟩,m⟩;have g:=dJ p;clear p;rw[j.out]at g;rw[j.out];obtain _|x:=z))
  ·exact yq (v:=.tuple #[.int .u32 0,.bool false,.int .i64 0]) (by simp[results,results190,go_sem]) rfl ⟨rfl,(l.alloc _).trans m⟩
  ·exact yq (v:=.tuple #[.int .u32 y,.bool true,.int .i64 0]) (by simp[results,results190,go_sem]) rfl ⟨by rw[g.out x rfl];rfl,(l.alloc _).trans m⟩
 ·have t:=dJ fun B d=>dofn11 n a b B d hn ha hb;clear hn ha hb ho;have j:=dJ r;have u:=dJ (show ∀B,opV 11 B=.agg #[fnV 238,fnV 239,.nilFunc] from fun B=>rfl);clear r
  go_enter func190, ntmps190
  go_wp2_with (first|(go_at_call 207;refine(C.out _).mono ?_;rintro e d ⟨v,rfl,⟨B,rfl,q⟩,l⟩;rw[u.out B];unfold fnV;clear q)|(go_at_call 238;refine(t.out B _).mono ?_;rintro e D ⟨⟨y,rfl,p⟩,m⟩;have g:=dJ p;clear p;rw[j.out]at g;rw[j.out];obtain _|x:=z))
  ·exact yq (v:=.tuple #[.int .u32 0,.bool false,.int .i64 0]) (by simp[results,results190,go_sem]) rfl ⟨rfl,(l.alloc _).trans m⟩
  ·exact yq (v:=.tuple #[.int .u32 y,.bool true,.int .i64 0]) (by simp[results,results190,go_sem]) rfl ⟨by rw[g.out x rfl];rfl,(l.alloc _).trans m⟩
 ·have t:=dJ fun B d=>dofn12 n a b B d hn ha hb;clear hn ha hb ho;have j:=dJ r;have u:=dJ (show ∀B,opV 12 B=.agg #[fnV 240,.nilFunc,fnV 241] from fun B=>rfl);clear r
  go_enter func190, ntmps190
  go_wp2_with (first|(go_at_call 207;refine(C.out _).mono ?_;rintro e d ⟨v,rfl,⟨B,rfl,q⟩,l⟩;rw[u.out B];unfold fnV;clear q)|(go_at_call 240;refine(t.out B _).mono ?_;rintro e D ⟨⟨y,rfl,p⟩,m⟩;have g:=dJ p;clear p;rw[j.out]at g;rw[j.out];obtain _|x:=z))
  ·exact yq (v:=.tuple #[.int .u32 0,.bool false,.int .i64 0]) (by simp[results,results190,go_sem]) rfl ⟨rfl,(l.alloc _).trans m⟩
  ·exact yq (v:=.tuple #[.int .u32 y,.bool true,.int .i64 0]) (by simp[results,results190,go_sem]) rfl ⟨by rw[g.out x rfl];rfl,(l.alloc _).trans m⟩
 ·have t:=dJ fun B d=>dofn13 n a b B d hn ha hb;clear hn ha hb ho;have j:=dJ r;have u:=dJ (show ∀B,opV 13 B=.agg #[fnV 242,.nilFunc,fnV 244] from fun B=>rfl);clear r
  go_enter func190, ntmps190
  go_wp2_with (first|(go_at_call 207;refine(C.out _).mono ?_;rintro e d ⟨v,rfl,⟨B,rfl,q⟩,l⟩;rw[u.out B];unfold fnV;clear q)|(go_at_call 242;refine(t.out B _).mono ?_;rintro e D ⟨⟨y,rfl,p⟩,m⟩;have g:=dJ p;clear p;rw[j.out]at g;rw[j.out];obtain _|x:=z))
  ·exact yq (v:=.tuple #[.int .u32 0,.bool false,.int .i64 0]) (by simp[results,results190,go_sem]) rfl ⟨rfl,(l.alloc _).trans m⟩
  ·exact yq (v:=.tuple #[.int .u32 y,.bool true,.int .i64 0]) (by simp[results,results190,go_sem]) rfl ⟨by rw[g.out x rfl];rfl,(l.alloc _).trans m⟩
end Ops
end
section
open Go.RowKit Go.Maps Go.Shelf
namespace Ops
theorem nil_eq (w:World):(binOp .eql 222 .nilFunc .nilFunc).run prog w=.ok (.bool true) w:=by kernel_rfl
theorem func_eq (g:Go.Fn)(a b:Array Value)(w:World):(binOp .eql 222 (.func g a b) .nilFunc).run prog w=.ok (.bool false) w:=by kernel_rfl
theorem nil_ne (w:World):(binOp .neq 223 .nilFunc .nilFunc).run prog w=.ok (.bool false) w:=by kernel_rfl
theorem func_ne (g:Go.Fn)(a b:Array Value)(w:World):(binOp .neq 223 (.func g a b) .nilFunc).run prog w=.ok (.bool true) w:=by kernel_rfl
theorem flag_bits (h:0<=fl/\fl<=7):(bits .and .i64 fl 1 != 0)=(fl%2 == 1)/\(bits .and .i64 fl 2 != 0)=(fl / 2%2 == 1)/\(bits .and .i64 fl 4 != 0)=(fl / 4%2 == 1):=by rcases (by omega:fl=0\/fl=1\/fl=2\/fl=3\/fl=4\/fl=5\/fl=6\/fl=7) with rfl|rfl|rfl|rfl|rfl|rfl|rfl|rfl<;>decide
def wrapsB (t1 t2:Bool)(m h X Z:Int):Bool:=t1 && (decide (X<0) || decide (m<X)) || t2 && (decide (Z < -h) || decide (h<=Z))
theorem dec_iff {p q:Prop}[Decidable p][Decidable q](h:p↔q):decide p=decide q:=by rw[Bool.eq_iff_iff];simpa using h
theorem sg_bd (hn:zi n)(ha:yX n a):-2147483648<=zU n a/\zU n a<=2147483647:=by have d:=Eo hn ha;obtain⟨k,-,-,-,g,j⟩:=ey hn;omega
theorem brk1_eq (fl:Int)(hn:zi n)(ha:yX n a)(hb:yX n b):Gw 1 fl n a b=wrapsB (fl%2 == 1) (fl / 2%2 == 1) (m9 n-1) (m9 (n-1)) (a+b) (zU n a+zU n b):=by
 have e:Gw 1 fl n a b=(fl%2 == 1 && decide (m9 n<=a+b) || fl / 2%2 == 1 && (decide (zU n a+zU n b < -m9 (n-1)) || decide (m9 (n-1)<=zU n a+zU n b))):=rfl
 have d:decide (m9 n<=a+b)=(decide (a+b<0) || decide (m9 n-1<a+b)):=by rw[<-Bool.decide_or];refine dec_iff ?_;have:=ha.1;have:=hb.1;omega
 rw[e,d];rfl
theorem brk2_eq (fl:Int)(hn:zi n)(ha:yX n a)(hb:yX n b):Gw 2 fl n a b=wrapsB (fl%2 == 1) (fl / 2%2 == 1) (m9 n-1) (m9 (n-1)) (a-b) (zU n a-zU n b):=by
 have e:Gw 2 fl n a b=(fl%2 == 1 && decide (a<b) || fl / 2%2 == 1 && (decide (zU n a-zU n b < -m9 (n-1)) || decide (m9 (n-1)<=zU n a-zU n b))):=rfl
 have d:decide (a<b)=(decide (a-b<0) || decide (m9 n-1<a-b)):=by rw[<-Bool.decide_or];refine dec_iff ?_;have:=ha.2;have:=hb.1;omega
 rw[e,d];rfl
theorem brk3_eq (fl:Int)(hn:zi n)(ha:yX n a)(hb:yX n b):Gw 3 fl n a b=wrapsB (fl%2 == 1) (fl / 2%2 == 1) (m9 n-1) (m9 (n-1)) (ic a b) (ic (zU n a) (zU n b)):=by
 have e:Gw 3 fl n a b=(fl%2 == 1 && decide (m9 n<=a*b) || fl / 2%2 == 1 && (decide (zU n a*zU n b < -m9 (n-1)) || decide (m9 (n-1)<=zU n a*zU n b))):=rfl;have m:=Int.mul_nonneg ha.1 hb.1;have p:=C4 hn;obtain⟨k,-,-,-,j,l⟩:=ey hn
 have d:decide (m9 n<=a*b)=(decide (ic a b<0) || decide (m9 n-1<ic a b)):=by rw[<-Bool.decide_or];refine dec_iff ?_;unfold ic;split<;>omega
 have g:(decide (zU n a*zU n b < -m9 (n-1)) || decide (m9 (n-1)<=zU n a*zU n b))=(decide (ic (zU n a) (zU n b) < -m9 (n-1)) || decide (m9 (n-1)<=ic (zU n a) (zU n b))):=by rw[<-Bool.decide_or,<-Bool.decide_or];refine dec_iff ?_;unfold ic;split<;>omega
 rw[e,d,g];rfl
theorem brk11_eq (fl:Int)(ha:yX n a):Gw 11 fl n a b=wrapsB (fl%2 == 1) (fl / 2%2 == 1) (m9 n-1) (m9 (n-1)) (a*2 ^ b.toNat) (zU n a*2 ^ b.toNat):=by
 have e:Gw 11 fl n a b=(fl%2 == 1 && decide (m9 n<=a*2 ^ b.toNat) || fl / 2%2 == 1 && (decide (zU n a*2 ^ b.toNat < -m9 (n-1)) || decide (m9 (n-1)<=zU n a*2 ^ b.toNat))):=rfl;have g:0<=a*2 ^ b.toNat:=Int.mul_nonneg ha.1 (Int.le_of_lt (Int.pow_pos (by decide)))
 have d:decide (m9 n<=a*2 ^ b.toNat)=(decide (a*2 ^ b.toNat<0) || decide (m9 n-1<a*2 ^ b.toNat)):=by rw[<-Bool.decide_or];refine dec_iff ?_;omega
 rw[e,d];rfl
theorem shl_bd (ha:-4294967296<a/\a<4294967296)(hb:0<=b/\b<32):-9223372036854775808<=a*2 ^ b.toNat/\a*2 ^ b.toNat<=9223372036854775807:=by
 have g:(2:Int) ^ b.toNat<=2147483648:=by
  have:=Hg (n:=b) (m:=31) (by omega);have e:m9 31=2147483648:=by decide
  unfold m9 at this e;omega
 have d:(0:Int)<2 ^ b.toNat:=Int.pow_pos (by decide);generalize (2:Int) ^ b.toNat=p at d g;have j:a*p<=4294967295*p:=Int.mul_le_mul_of_nonneg_right (by omega) (by omega);have l:-4294967295*p<=a*p:=Int.mul_le_mul_of_nonneg_right (by omega) (by omega);omega
theorem brkF (o:Int)(F L:Nat)(eF:∀args w,(callFunc F args).run prog w=.ok (.enter F args) w)(eL:∀args w,(callFunc L args).run prog w=.ok (.enter L args) w)(c s lb:Bool)(fl n a b:Int)(w:World)(hf:0<=fl/\fl<=7)
  (CA:Hid (∀w1,Calls prog 207 #[.int .i64 o,.int .i64 n,.int .u32 a,.int .u32 b] w1 (RG (.tuple #[.agg #[fnV F,.nilFunc,if c=true then fnV L else .nilFunc],.bool true]) w1)))
  (CD:Hid (∀w1,Calls prog F #[.int .i64 n,.int .u32 a,.int .u32 b] w1 fun e w'=>(∃y,e=.returned (.tuple #[.int .u32 y,.bool s]))/\Gr w1 w'))
  (CL:Hid (c=true->s=true->∀w1,Calls prog L #[.int .i64 n,.int .u32 a,.int .u32 b] w1 (RG (.bool lb) w1)))
  (HB:Hid (BZ o fl n a b=(s && (c && ((fl / 4%2 == 1) && lb))))) :
  Calls prog 191 #[.int .i64 o,.int .i64 fl,.int .i64 n,.int .u32 a,.int .u32 b] w (RG (.tuple #[.bool (BZ o fl n a b),.int .i64 0]) w):=by
 have H:=nil_eq;have I:=func_eq;have J:=nil_ne;have K:=func_ne;obtain⟨r,u,A⟩:=flag_bits hf;obtain⟨M,N⟩:=hf;obtain⟨O,l⟩:∃t,(fl%2 == 1)=t:=⟨_,rfl⟩;obtain⟨Q,m⟩:∃t,(fl / 2%2 == 1)=t:=⟨_,rfl⟩;obtain⟨t4,p⟩:∃t,(fl / 4%2 == 1)=t:=⟨_,rfl⟩;rw[l]at r;rw[m]at u;rw[p]at A HB;clear l m p;cases s<;>cases c<;>cases t4<;>cases lb
 all_goals
  simp only[Bool.false_eq_true,reduceIte]at CA
  try replace CL:=dJ (CL.out rfl rfl)
  go_enter func191, ntmps191
  go_wp2_with (first|(go_at_call 207;refine(CA.out _).mono ?_;rintro e w1 ⟨rfl,B⟩;unfold fnV)|(go_at_fn F;(with_reducible refine(CD.out _).mono ?_);rintro e R ⟨⟨y,rfl⟩,j⟩;have d:=dJ ((B.alloc _).trans j);have C:=df _ _ 0 j rfl;have D:=df _ _ 1 j rfl;have E:=df _ _ 2 j rfl;simp only[xX,xW,xV]at C D E)|(go_at_fn L;(with_reducible refine(CL.out _).mono ?_);rintro e S ⟨rfl,q⟩;have g:=dJ (d.out.trans q);have G:=df _ _ 1 (j.trans q) rfl;simp only[xX,xW,xV]at G))
  all_goals first
   | exact yq (v:=.tuple #[.bool false,.int .i64 0]) (by simp[results,results191,go_sem]) rfl ⟨congrArg (fun z=>Ending.returned (.tuple #[.bool z,.int .i64 0])) (show false=_ from HB.out.symm),by first|exact g.out|exact d.out⟩
   | exact yq (v:=.tuple #[.bool true,.int .i64 0]) (by simp[results,results191,go_sem]) rfl ⟨congrArg (fun z=>Ending.returned (.tuple #[.bool z,.int .i64 0])) (show true=_ from HB.out.symm),g.out⟩
theorem brkP (o:Int)(G:Nat)(fl n a b:Int)(w:World)(hf:0<=fl/\fl<=7)
  (CA:Hid (∀w1,Calls prog 207 #[.int .i64 o,.int .i64 n,.int .u32 a,.int .u32 b] w1 fun e w'=>∃B,e=.returned (.tuple #[.agg #[boxV 247 B,.nilFunc,.nilFunc],.bool true])/\(B<w'.heap.size/\w'.cell? ⟨B,0,none⟩=some (fnV G))/\Gr w1 w'))
  (CD:Hid (∀B w1,w1.cell? ⟨B,0,none⟩=some (fnV G)->Calls prog 247 #[.int .i64 n,.int .u32 a,.int .u32 b,.pointer (some ⟨B,0,none⟩)] w1 fun e w'=>(∃y,e=.returned (.tuple #[.int .u32 y,.bool true]))/\Gr w1 w'))
  (HB:Hid (BZ o fl n a b=false)) :
  Calls prog 191 #[.int .i64 o,.int .i64 fl,.int .i64 n,.int .u32 a,.int .u32 b] w (RG (.tuple #[.bool (BZ o fl n a b),.int .i64 0]) w):=by
 have F:=nil_eq;have H:=func_eq;have I:=nil_ne;have J:=func_ne;obtain⟨r,u,z⟩:=flag_bits hf;obtain⟨K,L⟩:=hf;obtain⟨M,d⟩:∃t,(fl%2 == 1)=t:=⟨_,rfl⟩;obtain⟨N,g⟩:∃t,(fl / 2%2 == 1)=t:=⟨_,rfl⟩;obtain⟨t4,j⟩:∃t,(fl / 4%2 == 1)=t:=⟨_,rfl⟩;rw[d]at r;rw[g]at u;rw[j]at z;clear d g j;cases t4
 all_goals
  go_enter func191, ntmps191
  go_wp2_with (first|(go_at_call 207;refine(CA.out _).mono ?_;rintro e w1 ⟨B,rfl,q,A⟩;have p:=dJ q;unfold boxV;clear q)|(go_at_call 247;refine(CD.out B _ (by rw[World.cell?_alloc_past _ _ _ p.out.1];exact p.out.2)).mono ?_;rintro e O ⟨⟨y,rfl⟩,l⟩;have m:=dJ ((A.alloc _).trans l);have C:=df _ _ 0 l rfl;have D:=df _ _ 1 l rfl;have E:=df _ _ 2 l rfl;simp only[xX,xW,xV]at C D E))
  exact yq (v:=.tuple #[.bool false,.int .i64 0]) (by simp[results,results191,go_sem]) rfl ⟨by rw[HB.out],m.out⟩
end Ops
end

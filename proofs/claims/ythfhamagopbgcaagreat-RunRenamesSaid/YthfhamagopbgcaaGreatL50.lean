/- Parts. -/
import Derived.Test.YthfhamagopbgcaaGreatL48
import Derived.Test.YthfhamagopbgcaaGreatL49
set_option linter.unusedSimpArgs false
set_option linter.unusedVariables false
set_option maxRecDepth 100000
set_option maxHeartbeats 16000000
open Go.Proofs.Tryz
namespace Go.Proofs.YthfhamagopbgcaaGreat
section
open Go.RowKit Go.Maps
def Word (k:Int):Prop:=-9223372036854775808<=k/\k<=9223372036854775807
theorem Word.wf {k:Int}(h:Word k):(Lit.int .i64 k).wf=true:=by obtain⟨d,g⟩:=h;simp[Lit.wf,show IntKind.i64.min=-9223372036854775808 from rfl,show IntKind.i64.max=9223372036854775807 from rfl];omega
theorem keyed_int:Keyed prog 3:=int_keyed underlying3
def MapAt (r n:Nat)(w:World)(M:Int->Option Int):Prop :=
 ∃D:DataW Unit,w.ownsMap prog 3 (plainElem prog 3) r n D/\∀k,Word k->Maps.has D (.int .i64 k)=(M k).isSome/\D.atKey (.int .i64 k) (.lit (.int .i64 0))=.lit (.int .i64 ((M k).getD 0))
section
variable {r n:Nat}{w w':World}{M:Int->Option Int}
theorem MapAt.made (w:World):MapAt w.heap.size 0 (w.alloc (.map #[] 0)) fun _=>none :=
 ⟨_,World.ownsMap_made _ _ _ _,fun k _=>⟨rfl,rfl⟩⟩
theorem MapAt.ob (h:MapAt r n w M):∃es clock,w.heap[r]?=some (.map es clock):=by obtain⟨D,⟨es,clock,d,-⟩,-⟩:=h;exact⟨es,clock,d⟩
theorem MapAt.same (h:MapAt r n w M)(hs:∀o,w.heap[r]?=some o->o.isCells=false->w'.heap[r]?=some o):MapAt r n w' M:=by obtain⟨D,⟨g,d,l,m⟩,j⟩:=h;exact⟨D,⟨g,d,hs _ l rfl,m⟩,j⟩
theorem MapAt.gr (h:MapAt r n w M)(g:Gr w w'):MapAt r n w' M:=h.same fun o d _=>(g.heap _ (vE.1 d).1).trans d
theorem MapAt.keeps (h:MapAt r n w M)(g:KeepsOthers w w'):MapAt r n w' M:=h.same fun o d j=>g.same _ _ d j
theorem MapAt.lt (h:MapAt r n w M):r<w.heap.size:=by obtain⟨D,d,-⟩:=h;exact d.lt
theorem xw (w:World):(zeroValue 3).run prog w=.ok (.int .i64 0) w:=by kernel_rfl
theorem MapAt.look (h:MapAt r n w M){k:Int}(hk:Word k):(Instr.lookup 143 (.map (some r)) (.int .i64 k) false).run prog w=.ok (.int .i64 ((M k).getD 0)) w:=by
 obtain⟨D,g,j⟩:=h;obtain⟨c,l,d,-⟩:=g.lookup_int keyed_int underlying143 underlying3 (xw w) (keyOf_int_mk underlying3 hk.wf);rw[(j k hk).2]at d;have:(M k).getD 0=c:=by simpa using d
 rw[this];exact l
theorem MapAt.look2 (h:MapAt r n w M){k:Int}(hk:Word k):(Instr.lookup 143 (.map (some r)) (.int .i64 k) true).run prog w=.ok (.tuple #[.int .i64 ((M k).getD 0),.bool (M k).isSome]) w:=by
 obtain⟨D,j,g⟩:=h;obtain⟨v,ps,l,hv⟩:=j.look_ok keyed_int underlying143 (xw w) (plainElem_int underlying3 (by decide)) (keyOf_int_mk underlying3 hk.wf);obtain⟨c,rfl,d,-⟩:=plainElem_int_inv underlying3 hv;have d:=congrArg Prod.fst d;simp only[(g k hk).2]at d;have:(M k).getD 0=c:=by simpa using d
 rw[this,<-(g k hk).1];exact l
theorem MapAt.store {ops:Array Oper}{rest:List Oper}{o:Oper}{a:Act}{Q:Exit->Act->World->Prop}(h:MapAt r n w M)(hn:n<=1000000)(k v:Int)(hk:Word k)(hv:Word v)
  (hg:o.guard=none) (m x y:Operand) (hop:o.op=Op.mapUpdate 143 m x y) (hm:a.eval m=.map (some r)) (hx:a.eval x=.int .i64 k) (hy:a.eval y=.int .i64 v)
  (hK:∀w',MapAt r (n+1) w' (fun j=>if j=k then some v else M j)->w.grownBy w' (some r)->wpList prog ops Q rest (a.put o.dst undef) w') :
  wpList prog ops Q (o::rest) a w:=by
 obtain⟨D,l,u⟩:=h;refine wpList_mapUpdate_own _ hg m x y 143 hop 3 3 keyed_int underlying143 _ r n D hm l (by unfold maxLen;omega) _ _ (.int .i64 k) hx hy (keyOf_int_mk underlying3 hk.wf) (.lit (.int .i64 v)) [] (plainElem_int underlying3 hv.wf) ?_;intro w' A t;refine hK w' ⟨_,A,fun j z=>?_⟩ t;have p:=l.isMap;have d:WideAt.IsKeyLit (.int .i64 k):=trivial;show _=(if j=k then some v else M j).isSome/\_=DataW.lit (.int .i64 ((if j=k then some v else M j).getD 0));by_cases e:j=k
 ·subst e;rw[wa rfl];exact⟨has_put_same p d _,atKey_put_same p d _ _⟩
 ·have g:(Lit.int .i64 j)≠.int .i64 k:=fun q=>by injection q with _ q;exact e q
  rw[yD e,has_put_other g,atKey_put_other g];exact u j z
end
end
section
open Go.RowKit
def mg (M:Int->Option Int)(z:Int):Int:=(M z).getD 0
theorem xy (x:Ins)(v:Value)(rv rb nv nb:Nat)(MV MB:Int->Option Int)(w:World)(hx:ud w.heap.size w v x)(hmv:MapAt rv nv w MV)(hmb:MapAt rb nb w MB)(ho:x.op≠28)
  (ha:∀z∈x.args,Word z) (hto:∀z∈x.to,Word z) (hl1:x.args.length<=100000) (hl2:x.to.length<=100000) :
  Calls prog 100 #[v,.map (some rv),.map (some rb)] w fun e w'=>∃A3 c3 A4 c4,e=.returned (.agg #[.int .i64 x.op,.int .i64 x.width,.int .i64 x.flags,.slice A3 x.args.length c3,.int .u32 x.imm,.slice A4 x.to.length c4])/\Hid (TI w.heap.size w' (.slice A3 x.args.length c3) (x.args.map (mg MV))/\TI w.heap.size w' (.slice A4 x.to.length c4) (x.to.map (mg MB)))/\Gr w w':=by
 obtain⟨va,vo,rfl,ar,au⟩:=hx;obtain⟨W,U⟩:=xJ ((w.alloc (.cells (df x va vo).cells 67)).alloc (.cells #[.int .i64 0,.int .i64 0,.int .i64 0,.slice none 0 0,.int .u32 0,.slice none 0 0] 67));have ac:Gr w W:=by rw[<-U];exact((wL w).alloc _).alloc _
 have ad:W.heap.size=w.heap.size+2:=by rw[<-U];simp
 obtain⟨X,ca,rfl,a1,a2,a3⟩:=ar;obtain⟨At,ct,rfl,t1,t2,t3⟩:=au
 have O:W.heap[w.heap.size]?=some (.cells #[.int .i64 x.op,.int .i64 x.width,.int .i64 x.flags,.slice X x.args.length ca,.int .u32 x.imm,.slice At x.to.length ct] 67 (0,0)):=by rw[<-U];exact(((wL _).alloc _).heap _ (by simp)).trans (heap_alloc_new w _)
 have af:W.heap[w.heap.size+1]?=some (.cells #[.int .i64 0,.int .i64 0,.int .i64 0,.slice none 0 0,.int .u32 0,.slice none 0 0] 67 (0,0)):=by rw[<-U];exact heap_alloc2_new w _ _
 obtain⟨k0,k1,k2,k3,k4,k5⟩:=crw6 O 0 1 2 3 4 5;have av:(x.op != 28)=true:=by simpa using ho
 unfold df at U ⊢;simp only[Value.cells]at U;have R0:Hid (∀w',Gr W w'->w'.heap[w.heap.size]?=some (.cells #[.int .i64 x.op,.int .i64 x.width,.int .i64 x.flags,.slice X x.args.length ca,.int .u32 x.imm,.slice At x.to.length ct] 67 (0,0))):=fun w' q=>(q.heap _ (by omega)).trans O;have R1:Hid (∀w',Gr W w'->w'.heap[w.heap.size+1]?=some (.cells #[.int .i64 0,.int .i64 0,.int .i64 0,.slice none 0 0,.int .u32 0,.slice none 0 0] 67 (0,0))):=fun w' q=>(q.heap _ (by omega)).trans af;have HA:Hid (∀z∈x.args,Word z):=ha;have an:Hid (∀z∈x.to,Word z):=hto;have am:=dJ hmv;have al:=dJ hmb;have A3:Hid (0<x.args.length->∃b off,X=some ⟨b,off,none⟩/\b<w.heap.size/\∀j z,x.args[j]?=some z->w.cell? ⟨b,off+j,none⟩=some (.int .i64 z)):=a3;have T3:Hid (0<x.to.length->∃b off,At=some ⟨b,off,none⟩/\b<w.heap.size/\∀j z,x.to[j]?=some z->w.cell? ⟨b,off+j,none⟩=some (.int .i64 z)):=t3;have G:=dJ ac;obtain⟨V,hV⟩:=xJ (W.alloc (.cells #[.int .i64 0,.int .i64 0,.int .i64 0,.slice none 0 0,.int .u32 0,.slice none 0 0] 67));have R:V.heap[W.heap.size]?=some (.cells #[.int .i64 0,.int .i64 0,.int .i64 0,.slice none 0 0,.int .u32 0,.slice none 0 0] 67 (0,0)):=by rw[<-hV];exact heap_alloc_new W _
 have ae:Gr W V:=by rw[<-hV];exact(wL W).alloc _
 obtain⟨⟨v0,v1,v2,v3,v4,v5⟩,f0,f1,f2,f3,f4,f5⟩:=dp R;have ao:=dJ R;have ak:=dJ ae;obtain⟨V1,D⟩:=xJ (((((((V.setCell ⟨W.heap.size,0,none⟩ (.int .i64 x.op)).setCell ⟨W.heap.size,1,none⟩ (.int .i64 x.width)).setCell ⟨W.heap.size,2,none⟩ (.int .i64 x.flags)).setCell ⟨W.heap.size,3,none⟩ (.slice X x.args.length ca)).setCell ⟨W.heap.size,4,none⟩ (.int .u32 x.imm)).setCell ⟨W.heap.size,5,none⟩ (.slice At x.to.length ct)));have Q:=nx ao.out (.int .i64 x.op) (.int .i64 x.width) (.int .i64 x.flags) (.slice X x.args.length ca) (.int .u32 x.imm) (.slice At x.to.length ct);rw[D]at Q;have Z:=dJ Q
 have aj:Hid (Gr W V1):=by
  show Gr W V1;rw[<-D]
  iterate 6 refine Gr.setCell ?_ (vV _) _
  exact ak.out
 obtain⟨V2,M⟩:=xJ ((V1.setCell ⟨W.heap.size,3,none⟩ (.slice none 0 0)).setCell ⟨W.heap.size,5,none⟩ (.slice none 0 0))
 have ab:Hid (YI W W.heap.size x.op x.width x.flags x.imm (.slice none 0 0) (.slice none 0 0) [] [] V2):=by rw[<-M];refine YI.start ?_ (by simpa using cX (i:=5) (.slice none 0 0) (cX (i:=3) (.slice none 0 0) Z.out)) (vV _);exact(aj.out.setCell (vV _) _).setCell (vV _) _
 have aa:=dJ ad;clear O af ha hto a3 t3 ac R ae ad Q hmv hmb;have ap:=dJ D;have aq:=dJ M;clear D M
 go_enter func100, ntmps100
 go_upto_region 2 with (fail)
 rw[ap.out];clear v0 v1 v2 v3 v4 v5 f0 f1 f2 f3 f4 f5 k0 k1 k2 k3 k4 k5;obtain⟨⟨-,-,-,u3,-,u5⟩,-,-,-,g3,-,g5⟩:=dp Z.out
 go_upto_region 3 with (fail)
 rw[aq.out];clear g3 g5 u3 u5;obtain⟨⟨k0,k1,k2,k3,k4,k5⟩,-⟩:=dp (R0.out _ ab.out.gr);go_wp2_with (fail)
 go_loopw [28] (fun i wr=>∃(k:Nat)(va:Value)(L:List Int),k<=x.args.length/\i=.int .i64 k/\Hid (L=(x.args.take k).map (mg MV))/\Hid (YI W W.heap.size x.op x.width x.flags x.imm va (.slice none 0 0) L [] wr)) (fun i _=>x.args.length-(intOf i).toNat)
 case atStart=>exact⟨0,_,[],vU _,rfl,dJ (by simp),ab⟩
 case round =>
  clear k0 k1 k2 k3 k4 k5;obtain⟨k,va,L,hk,rfl,HL,d⟩:=hrel;obtain⟨Av,cv,rfl⟩:=d.out.form3;obtain⟨⟨-,-,-,y3,-,-⟩,-⟩:=d.out.cells;by_cases r:k<x.args.length
  ·obtain⟨z,E⟩:∃z,x.args[k]?=some z:=⟨_,vu r⟩;obtain⟨ba,oa,rfl,N,p⟩:=A3.out (by omega);have u:=HA.out z (vz E);have l:=G.out.trans d.out.gr;have l0:=(l.cell _ _ N).trans (p k z E);have l1:=(am.out.gr l).look u;have I:Hid (L++[mg MV z]=(x.args.take (k+1)).map (mg MV)):=by show _=_;rw[HL.out];exact(qi _ E).symm
   obtain⟨y,S⟩:=xJ ((MV z).getD 0);rw[S]at l1;unfold mg at I;rw[S]at I;have z0:(0:Int)<=(k:Int):=by omega
   have z1:(k:Int)<(x.args.length:Int):=by omega
   have H:Hid (L.length<=1000000):=by show _<=_;rw[HL.out,vS,List.length_take];omega
   clear E p S r l u;go_wp2_with (at_builtin;refine YI.app3 d.out y rfl (.tmp 33) (.tmp 37) rfl rfl rfl H.out ?_;intro g c w1 m t;obtain⟨⟨q0,q1,q2,q3,q4,q5⟩,p0,p1,p2,p3,p4,p5⟩:=dp m;have J:=dJ t;clear t m);go_roundw;case rel=>exact⟨k+1,_,L++[y],by omega,by go_num,I,J⟩
   case measure=>simp[intOf]<;>omega
  ·obtain rfl:k=x.args.length:=by omega
   have A:Hid (L=x.args.map (mg MV)):=by show _=_;rw[HL.out,wg]
   have Y:=d;clear HL y3;obtain⟨va,ag⟩:=xJ (Value.slice Av L.length cv);rw[ag]at Y;clear ag;obtain⟨⟨k0,k1,k2,k3,k4,k5⟩,-⟩:=dp (R0.out _ d.out.gr);clear d;go_wp2_with (fail)
   go_loopw [44] (fun i wr=>∃(k:Nat)(vt:Value)(T:List Int),k<=x.to.length/\i=.int .i64 k/\Hid (T=(x.to.take k).map (mg MB))/\Hid (YI W W.heap.size x.op x.width x.flags x.imm va vt L T wr)) (fun i _=>x.to.length-(intOf i).toNat)
   case atStart=>exact⟨0,_,[],vU _,rfl,dJ (by simp),Y⟩
   case round =>
    clear k0 k1 k2 k3 k4 k5;obtain⟨k,vt,T,hk,rfl,HT,d⟩:=hrel;obtain⟨Aw,cw,rfl⟩:=d.out.form5;obtain⟨F,K,rfl⟩:=d.out.form3;obtain⟨⟨y0,y1,y2,y3,y4,y5⟩,-⟩:=d.out.cells;by_cases r:k<x.to.length
    ·obtain⟨z,E⟩:∃z,x.to[k]?=some z:=⟨_,vu r⟩;obtain⟨ba,oa,rfl,N,p⟩:=T3.out (by omega);have u:=an.out z (vz E);have l:=G.out.trans d.out.gr;have l0:=(l.cell _ _ N).trans (p k z E);have l1:=(al.out.gr l).look u;have I:Hid (T++[mg MB z]=(x.to.take (k+1)).map (mg MB)):=by show _=_;rw[HT.out];exact(qi _ E).symm
     obtain⟨y,S⟩:=xJ ((MB z).getD 0);rw[S]at l1;unfold mg at I;rw[S]at I;have z0:(0:Int)<=(k:Int):=by omega
     have z1:(k:Int)<(x.to.length:Int):=by omega
     have H:Hid (T.length<=1000000):=by show _<=_;rw[HT.out,vS,List.length_take];omega
     clear E p S r l u y0 y1 y2 y3 y4;go_wp2_with (at_builtin;refine YI.app5 d.out y rfl (.tmp 49) (.tmp 53) rfl rfl rfl H.out ?_;intro g c w1 m t;obtain⟨⟨q0,q1,q2,q3,q4,q5⟩,p0,p1,p2,p3,p4,p5⟩:=dp m;have J:=dJ t;clear t m);go_roundw;case rel=>exact⟨k+1,_,T++[y],by omega,by go_num,I,J⟩
     case measure=>simp[intOf]<;>omega
    ·obtain rfl:k=x.to.length:=by omega
     have C:Hid (T=x.to.map (mg MB)):=by show _=_;rw[HT.out,wg]
     clear HT;have B:=dJ (R1.out _ d.out.gr);obtain⟨⟨r0,r1,r2,r3,r4,r5⟩,g0,g1,g2,g3,g4,g5⟩:=dp B.out;go_wp2_with (fail);refine vZ (qy _ _ 6 _ (w.heap.size+1) _ _ _ _ _ _ _ rfl rfl (nx B.out _ _ _ _ _ _) ⟨_,rfl⟩ ⟨_,rfl⟩ ⟨_,rfl⟩ ⟨_,_,_,rfl⟩ ⟨_,rfl⟩ ⟨_,_,_,rfl⟩) rfl ?_;have e1:L.length=x.args.length:=by rw[A.out,vS]
     have e2:T.length=x.to.length:=by rw[C.out,vS]
     obtain⟨ta,tt⟩:=d.out.ti (by omega) (by omega);have ah:=(xt B.out ta (by decide) (.int .i64 x.op) (.int .i64 x.width) (.int .i64 x.flags) (.slice F L.length K) (.int .u32 x.imm) (.slice Aw T.length cw)).lower (n₀:=w.heap.size) (by have:=aa.out;omega);have ai:=(xt B.out tt (by decide) (.int .i64 x.op) (.int .i64 x.width) (.int .i64 x.flags) (.slice F L.length K) (.int .u32 x.imm) (.slice Aw T.length cw)).lower (n₀:=w.heap.size) (by have:=aa.out;omega);rw[A.out]at ah;rw[C.out]at ai;refine⟨F,K,Aw,cw,by rw[e1,e2],⟨?_,?_⟩,?_⟩
     ·simpa[e1,e2,A.out,C.out] using ah
     ·simpa[e1,e2,A.out,C.out] using ai
     ·iterate 6 refine Gr.setCell ?_ (by show w.heap.size<=w.heap.size+1;omega) _
      exact G.out.trans d.out.gr
end
section
open Go.RowKit Go.Sort Go.Shelf
theorem xN:(prog.info? 181).map (fun i=>(i.zero,i.size,i.bytes))=some (some (.agg #[.int .i64 0,.int .i64 0]),2,16):=by kernel_rfl
def kk (ps:List (Int × Int)):List Value:=ps.flatMap fun p=>[.int .i64 p.1,.int .i64 p.2]
theorem wy:∀(ps:List (Int × Int))(j:Nat)(p:Int × Int),ps[j]?=some p->(kk ps)[j*2]?=some (.int .i64 p.1)/\(kk ps)[j*2+1]?=some (.int .i64 p.2)
 | [],j,p,h=>by simp at h
 | q::r,0,p,h=>by simp at h;subst h;exact⟨rfl,rfl⟩
 | q::r,j+1,p,h=>by
  have:=wy r j p (by simpa using h)
  unfold kk at *;rw[List.flatMap_cons];constructor
  ·rw[show (j+1)*2=j*2+1+1 by omega];exact this.1
  ·rw[show (j+1)*2+1=j*2+1+1+1 by omega];exact this.2
def OwnP (B:Nat)(w:World)(v:Value)(ps:List (Int × Int)):Prop:=w.ownsRow B 181 2 v ps.length (kk ps)
section
variable {B:Nat}{w w':World}{v:Value}{ps:List (Int × Int)}
theorem OwnP.nil (B:Nat)(w:World):OwnP B w (.slice none 0 0) []:=World.ownsRow_nil _ _ _ _
theorem OwnP.gr (h:OwnP B w v ps)(g:Gr w w'):OwnP B w' v ps:=ew h g
theorem OwnP.form (h:OwnP B w v ps):∃A c,v=.slice A ps.length c:=by obtain⟨A,c,hv,_⟩:=dU h;exact⟨A,c,hv⟩
theorem OwnP.app {ops:Array Oper}{rest:List Oper}{o:Oper}{a:Act}{Q:Exit->Act->World->Prop}(h:OwnP B w v ps)(p:Int × Int)(hlt:ps.length<=1000000)(hB:B<=w.heap.size)
  (hgd:o.guard=none) (s y:Operand) (ho:o.op=.call {callee:=.builtin .append,args:=#[s,y],argTypes:=#[180,180]}) (hs:a.eval s=v) (hy:a.eval y=.slice (some ⟨w.heap.size,0,none⟩) 1 1) {e':TypeId}
  (hK:∀A c w',OwnP B w' (.slice A (ps.length+1) c) (ps++[p])->Below B w w'->wpList prog ops Q rest (a.put o.dst (.slice A (ps.length+1) c)) w') :
  wpList prog ops Q (o::rest) a (w.alloc (.cells #[.int .i64 p.1,.int .i64 p.2] e')):=by
 obtain⟨z,r,g,j,l⟩:=info_parts xN;refine dG hgd s y 180 ho B 181 z _ 2 16 underlying180 r g j l rfl (by omega) v ps.length (kk ps) hs (ew h ((wL _).alloc _)) _ 1 [.int .i64 p.1,.int .i64 p.2] hy (yG w [.int .i64 p.1,.int .i64 p.2] e') ?_ ?_ ?_ ?_ ?_
 ·intro u m;simp at m;rcases m with rfl|rfl<;>rfl
 ·simp only[maxLen];omega
 ·omega
 ·simp;omega
 ·intro C w' d q _;obtain⟨A,c,hv,_⟩:=dU d;subst hv;refine hK A c w' ?_ ?_
  ·unfold OwnP;rw[vW];have:kk (ps++[p])=kk ps++[.int .i64 p.1,.int .i64 p.2]:=by unfold kk;rw[List.flatMap_append];rfl
   rw[this];exact d
  ·exact(((Below.refl B w).alloc hB _)).grown q (by simp;omega) (fun k t=>(dx h k t).1)
end
def xp (x:Fin 64 × Int):List Value:=[.int .i64 (x.1.val:Int),.int .i64 x.2]
def ym (x y:Fin 64 × Int):Int:=(x.1.val:Int)-(y.1.val:Int)
theorem ltP (x y:Fin 64 × Int):ltOf ym x y=decide (x.1.val<y.1.val):=by unfold ltOf ym;rw[decide_eq_decide];omega
theorem yB:SWO (ltOf ym) where
 irrefl x:=by rw[ltP];simp
 trans x y z h1 h2:=by rw[ltP,decide_eq_true_eq]at *;omega
 ntrans x y z h1 h2:=by rw[ltP,decide_eq_false_iff_not]at *;omega
theorem xd (a b c d:Int)(ha:0<=a/\a<64)(hb:0<=b/\b<64)(W:World):Calls prog 140 #[.agg #[.int .i64 a,.int .i64 c],.agg #[.int .i64 b,.int .i64 d]] W fun e w'=>e=.returned (.int .i64 (a-b))/\∃q os',w'=grow (W.drewN q) os':=by
 obtain⟨g,j⟩:=ha;obtain⟨l,m⟩:=hb
 go_enter func140, ntmps140
 go_wp2;go_ret;exact⟨rfl,0,_,by rw[alloc_eq_grow,alloc_eq_grow,grow_grow];rfl⟩
theorem xT (blk off size:Nat)(w:World):Go.Proofs.CmpLays prog 140 #[] xp 2 ym blk off size w :=
 fun _ _ _ _ x y=>xd _ _ _ _ ⟨by omega,by omega⟩ ⟨by omega,by omega⟩ _
theorem yx (n:Nat)(W:World)(h:n<=12):Calls prog 167 #[.int .u64 n] W fun e w'=>(∃l:Int,e=.returned (.int .i64 l))/\w'=W :=
 (Any.bits_Len Tryz.bitsLen n W (by omega) (by omega)).mono fun _ _ ⟨d,g⟩=>⟨⟨_,d⟩,g⟩
theorem xF {α:Type}[Inhabited α]{enc:α->List Value}{k B n b off:Nat}{w:World}{d:Array α}{os:Array Obj}(hB:B<=b)(hb:b<w.heap.size):Go.RowKit.Below B w (sortWorldK enc k w b off n d os):=by refine⟨rfl,rfl,rfl,size_sortWorldK_c _ _ _ _ _ _ _ _,fun i g=>?_⟩;show ((w.heap.modify b _)++os)[i]?=w.heap[i]?;rw[Array.getElem?_append_left (by rw[Array.size_modify];omega),Array.getElem?_modify,yD (by omega)]
def dP (ps:List (Int × Int)):Array (Fin 64 × Int):=(ps.map fun p=>(Fin.ofNat 64 p.1.toNat,p.2)).toArray
theorem iv (ps:List (Int × Int)):(dP ps).size=ps.length:=by simp[dP]
def unP (x:Fin 64 × Int):Int × Int:=((x.1.val:Int),x.2)
theorem yf {ps:List (Int × Int)}(h:∀p∈ps,0<=p.1/\p.1<64):(dP ps).toList.map unP=ps:=by
 unfold dP;rw[List.map_map]
 conv=>rhs;rw[<-List.map_id ps]
 refine List.map_congr_left fun p d=>?_;have:=h p d;show ((((Fin.ofNat 64 p.1.toNat).val:Nat):Int),p.2)=p;have e:(Fin.ofNat 64 p.1.toNat).val=p.1.toNat:=Nat.mod_eq_of_lt (by omega);rw[e,show ((p.1.toNat:Nat):Int)=p.1 by omega]
theorem xq (d:Array (Fin 64 × Int))(j:Nat)(hj:j<d.size):(flatK xp 2 d)[j*2]! =.int .i64 (unP d[j]!).1/\(flatK xp 2 d)[j*2+1]! =.int .i64 (unP d[j]!).2:=by rw[get_flatK xp 2 d _ (by omega),get_flatK xp 2 d _ (by omega),show (j*2) / 2=j by omega,show (j*2)%2=0 by omega,show (j*2+1) / 2=j by omega,show (j*2+1)%2=1 by omega];exact⟨rfl,rfl⟩
theorem OwnP.holds {B b c:Nat}{w:World}{ps:List (Int × Int)}(h:OwnP B w (.slice (some ⟨b,0,none⟩) ps.length c) ps)(hk:∀p∈ps,0<=p.1/\p.1<64):HoldsK xp 2 w b 0 (dP ps):=by
 intro t l;rw[size_flatK,iv]at l;refine⟨?_,by rw[Nat.zero_add];exact World.ownsRow.frozenAt h t⟩;rw[Nat.zero_add,World.ownsRow.cellAt h t (by omega)];have d:t / 2<ps.length:=by omega
 have j:ps[t / 2]?=some (unP (dP ps)[t / 2]!):=by
  have e:=yf hk
  have g:((dP ps).toList.map unP)[t / 2]?=some (unP (dP ps)[t / 2]!):=by rw[vH,Array.getElem?_toList,Array.getElem?_eq_getElem (by rw[iv];exact d),getElem!_pos _ _ (by rw[iv];exact d)];rfl
  rw[e]at g;exact g
 obtain⟨m,q⟩:=wy ps (t / 2) _ j;obtain⟨r,u⟩:=xq (dP ps) (t / 2) (by rw[iv];exact d);rcases (by omega:t=t / 2*2\/t=t / 2*2+1) with e|e
 ·rw[e,m];exact congrArg some r.symm
 ·rw[e,q];exact congrArg some u.symm
theorem yc (B:Nat)(ps:List (Int × Int))(v:Value)(w:World)(h:OwnP B w v ps)(hne:0<ps.length)(h12:ps.length<=12)(hk:∀p∈ps,0<=p.1/\p.1<64) :
  Calls prog 139 #[v,.func (.func 140) #[] #[]] w fun e w'=>e=.returned (.tuple #[])/\∃(S:List (Int × Int))(b c:Nat),v=.slice (some ⟨b,0,none⟩) ps.length c/\S.Perm ps/\S.Pairwise (fun p q=>p.1<=q.1)/\Go.RowKit.Below B w w'/\b<w.heap.size/\B<=b /\
   ∃cur:Array Value,w'.heap[b]?=some (.cells cur 181 (0,0))/\∀(j:Nat) p,S[j]?=some p->cur[j*2]?=some (.int .i64 p.1)/\cur[j*2+1]?=some (.int .i64 p.2):=by
 obtain⟨A,c,rfl⟩:=h.form;obtain⟨b,rfl,z,C,-⟩:=dz h rfl hne;have N:=h.holds hk
 obtain⟨l,r⟩:∃cur,w.heap[b]?=some (.cells cur 181 (0,0)):=by
  rcases h.2 with ⟨e,-⟩|⟨g,Q,cur,e,-,T,-⟩
  ·cases e
  ·injection e with t K Y;injection t with t;injection t with t;subst t;exact⟨cur,T⟩
 have R:∀args w,(callFunc 140 args).run prog w=.ok (.enter 140 args) w:=enters_of func140 (by kernel_rfl) rfl;have m:=AnyQ.slices_SortFunc_small_sorted Tryz.sortP 2 Tryz.isAgg181 Tryz.sizeOf181 xp (fun _=>rfl) (fun x v hv=>by simp[xp]at hv;rcases hv with rfl|rfl<;>rfl) ym 140 #[] yB b 0 c (dP ps) w R (xT b 0 (dP ps).size w) N z (by rw[iv];exact h12) yx;rw[iv]at m;change Calls prog 139 _ _ _ at m;refine m.mono ?_;rintro e w' ⟨rfl,d,n,os,⟨I,-,O⟩,y,rfl⟩;rw[iv]at I;refine⟨rfl,d.toList.map unP,b,c,rfl,?_,?_,xF C z,z,C,Go.Sort.putCells id 0 (flatK xp 2 d) l,?_,fun j p D=>?_⟩
 ·have t:d.extract 0 ps.length=d:=by rw[<-I];simp
  have K:(dP ps).extract 0 ps.length=dP ps:=by rw[<-iv ps];simp
  rw[t,K]at O;have:=O.map unP;rw[yf hk]at this;exact this
 ·rw[List.pairwise_map,List.pairwise_iff_getElem];intro i j U D G;have F:i<d.size:=by simpa using U
  have H:j<d.size:=by simpa using D
  have:=y i j (vU _) G (by omega);rw[getElem!_pos d i F,getElem!_pos d j H]at this;rw[ltP,decide_eq_false_iff_not]at this;simp only[unP,Array.getElem_toList];omega
 ·show ((w.heap.modify b _)++os)[b]?=_;rw[Array.getElem?_append_left (by rw[Array.size_modify];exact z),Array.getElem?_modify,wa rfl,r];rfl
 ·have u:j<d.size:=by have:=(yC.1 D).1;simpa using this
  have hh:=holdsK_sortWorldK_c xp 2 w b 0 (dP ps) d n os N z (by rw[iv];exact I);obtain⟨W,X⟩:=xq d j u
  have e:p=unP d[j]!:=by rw[vH,Array.getElem?_toList,Array.getElem?_eq_getElem u]at D;rw[getElem!_pos d j u];simpa using D.symm
  have L:=(hh (j*2) (by rw[size_flatK];omega)).1;have M:=(hh (j*2+1) (by rw[size_flatK];omega)).1;rw[Nat.zero_add,W]at L;rw[Nat.zero_add,X]at M
  have E:(sortWorldK xp 2 w b 0 n d os).heap[b]?=some (.cells (Go.Sort.putCells id 0 (flatK xp 2 d) l) 181 (0,0)):=by show ((w.heap.modify b _)++os)[b]?=_;rw[Array.getElem?_append_left (by rw[Array.size_modify];exact z),Array.getElem?_modify,wa rfl,r];rfl
  have J:∀i,(sortWorldK xp 2 w b 0 n d os).cell? ⟨b,i,none⟩=(Go.Sort.putCells id 0 (flatK xp 2 d) l)[i]?:=fun i=>by unfold World.cell?;rw[E];rfl
  rw[e,<-J,<-J];exact⟨L,M⟩
end
section
open Go.RowKit
section
variable {w wr wr':World}{Bx:Nat}{op wd fl im:Int}{va vt:Value}{As Ts:List Int}
theorem YI.wp3k {o:Oper}{a:Act}{K:Act->World->Prop}{Q:Exit->Act->World->Prop}(h:YI w Bx op wd fl im va vt As Ts wr)(z:Int)
  (s x:Operand) (ho:o.op=.call {callee:=.builtin .append,args:=#[s,x],argTypes:=#[22,22]}) (hs:a.eval s=va) (hx:a.eval x=.slice (some ⟨wr.heap.size,0,none⟩) 1 1) (hlt:As.length<=1000000) {e':TypeId}
  (hK:∀g c w1,w1.heap[Bx]?=some (.cells #[.int .i64 op,.int .i64 wd,.int .i64 fl,va,.int .u32 im,vt] 67 (0,0))->YI w Bx op wd fl im (.slice (some ⟨g,0,none⟩) (As.length+1) c) vt (As++[z]) Ts (w1.setCell ⟨Bx,3,none⟩ (.slice (some ⟨g,0,none⟩) (As.length+1) c))->(∀(k:Nat)(cc:Array Value)(t:TypeId),wr.heap[k]?=some (.cells cc t (0,0))->t≠3->k≠Bx->(w1.setCell ⟨Bx,3,none⟩ (.slice (some ⟨g,0,none⟩) (As.length+1) c)).heap[k]?=some (.cells cc t (0,0)))->K (a.put o.dst (.slice (some ⟨g,0,none⟩) (As.length+1) c)) w1) :
  o.wp prog a (wr.alloc (.cells #[.int .i64 z] e')) K Q:=by
 obtain⟨C,B,p,q,r⟩:=info_parts dR;have hl:(As.map (Value.int .i64)).length=As.length:=vS _;have m:=h.gr.size;have j:=h.own3;unfold Own1 at j;rw[hl]at j;refine eM s x 22 ho w.heap.size 3 C (.int .i64 0) 1 8 underlying22 B p q r rfl (by omega) va As.length (As.map (Value.int .i64)) hs (ew j ((wL _).alloc _)) _ 1 [.int .i64 z] hx (wM _ _ _) ?_ ?_ ?_ ?_ ?_
 ·intro y u;simp at u;subst u;rfl
 ·simp only[maxLen];omega
 ·omega
 ·simp;omega
 ·intro O w1 d A l;obtain⟨g,c,rfl⟩:=ownsRow_succ d;obtain⟨D,E,F,M,N,G,H,I⟩:=eS (i:=3) (n₀:=w.heap.size) (ys:=(As++[z]).map (Value.int .i64)) h.box (by decide) h.own3 (tr d) A l;obtain⟨J,L⟩:=G _ _ h.own5 h.apart;exact hK g c w1 D ⟨E,F,J,L,h.gr.below (H w.heap.size (vV _) h.lx m) (vV _),h.lx⟩ I
theorem YI.app3k {ops:Array Oper}{rest:List Oper}{o:Oper}{a:Act}{Q:Exit->Act->World->Prop}(h:YI w Bx op wd fl im va vt As Ts wr)(z:Int)
  (hgd:o.guard=none) (s x:Operand) (ho:o.op=.call {callee:=.builtin .append,args:=#[s,x],argTypes:=#[22,22]}) (hs:a.eval s=va) (hx:a.eval x=.slice (some ⟨wr.heap.size,0,none⟩) 1 1) (hlt:As.length<=1000000) {e':TypeId}
  (hK:∀g c w1,w1.heap[Bx]?=some (.cells #[.int .i64 op,.int .i64 wd,.int .i64 fl,va,.int .u32 im,vt] 67 (0,0))->YI w Bx op wd fl im (.slice (some ⟨g,0,none⟩) (As.length+1) c) vt (As++[z]) Ts (w1.setCell ⟨Bx,3,none⟩ (.slice (some ⟨g,0,none⟩) (As.length+1) c))->(∀(k:Nat)(cc:Array Value)(t:TypeId),wr.heap[k]?=some (.cells cc t (0,0))->t≠3->k≠Bx->(w1.setCell ⟨Bx,3,none⟩ (.slice (some ⟨g,0,none⟩) (As.length+1) c)).heap[k]?=some (.cells cc t (0,0)))->wpList prog ops Q rest (a.put o.dst (.slice (some ⟨g,0,none⟩) (As.length+1) c)) w1) :
  wpList prog ops Q (o::rest) a (wr.alloc (.cells #[.int .i64 z] e')) :=
 wpList_plain hgd fun _ d=>YI.wp3k h z s x ho hs hx hlt fun g c w1 h1 h2 h3=>d _ _ (hK g c w1 h1 h2 h3)
theorem YI.wp5k {o:Oper}{a:Act}{K:Act->World->Prop}{Q:Exit->Act->World->Prop}(h:YI w Bx op wd fl im va vt As Ts wr)(z:Int)
  (s x:Operand) (ho:o.op=.call {callee:=.builtin .append,args:=#[s,x],argTypes:=#[22,22]}) (hs:a.eval s=vt) (hx:a.eval x=.slice (some ⟨wr.heap.size,0,none⟩) 1 1) (hlt:Ts.length<=1000000) {e':TypeId}
  (hK:∀g c w1,w1.heap[Bx]?=some (.cells #[.int .i64 op,.int .i64 wd,.int .i64 fl,va,.int .u32 im,vt] 67 (0,0))->YI w Bx op wd fl im va (.slice (some ⟨g,0,none⟩) (Ts.length+1) c) As (Ts++[z]) (w1.setCell ⟨Bx,5,none⟩ (.slice (some ⟨g,0,none⟩) (Ts.length+1) c))->(∀(k:Nat)(cc:Array Value)(t:TypeId),wr.heap[k]?=some (.cells cc t (0,0))->t≠3->k≠Bx->(w1.setCell ⟨Bx,5,none⟩ (.slice (some ⟨g,0,none⟩) (Ts.length+1) c)).heap[k]?=some (.cells cc t (0,0)))->K (a.put o.dst (.slice (some ⟨g,0,none⟩) (Ts.length+1) c)) w1) :
  o.wp prog a (wr.alloc (.cells #[.int .i64 z] e')) K Q:=by
 obtain⟨C,B,p,q,r⟩:=info_parts dR;have hl:(Ts.map (Value.int .i64)).length=Ts.length:=vS _;have m:=h.gr.size;have j:=h.own5;unfold Own1 at j;rw[hl]at j;refine eM s x 22 ho w.heap.size 3 C (.int .i64 0) 1 8 underlying22 B p q r rfl (by omega) vt Ts.length (Ts.map (Value.int .i64)) hs (ew j ((wL _).alloc _)) _ 1 [.int .i64 z] hx (wM _ _ _) ?_ ?_ ?_ ?_ ?_
 ·intro y u;simp at u;subst u;rfl
 ·simp only[maxLen];omega
 ·omega
 ·simp;omega
 ·intro O w1 d A l;obtain⟨g,c,rfl⟩:=ownsRow_succ d;obtain⟨D,E,F,M,N,G,H,I⟩:=eS (i:=5) (n₀:=w.heap.size) (ys:=(Ts++[z]).map (Value.int .i64)) h.box (by decide) h.own5 (tr d) A l;obtain⟨J,L⟩:=G _ _ h.own3 h.apart.symm;exact hK g c w1 D ⟨E,J,F,L.symm,h.gr.below (H w.heap.size (vV _) h.lx m) (vV _),h.lx⟩ I
theorem YI.app5k {ops:Array Oper}{rest:List Oper}{o:Oper}{a:Act}{Q:Exit->Act->World->Prop}(h:YI w Bx op wd fl im va vt As Ts wr)(z:Int)
  (hgd:o.guard=none) (s x:Operand) (ho:o.op=.call {callee:=.builtin .append,args:=#[s,x],argTypes:=#[22,22]}) (hs:a.eval s=vt) (hx:a.eval x=.slice (some ⟨wr.heap.size,0,none⟩) 1 1) (hlt:Ts.length<=1000000) {e':TypeId}
  (hK:∀g c w1,w1.heap[Bx]?=some (.cells #[.int .i64 op,.int .i64 wd,.int .i64 fl,va,.int .u32 im,vt] 67 (0,0))->YI w Bx op wd fl im va (.slice (some ⟨g,0,none⟩) (Ts.length+1) c) As (Ts++[z]) (w1.setCell ⟨Bx,5,none⟩ (.slice (some ⟨g,0,none⟩) (Ts.length+1) c))->(∀(k:Nat)(cc:Array Value)(t:TypeId),wr.heap[k]?=some (.cells cc t (0,0))->t≠3->k≠Bx->(w1.setCell ⟨Bx,5,none⟩ (.slice (some ⟨g,0,none⟩) (Ts.length+1) c)).heap[k]?=some (.cells cc t (0,0)))->wpList prog ops Q rest (a.put o.dst (.slice (some ⟨g,0,none⟩) (Ts.length+1) c)) w1) :
  wpList prog ops Q (o::rest) a (wr.alloc (.cells #[.int .i64 z] e')) :=
 wpList_plain hgd fun _ d=>YI.wp5k h z s x ho hs hx hlt fun g c w1 h1 h2 h3=>d _ _ (hK g c w1 h1 h2 h3)
end
def prZ (MV MB:Int->Option Int)(L:List (Int × Int)):List (Int × Int):=L.filterMap fun p=>(MB p.1).map fun b=>(b,mg MV p.2)
def prs (MV MB:Int->Option Int)(x:Ins):List (Int × Int):=prZ MV MB (x.to.zip x.args)
theorem ya {MV MB:Int->Option Int}{t a:List Int}{k:Nat}{z u:Int}(hz:t[k]?=some z)(hu:a[k]?=some u):prZ MV MB ((t.zip a).take (k+1))=match MB z with
  | some b=>prZ MV MB ((t.zip a).take k)++[(b,mg MV u)]
  | none=>prZ MV MB ((t.zip a).take k):=by
 have e:(t.zip a)[k]?=some (z,u):=List.getElem?_zip_eq_some.2 ⟨hz,hu⟩;unfold prZ;rw[List.take_add_one,e,List.filterMap_append];cases h:MB z<;>simp[h]
theorem yj (MV MB:Int->Option Int)(L:List (Int × Int)):(prZ MV MB L).length<=L.length:=List.length_filterMap_le _ _
theorem yp {MV MB:Int->Option Int}{x:Ins}{P:Int->Prop}(h:∀z∈x.to,∀b,MB z=some b->P b):∀p∈prs MV MB x,P p.1:=by intro p d;unfold prs prZ at d;obtain⟨q,j,e⟩:=List.mem_filterMap.1 d;obtain⟨b,g,rfl⟩:=Option.map_eq_some_iff.1 e;exact h q.1 (List.of_mem_zip j).1 b g
theorem xl (x:Ins)(v:Value)(rv rb nv nb:Nat)(MV MB:Int->Option Int)(w:World)(hx:ud w.heap.size w v x)(hmv:MapAt rv nv w MV)(hmb:MapAt rb nb w MB)(ho:x.op=28)(hlen:x.args.length=x.to.length)
  (ha:∀z∈x.args,Word z) (hto:∀z∈x.to,Word z) (hl2:x.to.length<=12) (hr:∀z∈x.to,∀b,MB z=some b->0<=b/\b<64) (hne:0<(prs MV MB x).length) :
  Calls prog 100 #[v,.map (some rv),.map (some rb)] w fun e w'=>∃(S:List (Int × Int))(A3:Option Addr)(c3:Nat)(A4:Option Addr)(c4:Nat),S.Perm (prs MV MB x)/\S.Pairwise (fun p q=>p.1<=q.1)/\e=.returned (.agg #[.int .i64 x.op,.int .i64 x.width,.int .i64 x.flags,.slice A3 S.length c3,.int .u32 x.imm,.slice A4 S.length c4])/\Hid (TI w.heap.size w' (.slice A3 S.length c3) (S.map (·.2))/\TI w.heap.size w' (.slice A4 S.length c4) (S.map (·.1)))/\Gr w w':=by
 obtain⟨va,vo,rfl,bg,bh⟩:=hx;obtain⟨W,hW⟩:=xJ ((w.alloc (.cells (df x va vo).cells 67)).alloc (.cells #[.int .i64 0,.int .i64 0,.int .i64 0,.slice none 0 0,.int .u32 0,.slice none 0 0] 67));have aq:Gr w W:=by rw[<-hW];exact((wL w).alloc _).alloc _
 have az:W.heap.size=w.heap.size+2:=by rw[<-hW];simp
 obtain⟨Aa,ca,rfl,a1,a2,a3⟩:=bg;obtain⟨At,ct,rfl,t1,t2,t3⟩:=bh
 have Z:W.heap[w.heap.size]?=some (.cells #[.int .i64 x.op,.int .i64 x.width,.int .i64 x.flags,.slice Aa x.args.length ca,.int .u32 x.imm,.slice At x.to.length ct] 67 (0,0)):=by rw[<-hW];exact(((wL _).alloc _).heap _ (by simp)).trans (heap_alloc_new w _)
 have aJ:W.heap[w.heap.size+1]?=some (.cells #[.int .i64 0,.int .i64 0,.int .i64 0,.slice none 0 0,.int .u32 0,.slice none 0 0] 67 (0,0)):=by rw[<-hW];exact heap_alloc2_new w _ _
 obtain⟨k0,k1,k2,k3,k4,k5⟩:=crw6 Z 0 1 2 3 4 5;have bm:(x.op != 28)=false:=by simpa using ho
 have ai:=dJ hlen;have aX:Hid (∀z∈x.to,∀b,MB z=some b->0<=b/\b<64):=hr;have aU:=dJ hne;unfold df at hW ⊢;simp only[Value.cells]at hW;have R0:Hid (∀w',Gr W w'->w'.heap[w.heap.size]?=some (.cells #[.int .i64 x.op,.int .i64 x.width,.int .i64 x.flags,.slice Aa x.args.length ca,.int .u32 x.imm,.slice At x.to.length ct] 67 (0,0))):=fun w' q=>(q.heap _ (by omega)).trans Z;have R1:Hid (∀w',Gr W w'->w'.heap[w.heap.size+1]?=some (.cells #[.int .i64 0,.int .i64 0,.int .i64 0,.slice none 0 0,.int .u32 0,.slice none 0 0] 67 (0,0))):=fun w' q=>(q.heap _ (by omega)).trans aJ;have HA:Hid (∀z∈x.args,Word z):=ha;have a0:Hid (∀z∈x.to,Word z):=hto;have aT:=dJ hmv;have aS:=dJ hmb;have A3:Hid (0<x.args.length->∃b off,Aa=some ⟨b,off,none⟩/\b<w.heap.size/\∀j z,x.args[j]?=some z->w.cell? ⟨b,off+j,none⟩=some (.int .i64 z)):=a3;have T3:Hid (0<x.to.length->∃b off,At=some ⟨b,off,none⟩/\b<w.heap.size/\∀j z,x.to[j]?=some z->w.cell? ⟨b,off+j,none⟩=some (.int .i64 z)):=t3;have ae:=dJ aq;obtain⟨V,hV⟩:=xJ (W.alloc (.cells #[.int .i64 0,.int .i64 0,.int .i64 0,.slice none 0 0,.int .u32 0,.slice none 0 0] 67));have ab:V.heap[W.heap.size]?=some (.cells #[.int .i64 0,.int .i64 0,.int .i64 0,.slice none 0 0,.int .u32 0,.slice none 0 0] 67 (0,0)):=by rw[<-hV];exact heap_alloc_new W _
 have aF:Gr W V:=by rw[<-hV];exact(wL W).alloc _
 obtain⟨⟨v0,v1,v2,v3,v4,v5⟩,f0,f1,f2,f3,f4,f5⟩:=dp ab;have a4:=dJ ab;have aR:=dJ aF;obtain⟨V1,I⟩:=xJ (((((((V.setCell ⟨W.heap.size,0,none⟩ (.int .i64 x.op)).setCell ⟨W.heap.size,1,none⟩ (.int .i64 x.width)).setCell ⟨W.heap.size,2,none⟩ (.int .i64 x.flags)).setCell ⟨W.heap.size,3,none⟩ (.slice Aa x.args.length ca)).setCell ⟨W.heap.size,4,none⟩ (.int .u32 x.imm)).setCell ⟨W.heap.size,5,none⟩ (.slice At x.to.length ct)));have aa:=nx a4.out (.int .i64 x.op) (.int .i64 x.width) (.int .i64 x.flags) (.slice Aa x.args.length ca) (.int .u32 x.imm) (.slice At x.to.length ct);rw[I]at aa;have t:=dJ aa
 have Q:Hid (Gr W V1):=by
  show Gr W V1;rw[<-I]
  iterate 6 refine Gr.setCell ?_ (vV _) _
  exact aR.out
 obtain⟨L,X⟩:=xJ ((V1.setCell ⟨W.heap.size,3,none⟩ (.slice none 0 0)).setCell ⟨W.heap.size,5,none⟩ (.slice none 0 0))
 have B:Hid (YI W W.heap.size x.op x.width x.flags x.imm (.slice none 0 0) (.slice none 0 0) [] [] L):=by rw[<-X];refine YI.start ?_ (by simpa using cX (i:=5) (.slice none 0 0) (cX (i:=3) (.slice none 0 0) t.out)) (vV _);exact(Q.out.setCell (vV _) _).setCell (vV _) _
 have ap:=dJ az;clear Z aJ ha hto a3 t3 aq ab aF az aa hmv hmb hlen hr hne ho;have a5:=dJ I;have a6:=dJ X;clear I X
 go_enter func100, ntmps100
 go_upto_region 2 with (fail)
 rw[a5.out];clear v0 v1 v2 v3 v4 v5 f0 f1 f2 f3 f4 f5 k0 k1 k2 k3 k4 k5;obtain⟨⟨-,-,-,u3,-,u5⟩,-,-,-,g3,-,g5⟩:=dp t.out
 go_upto_region 3 with (fail)
 rw[a6.out];clear g3 g5 u3 u5
 have a7:Hid (W.heap.size+1<=L.heap.size):=by have:=(vE.1 B.out.box).1;show _<=_;omega
 obtain⟨⟨k0,k1,k2,k3,k4,k5⟩,-⟩:=dp (R0.out _ B.out.gr);go_wp2_with (fail)
 go_loopw [12,61] (fun bk i wr=>∃(k:Nat)(ps:List (Int × Int)),k<=x.to.length/\i=.int .i64 k/\Hid (ps=prZ MV MB ((x.to.zip x.args).take k))/\Hid (OwnP L.heap.size wr bk ps)/\Hid (Gr L wr)) (fun _ i _=>x.to.length-(intOf i).toNat)
 case atStart=>exact⟨0,[],vU _,rfl,dJ (by simp[prZ]),OwnP.nil _ _,wL _⟩
 case round =>
  clear k0 k1 k2 k3 k4 k5;obtain⟨k,ps,hk,rfl,F,HO,O⟩:=hrel;have r:Hid (Gr w wr):=ae.out.trans (B.out.gr.trans O.out);obtain⟨⟨k0,k1,k2,k3,k4,k5⟩,-⟩:=dp (R0.out _ (B.out.gr.trans O.out))
  have am:Hid (ps.length<=k):=by show _<=_;rw[F.out];refine Nat.le_trans (yj _ _ _) ?_;rw[List.length_take];omega
  by_cases J:k<x.to.length
  ·have N:k<x.args.length:=by have:=ai.out;omega
   obtain⟨z,hz⟩:∃z,x.to[k]?=some z:=⟨_,vu J⟩;obtain⟨u,hu⟩:∃z,x.args[k]?=some z:=⟨_,vu N⟩;obtain⟨bt,ot,rfl,be,aE⟩:=T3.out (by omega);obtain⟨ba,oa,rfl,bc,aD⟩:=A3.out (by omega);have aN:=a0.out z (vz hz);have aK:=HA.out u (vz hu);have l0:=(r.out.cell _ _ be).trans (aE k z hz);have l2:=(r.out.cell _ _ bc).trans (aD k u hu);have l1:=(aS.out.gr r.out).look2 aN;have l3:=(aT.out.gr r.out).look aK;have d:=dJ (ya (MV:=MV) (MB:=MB) hz hu);obtain⟨y,hy⟩:=xJ ((MV u).getD 0);rw[hy]at l3;unfold mg at d;rw[hy]at d;have z0:(0:Int)<=(k:Int):=by omega
   have z1:(k:Int)<(x.to.length:Int):=by omega
   have z2:(k:Int)<(x.args.length:Int):=by omega
   have bf:ps.length<=1000000:=by have:=am.out;omega
   have bd:L.heap.size<=wr.heap.size:=O.out.size;clear hz hu aE aD J N aN aK hy
   cases hm:MB z with
   | none =>
    rw[hm]at l1 d;clear hm;have A:Hid (ps=prZ MV MB ((x.to.zip x.args).take (k+1))):=by show _=_;rw[d.out];exact F.out
    clear d;go_wp2_with (fail);go_roundw;case rel=>exact⟨k+1,ps,by omega,by go_num,A,HO,O⟩
    case measure=>simp[intOf]<;>omega
   | some b =>
    rw[hm]at l1 d;clear hm;simp only[Option.getD_some,Option.isSome_some]at l1;have A:Hid (ps++[(b,y)]=prZ MV MB ((x.to.zip x.args).take (k+1))):=by show _=_;rw[d.out,<-F.out]
    clear d;obtain⟨Ap,cp,rfl⟩:=HO.out.form;go_wp2_with (at_builtin;refine OwnP.app HO.out (b,y) bf bd rfl (.tmp 73) (.tmp 83) rfl rfl rfl ?_;intro A5 c5 w5 aI aC;have aW:=dJ aI;have aQ:Hid (Gr L w5):=O.out.below aC (vV _);clear aI aC);go_roundw;case rel=>exact⟨k+1,ps++[(b,y)],by omega,by go_num,A,by (show OwnP _ _ _ _);simpa using aW.out,aQ⟩
    case measure=>simp[intOf]<;>omega
  ·obtain rfl:k=x.to.length:=by omega
   have R:Hid (ps=prs MV MB x):=by show _=_;rw[F.out,vO (by rw[List.length_zip];omega)];rfl
   have aV:Hid (0<ps.length):=by show 0<_;rw[R.out];exact aU.out
   have aY:Hid (∀p∈ps,0<=p.1/\p.1<64):=by show ∀p∈ps,_;rw[R.out];exact yp aX.out
   have a9:ps.length<=12:=by have:=am.out;omega
   have ao:=dJ (yc L.heap.size ps _ wr HO.out aV.out a9 aY.out);obtain⟨Ap,cp,rfl⟩:=HO.out.form
   go_upto_region 24 with (go_at_call 139;(refine ao.out.mono ?_);rintro e w1 ⟨rfl,S,U,cq,hv,ar,au,av,bb,aw,H,ax,ay⟩;have HV:=dJ hv;have t:=dJ ar;have A:=dJ au;have Q:Hid (Gr L w1):=O.out.below av (vV _);have aO:=dJ aw;have an:=dJ ax;have aZ:Hid (∀(j:Nat) p,S[j]?=some p->H[j*2]?=some (.int .i64 p.1)/\H[j*2+1]?=some (.int .i64 p.2)):=ay;clear hv ar au av bb aw ax ay)
   obtain⟨ev,-⟩:Ap=some ⟨U,0,none⟩/\True:=by have:=HV.out;injection this with e1 e2 e3;exact⟨e1,trivial⟩
   subst ev;have T:Hid (S.length=ps.length):=t.out.length_eq;have l:Hid (YI W W.heap.size x.op x.width x.flags x.imm (.slice none 0 0) (.slice none 0 0) [] [] w1):=B.out.grow Q.out;clear k0 k1 k2 k3 k4 k5 ao HO O HV;go_wp2_with (fail)
   go_loopw [90] (fun i wr=>∃(k:Nat)(va vt:Value)(D C:List Int),k<=ps.length/\i=.int .i64 k/\Hid (D=(S.take k).map (·.2)/\C=(S.take k).map (·.1))/\Hid (YI W W.heap.size x.op x.width x.flags x.imm va vt D C wr)/\Hid (wr.heap[U]?=some (.cells H 181 (0,0)))) (fun i _=>ps.length-(intOf i).toNat)
   case atStart=>exact⟨0,_,_,[],[],vU _,rfl,dJ ⟨by simp,by simp⟩,l,an⟩
   case round =>
    clear l an r;obtain⟨k,va,vt,D,C,hk,rfl,m,K,HC⟩:=hrel;obtain⟨Av,cv,rfl⟩:=K.out.form3;obtain⟨Aw,cw,rfl⟩:=K.out.form5;obtain⟨⟨y0,y1,y2,y3,y4,y5⟩,-⟩:=K.out.cells;by_cases J:k<ps.length
    ·have aH:k<S.length:=by have:=T.out;omega
     obtain⟨p,hp⟩:∃p,S[k]?=some p:=⟨_,vu aH⟩;obtain⟨q0,q1⟩:=aZ.out k p hp;have c0:=(vX _ _ (k*2) _ _ _ HC.out).trans q0;have c1:=(vX _ _ (k*2+1) _ _ _ HC.out).trans q1;obtain⟨pa,pb⟩:=p;simp only at c0 c1
     have ad:Hid (D++[pb]=(S.take (k+1)).map (·.2)/\C++[pa]=(S.take (k+1)).map (·.1)):=by
      refine⟨?_,?_⟩
      ·rw[List.take_add_one,hp,m.out.1,List.map_append];rfl
      ·rw[List.take_add_one,hp,m.out.2,List.map_append];rfl
     have z0:(0:Int)<=(k:Int):=by omega
     have z1:(k:Int)<(ps.length:Int):=by omega
     have aj:Hid (D.length<=1000000/\C.length<=1000000):=by
      refine⟨?_,?_⟩
      ·rw[m.out.1,vS,List.length_take];omega
      ·rw[m.out.2,vS,List.length_take];omega
     have bn:W.heap.size<wr.heap.size:=(vE.1 K.out.box).1;clear hp q0 q1 aH J y0 y1 y2 y3 y4;have ak:Hid (wr.heap.size≠W.heap.size):=by show _≠_;omega
     have af:Hid (U≠W.heap.size):=by have:=a7.out;have:=aO.out;show _≠_;omega
     go_upto_region 27 with (fail)
     obtain⟨wq,ac⟩:=xJ (wr.alloc (.cells #[.int .i64 pa,.int .i64 pb] 181));rw[ac]
     have HQ:Hid (wq.heap[wr.heap.size]?=some (.cells #[.int .i64 pa,.int .i64 pb] 181 (0,0))/\wq.heap[U]?=some (.cells H 181 (0,0))/\Gr wr wq):=by rw[<-ac];exact⟨heap_alloc_new wr _,(((wL wr).alloc _).heap U (vE.1 HC.out).1).trans HC.out,(wL wr).alloc _⟩
     have ah:=dJ (K.out.grow HQ.out.2.2);clear ac c0 c1 y5;obtain⟨⟨y0,y1,y2,y3,y4,y5⟩,-⟩:=ah.out.cells;have c0:=vX _ _ 0 _ _ _ HQ.out.1;simp at c0;clear y0 y1 y2 y3 y4
     go_upto_region 28 with (at_builtin;refine YI.app5k ah.out pa rfl (.tmp 95) (.tmp 98) rfl rfl rfl aj.out.2 ?_;intro g c w1 aA aL Y;obtain⟨⟨q0,q1,q2,q3,q4,q5⟩,p0,p1,p2,p3,p4,p5⟩:=dp aA;have l:=dJ aL;have al:=dJ (Y wr.heap.size _ _ HQ.out.1 (by decide) ak.out);have ag:=dJ (Y U _ _ HQ.out.2.1 (by decide) af.out);clear aL aA Y)
     obtain⟨bl,M⟩:=xJ (w1.setCell ⟨W.heap.size,5,none⟩ (.slice (some ⟨g,0,none⟩) (C.length+1) c));rw[M]at l al ag ⊢;clear M q0 q1 q2 q3 q4 q5 p0 p1 p2 p3 p4 p5 y5 c0;obtain⟨⟨y0,y1,y2,y3,y4,y5⟩,-⟩:=l.out.cells;have c1:=vX _ _ 1 _ _ _ al.out;simp at c1;go_wp2_with (at_builtin;refine YI.app3k l.out pb rfl (.tmp 102) (.tmp 105) rfl rfl rfl aj.out.1 ?_;intro g2 c2 w2 aB aM aG;obtain⟨⟨q0,q1,q2,q3,q4,q5⟩,p0,p1,p2,p3,p4,p5⟩:=dp aB;have a8:=dJ aM;have aP:=dJ (aG U _ _ ag.out (by decide) af.out);clear aM aB aG);go_roundw;case rel=>exact⟨k+1,_,_,D++[pb],C++[pa],by omega,by go_num,ad,a8,aP⟩
     case measure=>simp[intOf]<;>omega
    ·obtain rfl:k=ps.length:=by omega
     have G:=dJ (R1.out _ K.out.gr);obtain⟨⟨r0,r1,r2,r3,r4,r5⟩,g0,g1,g2,g3,g4,g5⟩:=dp G.out;have e0:S.take ps.length=S:=vO (by rw[T.out];exact vV _)
     have E:Hid (D=S.map (·.2)/\C=S.map (·.1)):=by obtain⟨a,b⟩:=m.out;rw[e0]at a b;exact⟨a,b⟩
     clear e0;go_wp2_with (fail);refine vZ (qy _ _ 6 _ (w.heap.size+1) _ _ _ _ _ _ _ rfl rfl (nx G.out _ _ _ _ _ _) ⟨_,rfl⟩ ⟨_,rfl⟩ ⟨_,rfl⟩ ⟨_,_,_,rfl⟩ ⟨_,rfl⟩ ⟨_,_,_,rfl⟩) rfl ?_;have e1:D.length=S.length:=by rw[E.out.1,vS]
     have e2:C.length=S.length:=by rw[E.out.2,vS]
     have e3:=T.out;obtain⟨ta,tt⟩:=K.out.ti (by omega) (by omega);have bi:=(xt G.out ta (by decide) (.int .i64 x.op) (.int .i64 x.width) (.int .i64 x.flags) (.slice Av D.length cv) (.int .u32 x.imm) (.slice Aw C.length cw)).lower (n₀:=w.heap.size) (by have:=ap.out;omega);have bj:=(xt G.out tt (by decide) (.int .i64 x.op) (.int .i64 x.width) (.int .i64 x.flags) (.slice Av D.length cv) (.int .u32 x.imm) (.slice Aw C.length cw)).lower (n₀:=w.heap.size) (by have:=ap.out;omega);refine⟨S,Av,cv,Aw,cw,by rw[<-R.out];exact t.out,A.out,by rw[e1,e2],⟨?_,?_⟩,?_⟩
     ·rw[<-e1,<-E.out.1];exact bi
     ·rw[<-e2,<-E.out.2];exact bj
     ·iterate 6 refine Gr.setCell ?_ (by show w.heap.size<=w.heap.size+1;omega) _
      exact ae.out.trans K.out.gr
namespace Ref
theorem phi_sorted {f:Fn}{o:List Nat}(hv:Val f)(hk:Keeps f o){b:Nat}{l:List Ins}(hl:f.blocks[b]?=some l){x:Ins}(hx:x∈l)(h28:x.op=28){S:List (Int × Int)}
  (hS:S.Perm ((phiL f o x).filter fun p=>decide (0<=p.1))) (hp:S.Pairwise fun p q=>p.1<=q.1):sortP f.blocks.length (phiL f o x)=S:=by
 obtain⟨B,D,C,E⟩:=phi_parts hv hl hx h28;have z:=apart_phi (f:=f) (o:=o) B C
 have y:((phiL f o x).filter fun p=>decide (0<=p.1)).Pairwise fun a b=>a.1≠b.1:=by have d:((phiL f o x).filter fun p=>decide (0<=p.1)).Pairwise fun a b=>a.1=b.1->a.1<0:=List.Pairwise.sublist List.filter_sublist z;refine List.Pairwise.imp_of_mem (fun {a b} r A h e=>?_) d;have:=(List.mem_filter.1 r).2;simp only[decide_eq_true_eq]at this;have:=h e;omega
 have g:S.Pairwise fun a b=>a.1≠b.1:=(hS.pairwise_iff (fun {_ _} h=>Ne.symm h)).2 y;refine sortP_eq z ((hp.and g).imp fun {a b} h=>by omega) fun p=>?_;rw[hS.mem_iff,List.mem_filter];simp only[decide_eq_true_eq];constructor
 ·rintro⟨d,m⟩;refine⟨d,m,?_⟩;obtain⟨j,t,u,-,-,rfl⟩:=mem_phi.1 d;have:=toOf_lt (o:=o) t;have:=hk.toOrd.short;show toOf o t<_;omega
 ·rintro⟨d,m,-⟩;exact⟨d,m⟩
end Ref
structure Maps2 (f:Fn)(o:List Nat)(MV MB:Int->Option Int):Prop where
 val:∀z,Ref.Kept f o z->mg MV z=Ref.num f o z
 blk:∀z:Int,0<=z->z<f.blocks.length->MB z=if 0<=Ref.toOf o z then some (Ref.toOf o z) else none
theorem xQ {MV MB:Int->Option Int}{f:Fn}{o:List Nat}:∀L:List (Int × Int),(∀p∈L,MB p.1=if 0<=Ref.toOf o p.1 then some (Ref.toOf o p.1) else none)->(∀p∈L,0<=Ref.toOf o p.1->mg MV p.2=Ref.num f o p.2) ->
  prZ MV MB L=(L.map fun p=>(Ref.toOf o p.1,Ref.num f o p.2)).filter fun p=>decide (0<=p.1)
 | [],_,_=>rfl
 | p::r,h1,h2=>by
  have ih:=xQ r (fun q hq=>h1 q (List.mem_cons_of_mem _ hq)) (fun q hq=>h2 q (List.mem_cons_of_mem _ hq))
  have d:=h1 p (by simp);have g:=h2 p (by simp);unfold prZ at *;rw[List.filterMap_cons,List.map_cons,List.filter_cons,d];by_cases h:0<=Ref.toOf o p.1
  ·rw[wa h,g h,ih];simp[h]
  ·rw[yD h,ih];simp[h]
theorem xk {f:Fn}{o:List Nat}{MV MB:Int->Option Int}(hv:Ref.Val f)(hk:Ref.Keeps f o)(hm:Maps2 f o MV MB){b:Nat}(hb:b∈o){l:List Ins}(hl:f.blocks[b]?=some l){i:Nat}{x:Ins}(hx:l[i]?=some x)
  (v:Value) (rv rb nv nb:Nat) (w:World) (hxv:ud w.heap.size w v x) (hmv:MapAt rv nv w MV) (hmb:MapAt rb nb w MB) :
  Calls prog 100 #[v,.map (some rv),.map (some rb)] w fun e w'=>∃A3 c3 A4 c4,e=.returned (.agg #[.int .i64 (Ref.renum f o x).op,.int .i64 (Ref.renum f o x).width,.int .i64 (Ref.renum f o x).flags,.slice A3 (Ref.renum f o x).args.length c3,.int .u32 (Ref.renum f o x).imm,.slice A4 (Ref.renum f o x).to.length c4]) /\
   Hid (TI w.heap.size w' (.slice A3 (Ref.renum f o x).args.length c3) (Ref.renum f o x).args/\TI w.heap.size w' (.slice A4 (Ref.renum f o x).to.length c4) (Ref.renum f o x).to)/\Gr w w':=by
 have m:=vz hx;obtain⟨q1,q2,Q,q4,q5⟩:=Ref.ins_facts hv hl m;obtain⟨aa,ab,ac,ad,ae⟩:=hv.size;have N:Ref.count f<=43:=by unfold Ref.count Ref.number;rw[wg];omega
 have R:∀z∈x.args,Word z:=fun z r=>by have:=q2 z r;unfold Word;omega
 have T:∀z∈x.to,Word z:=fun z r=>by have:=Q z r;unfold Word;omega
 by_cases g:x.op=28
 ·obtain⟨p1,p2,p3,L⟩:=Ref.phi_parts hv hl m g
  have e:prs MV MB x=(Ref.phiL f o x).filter fun p=>decide (0<=p.1):=by
   refine xQ (x.to.zip x.args) (fun p I=>?_) (fun p I h0=>?_)
   ·have:=L p.1 (List.of_mem_zip I).1;exact hm.blk _ this.1 this.2
   ·obtain⟨j,y⟩:=List.getElem?_of_mem I;rw[List.getElem?_zip_eq_some]at y;obtain⟨k,d,G,J,-⟩:=Ref.toOf_some h0;exact hm.val _ (hk.phiArgs b hb l hl i x hx g j p.1 p.2 y.1 y.2 (by rw[J,vG];exact vz G))
  have H:0<(prs MV MB x).length:=by obtain⟨t,q,K⟩:=hk.phiSome b hb l hl x m g;obtain⟨k,-,A⟩:=Ref.toOf_kept hk.nodup (L t q).1 K;obtain⟨j,y⟩:=List.getElem?_of_mem q;have Z:=(yC.1 y).1;obtain⟨u,hu⟩:∃u,x.args[j]?=some u:=⟨_,vu (by omega)⟩;rw[e];refine List.length_pos_of_mem (a:=(Ref.toOf o t,Ref.num f o u)) (List.mem_filter.2 ⟨Ref.mem_phi.2 ⟨j,t,u,y,hu,rfl⟩,?_⟩);simp only[A,decide_eq_true_eq];omega
  have hr:∀z∈x.to,∀c,MB z=some c->0<=c/\c<64:=by
   intro z r c D;have B:=L z r;rw[hm.blk z B.1 B.2]at D;have C:=Ref.toOf_lt (o:=o) z;have M:=hk.toOrd.short;split at D
   ·cases D;omega
   ·cases D
  refine(xl x v rv rb nv nb MV MB w hxv hmv hmb g p1 R T (by omega) hr H).mono ?_;rintro U w' ⟨S,A3,c3,A4,c4,O,Y,E,q,F⟩;rw[e]at O;have hs:=Ref.phi_sorted hv hk hl m g O Y;rw[Ref.renum_phi f o g,hs];simp only[vS];exact⟨A3,c3,A4,c4,E,q,F⟩
 ·have W:x.args.map (mg MV)=x.args.map (Ref.num f o):=List.map_congr_left fun z r=>hm.val z (hk.args b hb l hl i x hx g z r)
  have X:x.to.map (mg MB)=x.to.map (Ref.toOf o):=List.map_congr_left fun t q=>by have C:=Q t q;have M:=hk.closed b hb t (Ref.to_graph hv hl m g q);obtain⟨k,-,A⟩:=Ref.toOf_kept hk.nodup C.1 M;unfold mg;rw[hm.blk t C.1 C.2,wa (by omega)];rfl
  refine(xy x v rv rb nv nb MV MB w hxv hmv hmb g R T (by omega) (by omega)).mono ?_;rintro U w' ⟨A3,c3,A4,c4,E,q,F⟩;rw[W,X]at q;rw[Ref.renum_no f o g];simp only[vS];exact⟨A3,c3,A4,c4,E,q,F⟩
structure Dm (f:Fn)(o:List Nat)(M:Int->Option Int)(k i:Nat):Prop where
 par:∀v:Nat,v<f.params.length->M (v:Int)=some (v:Int)
 blk:∀(j b:Nat)(l:List Ins)(i':Nat),o[j]?=some b->f.blocks[b]?=some l->i'<l.length->(j<k\/j=k/\i'<i)->M ((Ref.number f b+i':Nat):Int)=some (Ref.num f o ((Ref.number f b+i':Nat):Int))
section
variable {f:Fn}{o:List Nat}{M:Int->Option Int}{k i:Nat}
theorem Dm.start (h:∀v:Nat,v<f.params.length->M (v:Int)=some (v:Int)):Dm f o M 0 0:=⟨h,fun j b l d _ _ _ h=>by omega⟩
theorem Dm.step (h:Dm f o M k i){b:Nat}{l:List Ins}(hb:o[k]?=some b)(hl:f.blocks[b]?=some l)(hi:i<l.length) :
  Dm f o (fun j=>if j=((Ref.number f b+i:Nat):Int) then some (Ref.num f o ((Ref.number f b+i:Nat):Int)) else M j) k (i+1):=by
 refine⟨fun v hv=>?_,fun j c l' i' hj hc hi' d=>?_⟩
 ·show (if _ then _ else _)=_;rw[yD (by unfold Ref.number;omega)];exact h.par v hv
 ·show (if _ then _ else _)=_;by_cases e:((Ref.number f c+i':Nat):Int)=((Ref.number f b+i:Nat):Int)
  ·rw[wa e,e]
  ·rw[yD e];refine h.blk j c l' i' hj hc hi' ?_;rcases d with d|⟨d,g⟩
   ·exact .inl d
   ·subst d;rw[hb]at hj;cases hj;exact .inr ⟨rfl,by omega⟩
theorem Dm.next (h:Dm f o M k i){b:Nat}{l:List Ins}(hb:o[k]?=some b)(hl:f.blocks[b]?=some l)(hi:i=l.length):Dm f o M (k+1) 0:=by
 refine⟨h.par,fun j c r p m d g t=>h.blk j c r p m d g ?_⟩;rcases (by omega:j<k\/j=k) with q|q
 ·exact .inl q
 ·subst q;rw[hb]at m;cases m;rw[hl]at d;cases d;exact .inr ⟨rfl,by omega⟩
theorem Dm.val (h:Dm f o M o.length 0):∀z,Ref.Kept f o z->mg M z=Ref.num f o z:=by
 intro v hv;unfold mg;rcases hv with ⟨r,g⟩|⟨j,b,q,l,x,d,m,p,rfl⟩
 ·have:=h.par v.toNat (by omega);rw[show ((v.toNat:Nat):Int)=v by omega]at this;rw[Ref.num_param g,this];rfl
 ·rw[h.blk j b l q d m (yC.1 p).1 (.inl (yC.1 d).1)];rfl
def Db (f:Fn)(o:List Nat)(M:Int->Option Int)(k:Nat):Prop:=∀z:Int,0<=z->z<f.blocks.length->M z=if 0<=Ref.toOf o z/\Ref.toOf o z<k then some (Ref.toOf o z) else none
theorem Db.start:Db f o (fun _=>none) 0:=fun z _ _=>by rw[yD (by omega)]
theorem Db.step (h:Db f o M k)(ho:o.Nodup){b:Nat}(hb:o[k]?=some b):Db f o (fun j=>if j=(b:Int) then some (k:Int) else M j) (k+1):=by
 intro z g l;show (if _ then _ else _)=_;by_cases e:z=(b:Int)
 ·subst e;have:=Ref.toOf_get ho hb;rw[wa rfl,this,wa (by omega)]
 ·rw[yD e,h z g l]
  have m:Ref.toOf o z≠(k:Int):=fun q=>by
   obtain⟨j,c,d,p,r⟩:=Ref.toOf_some (o:=o) (b:=z) (by omega);have:j=k:=by omega
   subst this;rw[hb]at d;cases d;exact e p
  by_cases q:0<=Ref.toOf o z/\Ref.toOf o z<k
  ·rw[wa q,wa (by omega)]
  ·rw[yD q,yD (by omega)]
theorem Maps2.of {MB:Int->Option Int}(h:Dm f o M o.length 0)(hb:Db f o MB o.length):Maps2 f o M MB :=
 ⟨h.val,fun z d g=>by
   rw[hb z d g]
   have:=Ref.toOf_lt (o:=o) z
   by_cases q:0<=Ref.toOf o z
   · rw[wa q,wa ⟨q,by omega⟩]
   · rw[yD q,yD (fun r=>q r.1)]⟩
end
theorem NRow.other {B hb n r:Nat}{w w':World}{ns:List Int}(h:NRow B hb n w ns)(g:w.grownBy w' (some r))(hne:hb≠r):NRow B hb n w' ns :=
 iK h g fun k l e=>by
  have d:k=r:=by injection e with e;exact e.symm
  have j:hb=k:=by simpa[Value.ownBlock] using l
  exact hne (j.trans d)
theorem MapAt.other {r s n:Nat}{w w':World}{M:Int->Option Int}(h:MapAt r n w M)(g:w.grownBy w' (some s))(hne:r≠s):MapAt r n w' M :=
 h.same fun o d _=>(g.block r (vE.1 d).1 (fun e=>hne (by injection e))).trans d
theorem yk {f:Fn}{ns:List Int}{k:Nat}(hk:k<ns.length)(h:∀v:Nat,v<k->ns[v]?=some ((Ref.number f v:Nat):Int)):∀v:Nat,v<k+1->(ns.set k ((Ref.number f k:Nat):Int))[v]?=some ((Ref.number f v:Nat):Int):=by
 intro v hv;rcases (by omega:v<k\/v=k) with q|q
 ·rw[List.getElem?_set_ne (by omega)];exact h v q
 ·subst q;rw[ww hk]
end

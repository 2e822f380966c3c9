/- Parts. -/
import Derived.RangeFuncNested
import Derived.RangeFuncBound
import Derived.RangeFuncCalls
import Derived.RangeFuncLeaves
import Derived.Shelf.RegionOpen
import Derived.OwnWalkIn
import Derived.TacticsInMore
import Derived.LoopNIn
import Derived.LoopIn
import Derived.Test.YthfjdhanbegaoaaGreatDoorT03
import Derived.Lib.SliceRun
set_option linter.unusedSimpArgs false
set_option linter.unusedVariables false
set_option maxRecDepth 100000
set_option maxHeartbeats 16000000
open Go.Proofs.Tryz
namespace Go.Proofs.YthfjdhanbegaoaaGreatDoor
section
open Go.RowKit Go.Shelf
attribute [local go_sem] Oper.semAt_some
structure It where
 ins:Ins
 num:Nat
 blk:Nat
 pos:Nat
namespace Ir
def itemsB (l:List Ins)(n b:Nat):List It:=l.mapIdx fun i x=>⟨x,n+i,b,i⟩
def itemsFrom:List (List Ins)->Nat->Nat->List It
 | [],_,_=>[]
 | l::r,n,b=>itemsB l n b++itemsFrom r (n+l.length) (b+1)
def items (f:Fn):List It:=itemsFrom f.blocks f.params.length 0
end Ir
structure ItV where
 it:It
 aa:Option Addr
 ca:Nat
 ta:Option Addr
 ct:Nat
def ItV.va (y:ItV):Value:=.slice y.aa y.it.ins.args.length y.ca
def ItV.vt (y:ItV):Value:=.slice y.ta y.it.ins.to.length y.ct
def ItV.enc (y:ItV):Value:=.agg #[.int .i64 y.it.ins.op,.int .i64 y.it.ins.width,.int .i64 y.it.ins.flags,.slice y.aa y.it.ins.args.length y.ca,.int .u32 y.it.ins.imm,.slice y.ta y.it.ins.to.length y.ct,.int .i64 y.it.num,.int .i64 y.it.blk,.int .i64 y.it.pos]
def oK (n₀:Nat)(w0:World)(f:Fn)(y:ItV):Prop:=IntsAt n₀ w0 y.va y.it.ins.args/\IntsAt n₀ w0 y.vt y.it.ins.to/\y.it∈Ir.items f
abbrev GI (n₀:Nat)(w0:World)(f:Fn):Type:={y:ItV // oK n₀ w0 f y}
def prj {n₀:Nat}{w0:World}{f:Fn}(pre:List (GI n₀ w0 f)):List It:=pre.map (·.1.it)
theorem gP (l:List Ins)(n b i:Nat)(x:Ins)(h:l[i]?=some x):(Ir.itemsB l n b)[i]?=some ⟨x,n+i,b,i⟩:=by simp[Ir.itemsB,h]
theorem eB (l:List Ins)(n b:Nat):(Ir.itemsB l n b).length=l.length:=by simp[Ir.itemsB]
theorem eN (k:Nat):∀(bs:List (List Ins))(n b:Nat)(l:List Ins),bs[k]?=some l ->
  Ir.itemsFrom bs n b=Ir.itemsFrom (bs.take k) n b++(Ir.itemsB l (n+((bs.take k).map List.length).sum) (b+k)++Ir.itemsFrom (bs.drop (k+1)) (n+((bs.take (k+1)).map List.length).sum) (b+(k+1))):=by
 induction k with
 | zero =>
  intro bs n b l h
  cases bs with
  | nil=>simp at h
  | cons a r=>simp at h;subst h;simp[Ir.itemsFrom]
 | succ k ih =>
  intro bs n b l h
  cases bs with
  | nil=>simp at h
  | cons a r =>
   have:=ih r (n+a.length) (b+1) l (by simpa using h);rw[Ir.itemsFrom,this];simp only[pJ,Ir.itemsFrom,List.map_cons,List.sum_cons,List.drop_succ_cons,List.append_assoc]
   rw[show n+a.length+((r.take k).map List.length).sum=n+(a.length+((r.take k).map List.length).sum) by omega,show b+1+k=b+(k+1) by omega,
     show n+a.length+((r.take (k+1)).map List.length).sum=n+(a.length+((r.take (k+1)).map List.length).sum) by omega,show b+1+(k+1)=b+(k+1+1) by omega]
def upTo (f:Fn)(k j:Nat):List It:=Ir.itemsFrom (f.blocks.take k) f.params.length 0++(Ir.itemsB (f.blocks.getD k []) (f.params.length+((f.blocks.take k).map List.length).sum) k).take j
theorem upTo_succ (f:Fn)(k j:Nat)(l:List Ins)(x:Ins)(hl:f.blocks[k]?=some l)(hx:l[j]?=some x):upTo f k (j+1)=upTo f k j++[⟨x,f.params.length+((f.blocks.take k).map List.length).sum+j,k,j⟩]:=by unfold upTo;rw[List.append_assoc];congr 1;have h:=gP (f.blocks.getD k []) (f.params.length+((f.blocks.take k).map List.length).sum) k j x (by simp[List.getD,hl,hx]);obtain⟨d,g⟩:=oZ.1 h;rw[pG d,g]
theorem mJ (f:Fn)(k:Nat)(l:List Ins)(hl:f.blocks[k]?=some l):upTo f k l.length=upTo f (k+1) 0:=by
 unfold upTo;have d:f.blocks.getD k []=l:=by simp[List.getD,hl]
 obtain⟨j,m⟩:=oZ.1 hl;have g:(f.blocks.take (k+1))[k]?=some l:=by rw[pn];simp[hl]
 have:=eN k (f.blocks.take (k+1)) f.params.length 0 l g;rw[this,d];simp[List.take_take,Ir.itemsFrom];exact pq (by rw[eB];omega)
theorem nC (f:Fn):upTo f f.blocks.length 0=Ir.items f:=by unfold upTo Ir.items;simp
theorem fk (f:Fn)(k j:Nat)(l:List Ins)(hl:f.blocks[k]?=some l):upTo f k j <+: Ir.items f:=by
 unfold upTo Ir.items;have d:f.blocks.getD k []=l:=by simp[List.getD,hl]
 rw[eN k f.blocks f.params.length 0 l hl,d,Nat.zero_add];exact(List.prefix_append_right_inj _).2 ((List.take_prefix _ _).trans (List.prefix_append _ _))
theorem mX (f:Fn)(k j:Nat)(l:List Ins)(x:Ins)(hl:f.blocks[k]?=some l)(hx:l[j]?=some x):(⟨x,f.params.length+((f.blocks.take k).map List.length).sum+j,k,j⟩:It)∈Ir.items f:=by refine(fk f k (j+1) l hl).subset ?_;rw[upTo_succ f k j l x hl hx];simp
theorem AbidesFrom.alloc {β:Type}{J:β->World->Prop}{B:Nat}(h:AbidesFrom B J){s:β}{W:World}(hs:J s W)(o:Obj):J s (W.alloc o):=h s W _ none hs (World.grownBy_alloc W o none) (fun r e=>by cases e)
theorem nW {n₀:Nat}{w0:World}{f:Fn}{pre:List (GI n₀ w0 f)}{l:List It}(h:prj pre=l):pre.length=l.length:=by rw[<-h];simp[prj]
theorem eI {n₀:Nat}{w0:World}{f:Fn}(pre:List (GI n₀ w0 f))(y:GI n₀ w0 f):prj (pre++[y])=prj pre++[y.1.it]:=by simp[prj]
theorem nM (n:Nat)(hn:1<=n)(l Bf n₀ B:Nat)(f:Fn)(vp vs vb:Value)(w0:World)(hf:FnAt n₀ w0 (.agg #[vp,.int .i64 f.ret,vs,vb]) f)(hs:f.blocks.length<=100000)(J Jx:List (GI n₀ w0 f)->World->Prop)(hJ:AbidesFrom B J)
  (hY:∀pre x W,J pre W->pre.length<(Ir.items f).length+1->YieldAt Fence.wide (n-1) prog l #[x.1.enc] W fun e W' =>
    (e=.returned (.bool true)/\J (pre++[x]) W'/\Below n₀ W W')\/(e=.returned (.bool false)/\Jx (pre++[x]) W'))
  (W:World) (d0:W.cell? ⟨Bf,0,none⟩=some vp) (d3:W.cell? ⟨Bf,3,none⟩=some vb) (hW:Below n₀ w0 W) (hn0:n₀<=w0.heap.size) (h0:J [] W) :
  CallsIn Fence.wide n prog 81 #[.func (.yield l) #[] #[],.pointer (some ⟨Bf,0,none⟩)] W fun e W'=>(∃v,e=.returned v) /\
   ((∃ys,prj ys=Ir.items f/\J ys W')\/(∃pre,prj pre <+: Ir.items f/\Jx pre W')):=by
 obtain⟨ao,ay,an,e,hp,-,hb⟩:=hf;have e0:vp=ao:=by simp at e;exact e.1
 have e3:vb=an:=by simp at e;exact e.2.2
 subst e0;subst e3;clear e;obtain⟨Ap,cp,rfl,av,aw,-⟩:=hp;obtain⟨Ab,cb,rfl,ar,au,T⟩:=hb;have af:Hid (prj ([]:List (GI n₀ w0 f))=upTo f 0 0):=by show _=_;simp[prj,upTo,Ir.itemsFrom]
 have HJ:=dJ hJ;have HY:=dJ hY;clear hJ hY;refine callsIn_of_wp func81 rfl trivial ?_ rfl;simp only[ntmps81,List.size_toArray,List.length_cons,List.length_nil,Nat.reduceAdd,Nat.reduceSub,Array.replicate_succ,Array.replicate_zero,List.push_toArray,List.append_toArray,List.nil_append,List.cons_append];gi_wp2
 gi_loopw [3,4,5,6,7,14,21] (fun v _ _ _ _ i _ wr=>∃(k N:Nat)(pre:List (GI n₀ w0 f)),k<=f.blocks.length/\i=.int .i64 k/\v=.int .i64 N/\N<=17592186044416*(k+1)/\Hid (N=f.params.length+((f.blocks.take k).map List.length).sum)/\Hid (prj pre=upTo f k 0)/\Hid (J pre wr)/\Below n₀ w0 wr)
  (fun _ _ _ _ _ i _ _=>f.blocks.length-(intOf i).toNat)
 case atStart=>exact⟨0,f.params.length,[],pR _,rfl,rfl,by omega,by show _=_;simp,af,h0,hW⟩
 case round =>
  obtain⟨k,N,pre,hk,rfl,rfl,hN,K,HP,I,O⟩:=hrel;obtain⟨wo,rfl⟩:∃wo:World,wo=wr:=⟨_,rfl⟩;by_cases al:k<f.blocks.length
  ·obtain⟨bb,ob,rfl,aj,r⟩:=T (by omega);obtain⟨q,hq⟩:∃q,f.blocks[k]?=some q:=⟨f.blocks[k],by simp[al]⟩;obtain⟨u,hu,am⟩:=r k q hq;have ax:=(O.cell (p:=⟨bb,ob+k,none⟩) aj).trans hu;obtain⟨Al,cl,rfl,p1,p2,p3⟩:=am;have P3:=dJ p3;have M:=dJ hq
   have ae:Hid (((f.blocks.take (k+1)).map List.length).sum=((f.blocks.take k).map List.length).sum+q.length):=by show _=_;obtain⟨e1,e2⟩:=oZ.1 hq;rw[pG e1,e2,List.map_append,List.sum_append];simp
   clear r T hq hu p3;gi_wp2
   gi_loopw [3,6,7,21] (fun v _ _ i wr=>∃(j m:Nat)(pre:List (GI n₀ w0 f)),j<=q.length/\i=.int .i64 j/\v=.int .i64 m/\m<=N+j/\Hid (m=N+j)/\Hid (prj pre=upTo f k j)/\Hid (J pre wr)/\Below n₀ w0 wr)
    (fun _ _ _ i _=>q.length-(intOf i).toNat)
   case atStart=>exact⟨0,N,pre,pR _,rfl,rfl,pS _,rfl,HP,I,O⟩
   case round =>
    obtain⟨j,m,d,hj,rfl,rfl,aq,hm,D,H,g⟩:=hrel;obtain⟨wp,rfl⟩:∃wp:World,wp=wr:=⟨_,rfl⟩;by_cases V:j<q.length
    ·obtain⟨x,hx⟩:∃x,q[j]?=some x:=⟨q[j],by simp[V]⟩;obtain⟨F,G,rfl,t,U⟩:=P3.out (by omega);obtain⟨va,vt,i0,i1,i2,i3,i4,i5,Y,ab⟩:=U j x hx;have Z:=Y;have ac:=ab;obtain⟨aa,ca,rfl,-,-,-⟩:=Y;obtain⟨ta,ct,rfl,-,-,-⟩:=ab;have j0:=(g.cell (p:=⟨F,G+j*6,none⟩) t).trans i0;have j1:=(g.cell (p:=⟨F,G+j*6+1,none⟩) t).trans i1;have j2:=(g.cell (p:=⟨F,G+j*6+2,none⟩) t).trans i2;have j3:=(g.cell (p:=⟨F,G+j*6+3,none⟩) t).trans i3;have j4:=(g.cell (p:=⟨F,G+j*6+4,none⟩) t).trans i4;have j5:=(g.cell (p:=⟨F,G+j*6+5,none⟩) t).trans i5;have E:m=f.params.length+((f.blocks.take k).map List.length).sum+j:=by rw[hm.out,K.out]
     have X:(⟨x,m,k,j⟩:It)∈Ir.items f:=by rw[E];exact mX f k j q x M.out hx
     have HS:Hid (upTo f k (j+1)=upTo f k j++[⟨x,m,k,j⟩]):=by show _=_;rw[E];exact upTo_succ f k j q x M.out hx
     have A:d.length<(Ir.items f).length+1:=by have h1:=nW D.out;have h2:=(fk f k j q M.out).length_le;omega
     have Q:J d (wp.alloc (.cells #[.int .i64 x.op,.int .i64 x.width,.int .i64 x.flags,.slice aa x.args.length ca,.int .u32 x.imm,.slice ta x.to.length ct] 50)):=AbidesFrom.alloc HJ.out H.out _;obtain⟨fn,tmps,ad,ap,hy,hR⟩:=HY.out d ⟨⟨⟨x,m,k,j⟩,aa,ca,ta,ct⟩,Z,ac,X⟩ _ Q A
     have z:Hid (∀y:GI n₀ w0 f,y.1.it=⟨x,m,k,j⟩->prj (d++[y])=upTo f k (j+1)):=by intro y hy;rw[eI,hy,HS.out,D.out]
     have L:Hid (upTo f k (j+1) <+: Ir.items f):=fk f k (j+1) q M.out;have ah:Below n₀ w0 (wp.alloc (.cells #[.int .i64 x.op,.int .i64 x.width,.int .i64 x.flags,.slice aa x.args.length ca,.int .u32 x.imm,.slice ta x.to.length ct] 50)):=g.alloc (by have:=g.size;omega) _;clear hx U i0 i1 i2 i3 i4 i5 A Q E;dsimp only[ItV.enc]at hy;gi_wp2;refine hR.mono ?_;rintro e W3 (⟨rfl,ai,ak⟩|⟨rfl,R⟩)
     ·have ag:=ah.trans ak;clear j0 j1 j2 j3 j4 j5;gi_wp2;go_roundw;case rel=>exact⟨j+1,m+1,_,by omega,by go_num,by go_num,by omega,by (show _=_;rw[hm.out];omega),z.out _ rfl,ai,ag⟩
      case measure=>simp[intOf];omega
     ·gi_wp2;refine pA (results_none rfl _ _ _) rfl ?_;exact⟨⟨_,rfl⟩,.inr ⟨_,by rw[z.out _ rfl];exact L.out,R⟩⟩
    ·obtain rfl:j=q.length:=by omega
     have C:Hid (prj d=upTo f (k+1) 0):=by show _=_;rw[D.out];exact mJ f k q M.out
     gi_wp2;go_roundw;case rel=>exact⟨k+1,m,d,by omega,by go_num,rfl,by omega,by (show _=_;rw[hm.out,K.out,ae.out];omega),C,H,g⟩
     case measure=>simp[intOf];omega
  ·obtain rfl:k=f.blocks.length:=by omega
   have C:Hid (prj pre=Ir.items f):=by show _=_;rw[HP.out];exact nC f
   gi_wp2
   go_end0
   exact⟨⟨_,rfl⟩,.inl ⟨pre,C.out,I.out⟩⟩
theorem iF (f:Fn)(Ap As Ab:Option Addr)(np ns nb cp cs cb:Nat)(w:World) :
  Calls prog 50 #[.agg #[.slice Ap np cp,.int .i64 f.ret,.slice As ns cs,.slice Ab nb cb]] w fun e w' =>
   e=.returned (.func (.func 81) #[] #[.pointer (some ⟨w.heap.size,0,none⟩)])/\w'=w.alloc (.cells #[.slice Ap np cp,.int .i64 f.ret,.slice As ns cs,.slice Ab nb cb] 25):=by
 go_enter func50, ntmps50
 go_wp2;go_ret;exact⟨rfl,rfl⟩
theorem fp (n:Nat)(hn:1<=n)(Bf n₀:Nat)(f:Fn)(vp vs vb:Value)(w0 W0:World)(hf:FnAt n₀ w0 (.agg #[vp,.int .i64 f.ret,vs,vb]) f)(hn0:n₀<=w0.heap.size)(hb:Below n₀ w0 W0)(hs:f.blocks.length<=100000)(hBf:Bf<W0.heap.size)
  (c0:W0.cell? ⟨Bf,0,none⟩=some vp) (c3:W0.cell? ⟨Bf,3,none⟩=some vb) :
  SeqStopsK Fence.wide n prog 81 #[.pointer (some ⟨Bf,0,none⟩)] (fun x:GI n₀ w0 f=>#[x.1.enc]) (Below n₀) (fun ys=>prj ys=Ir.items f) (fun pre=>prj pre <+: Ir.items f) ((Ir.items f).length+1) W0 :=
 fun l J g W d j _ m h0=>nM n hn l Bf n₀ W.heap.size f vp vs vb w0 hf hs J g j m W ((d.cell (p:=⟨Bf,0,none⟩) hBf).trans c0) ((d.cell (p:=⟨Bf,3,none⟩) hBf).trans c3) (hb.trans (d.mono (Nat.le_trans hn0 hb.size))) hn0 h0
end
section
open Go.RowKit
theorem Own1.lower {B B':Nat}{e:TypeId}{w:World}{v:Value}{xs:List Value}(h:Own1 B' e w v xs)(hB:B<=B'):Own1 B e w v xs:=by
 refine⟨h.1,?_⟩;rcases h.2 with h|⟨g,d,j,e,h,r⟩
 ·exact .inl h
 ·exact .inr ⟨g,d,j,e,Nat.le_trans hB h,r⟩
theorem fZ (v:Value)(zs:List Int)(B:Nat)(w:World)(hz:IntsAt B w v zs)(hB:B<=w.heap.size) :
  Calls prog 89 #[v] w fun e w'=>∃A c,e=.returned (.slice A zs.length c)/\Own1 w.heap.size 3 w' (.slice A zs.length c) (zs.map (Value.int .i64))/\Gr w w':=by
 obtain⟨i0,I,p,q,t⟩:=info_parts ej;have O:∀(w:World)(a:Option Addr)(n c:Nat),(binOp .eql 22 (.slice a n c) (.slice none 0 0)).run prog w=.ok (.bool a.isNone) w:=fun w a n c=>Lib.run_eql_slice_nil w _ _ a n c 0 0 underlying22;have g:=hz;obtain⟨A,c,rfl,R,T,l⟩:=hz
 cases A with
 | none =>
  have K:zs=[]:=by
   cases zs with
   | nil=>rfl
   | cons a r =>
    obtain⟨b,o,e,-⟩:=l (by simp);cases e
  subst K;clear l g
  go_enter func89, ntmps89
  go_wp2;go_ret;exact⟨none,0,rfl,Own1.nil _ _ _,qj _⟩
 | some a =>
  have C:Hid (IntsAt B (w.alloc (.cells #[] 3)) (.slice (some a) zs.length c) zs):=by obtain⟨u,D,e,M,N,Q⟩:=g;refine⟨u,D,e,M,N,fun L=>?_⟩;obtain⟨b,o,F,G,H⟩:=Q L;exact⟨b,o,F,G,fun j z J=>((qj w).alloc _).cell b (o+j) (by omega) |>.trans (H j z J)⟩
  clear l g
  go_enter func89, ntmps89
  go_wp2_with (at_builtin;refine oF underlying22 I p q t rfl rfl _ _ rfl rfl (Own1.empty _ _ (pS _)) C rfl (by simp;omega) (by simp) ?_;intro y E U d m _);go_ret;exact⟨y,E,by simp,by simpa using d,Gr.below ((qj _).alloc _) m (by simp)⟩
theorem km (v:Value)(f:Fn)(w:World)(hf:FnAt w.heap.size w v f)(hs:f.blocks.length<=100000)(hne:Hid (∀l∈f.blocks,l≠[])) :
  Calls prog 86 #[v] w fun e w'=>∃u,e=.returned u/\TabAt w'.heap.size w' u (Ref.graph f)/\Gr w w':=by
 obtain⟨vp,vs,vb,rfl,hp,af,hb⟩:=hf;obtain⟨W,cp,rfl,aw,ax,ae⟩:=hp;obtain⟨X,cs,rfl,ay,az,ag⟩:=af;obtain⟨V,R,rfl,aq,E,F⟩:=hb;clear ae ag;obtain⟨i0,hi,aB,aC,aD⟩:=info_parts ej;obtain⟨i1,hj,ak,al,am⟩:=info_parts gk;have D:Gr w (w.alloc (.cells #[.slice W f.params.length cp,.int .i64 f.ret,.slice X f.slots.length cs,.slice V f.blocks.length R] 25)):=(qj _).alloc _
 go_enter func86, ntmps86
 go_wp2
 go_loopw [3,5,9] (fun s _ b wr=>∃(k:Nat)(U:List Value),k<=f.blocks.length/\b=.int .i64 k/\Own1 (w.heap.size+1) 22 wr s U/\Tab1 (w.heap.size+1) 3 wr U ((f.blocks.take k).map fun l=>(l.getLast?.map (·.to)).getD []) /\
     Gr (w.alloc (.cells #[.slice W f.params.length cp,.int .i64 f.ret,.slice X f.slots.length cs,.slice V f.blocks.length R] 25)) wr) (fun _ _ b _=>f.blocks.length-(intOf b).toNat)
 case atStart=>exact⟨0,[],pR _,rfl,Own1.nil _ _ _,Tab1.nil _ _ _,qj _⟩
 case round =>
  obtain⟨k,U,hk,rfl,t,g,j⟩:=hrel;have ao:wr.cell? ⟨w.heap.size,3,none⟩=some (.slice V f.blocks.length R):=(j.cell _ _ (by simp)).trans (by simp);by_cases ad:k<f.blocks.length
  ·obtain⟨bb,ob,rfl,ab,d⟩:=F (by omega);obtain⟨l,T⟩:∃l,f.blocks[k]?=some l:=⟨f.blocks[k],by simp[ad]⟩;obtain⟨u,hu,M⟩:=d k l T;have y:l≠[]:=hne.out l (pa T);obtain⟨x,hx⟩:∃x,l.getLast?=some x:=⟨_,List.getLast?_eq_some_getLast y⟩;have Q:l[l.length-1]?=some x:=by rw[<-List.getLast?_eq_getElem?];exact hx
   have HS:=fH f.blocks k l T x hx;have J:0<l.length:=List.length_pos_iff.2 y;have H:Gr w wr:=D.trans j;have aA:=(H.cell _ _ ab).trans hu;have N:=M.below H;obtain⟨Al,cl,rfl,au,av,I⟩:=N;obtain⟨bl,ol,rfl,ar,G⟩:=I J;obtain⟨va,vt,_,_,_,_,_,ht,_,q⟩:=G _ x Q;obtain⟨m,hm⟩:∃m,m+1=l.length:=⟨l.length-1,by omega⟩;rw[show l.length-1=m by omega]at ht;have aa:=dJ HS;have ah:w.heap.size<wr.heap.size:=by have:=j.size;simp at this;omega
   have O:U.length=k:=by rw[g.1];simp;omega
   have an:bl<wr.heap.size:=by omega
   have HM:=dJ hm;have HU:=dJ O;have wm:(l.length:Int)-1=m:=by omega
   clear T d hu M F hx Q HS y I G hm O;obtain⟨Y,ct,rfl,ai,K,L⟩:=q;have q:IntsAt w.heap.size wr (.slice Y x.to.length ct) x.to:=⟨Y,ct,rfl,ai,K,L⟩;have Z:=dJ (fZ (.slice Y x.to.length ct) x.to w.heap.size wr q (by omega));clear L q
   go_wp2_with (first|(go_at_call 89;refine Z.out.mono ?_;rintro e w1 ⟨A1,c1,rfl,z,r⟩;have p:=t.gr r;have B:=g.gr r;have ap:=r.size)|(at_builtin;refine nF (v:=u3) underlying98 hj ak al am rfl (by omega) rfl (.tmp 13) (.tmp 22) rfl rfl p rfl rfl (by rw[HU.out];omega) (by omega) ?_;intro A2 c2 w2 A E ac))
   go_goals
   go_roundw
   case rel =>
    have aj:Gr (w.alloc (.cells #[.slice W f.params.length cp,.int .i64 f.ret,.slice X f.slots.length cs,.slice (some ⟨bb,ob,none⟩) f.blocks.length R] 25)) w2:=(j.trans r).below E (by simp);have C:=((B.snoc (z.lower (by have:=ah;omega)) K).gr ((qj _).alloc (.cells #[.slice A1 x.to.length c1] 22))).grown (p.gr ((qj _).alloc (.cells #[.slice A1 x.to.length c1] 22))) (by decide) ac;exact⟨k+1,_,by omega,by go_num,by simpa using A,by rw[aa.out];exact C,aj⟩
   case measure=>simp[intOf];omega
  ·obtain rfl:k=f.blocks.length:=by omega
   go_wp2;go_ret;rw[pE]at g;exact⟨_,rfl,g.tab t (by simp;omega),D.trans j⟩
theorem kn (v:Value)(f:Fn)(w:World)(hf:FnAt w.heap.size w v f)(hs:f.blocks.length<=100000)(hne:Hid (∀l∈f.blocks,l≠[])) :
  Calls prog 86 #[v] w fun e w'=>∃u us,e=.returned u/\Own1 (w.heap.size+1) 22 w' u us/\Tab1 (w.heap.size+1) 3 w' us (Ref.graph f)/\Gr w w':=by
 obtain⟨vp,vs,vb,rfl,hp,ae,hb⟩:=hf;obtain⟨V,cp,rfl,av,aw,ad⟩:=hp;obtain⟨W,cs,rfl,ax,ay,af⟩:=ae;obtain⟨U,R,rfl,ap,E,F⟩:=hb;clear ad af;obtain⟨i0,hi,aA,aB,aC⟩:=info_parts ej;obtain⟨i1,hj,aj,ak,al⟩:=info_parts gk;have D:Gr w (w.alloc (.cells #[.slice V f.params.length cp,.int .i64 f.ret,.slice W f.slots.length cs,.slice U f.blocks.length R] 25)):=(qj _).alloc _
 go_enter func86, ntmps86
 go_wp2
 go_loopw [3,5,9] (fun s _ b wr=>∃(k:Nat)(us:List Value),k<=f.blocks.length/\b=.int .i64 k/\Own1 (w.heap.size+1) 22 wr s us/\Tab1 (w.heap.size+1) 3 wr us ((f.blocks.take k).map fun l=>(l.getLast?.map (·.to)).getD []) /\
     Gr (w.alloc (.cells #[.slice V f.params.length cp,.int .i64 f.ret,.slice W f.slots.length cs,.slice U f.blocks.length R] 25)) wr) (fun _ _ b _=>f.blocks.length-(intOf b).toNat)
 case atStart=>exact⟨0,[],pR _,rfl,Own1.nil _ _ _,Tab1.nil _ _ _,qj _⟩
 case round =>
  obtain⟨k,us,hk,rfl,t,g,j⟩:=hrel;have an:wr.cell? ⟨w.heap.size,3,none⟩=some (.slice U f.blocks.length R):=(j.cell _ _ (by simp)).trans (by simp);by_cases ac:k<f.blocks.length
  ·obtain⟨bb,ob,rfl,aa,d⟩:=F (by omega);obtain⟨l,T⟩:∃l,f.blocks[k]?=some l:=⟨f.blocks[k],by simp[ac]⟩;obtain⟨u,hu,M⟩:=d k l T;have y:l≠[]:=hne.out l (pa T);obtain⟨x,hx⟩:∃x,l.getLast?=some x:=⟨_,List.getLast?_eq_some_getLast y⟩;have Q:l[l.length-1]?=some x:=by rw[<-List.getLast?_eq_getElem?];exact hx
   have HS:=fH f.blocks k l T x hx;have J:0<l.length:=List.length_pos_iff.2 y;have H:Gr w wr:=D.trans j;have az:=(H.cell _ _ aa).trans hu;have N:=M.below H;obtain⟨Al,cl,rfl,ar,au,I⟩:=N;obtain⟨bl,ol,rfl,aq,G⟩:=I J;obtain⟨va,vt,_,_,_,_,_,ht,_,q⟩:=G _ x Q;obtain⟨m,hm⟩:∃m,m+1=l.length:=⟨l.length-1,by omega⟩;rw[show l.length-1=m by omega]at ht;have Z:=dJ HS;have ag:w.heap.size<wr.heap.size:=by have:=j.size;simp at this;omega
   have O:us.length=k:=by rw[g.1];simp;omega
   have am:bl<wr.heap.size:=by omega
   have HM:=dJ hm;have HU:=dJ O;have wm:(l.length:Int)-1=m:=by omega
   clear T d hu M F hx Q HS y I G hm O;obtain⟨X,ct,rfl,ah,K,L⟩:=q;have q:IntsAt w.heap.size wr (.slice X x.to.length ct) x.to:=⟨X,ct,rfl,ah,K,L⟩;have Y:=dJ (fZ (.slice X x.to.length ct) x.to w.heap.size wr q (by omega));clear L q
   go_wp2_with (first|(go_at_call 89;refine Y.out.mono ?_;rintro e w1 ⟨A1,c1,rfl,z,r⟩;have p:=t.gr r;have B:=g.gr r;have ao:=r.size)|(at_builtin;refine nF (v:=u3) underlying98 hj aj ak al rfl (by omega) rfl (.tmp 13) (.tmp 22) rfl rfl p rfl rfl (by rw[HU.out];omega) (by omega) ?_;intro A2 c2 w2 A E ab))
   go_goals
   go_roundw
   case rel =>
    have ai:Gr (w.alloc (.cells #[.slice V f.params.length cp,.int .i64 f.ret,.slice W f.slots.length cs,.slice (some ⟨bb,ob,none⟩) f.blocks.length R] 25)) w2:=(j.trans r).below E (by simp);have C:=((B.snoc (z.lower (by have:=ag;omega)) K).gr ((qj _).alloc (.cells #[.slice A1 x.to.length c1] 22))).grown (p.gr ((qj _).alloc (.cells #[.slice A1 x.to.length c1] 22))) (by decide) ab;exact⟨k+1,_,by omega,by go_num,by simpa using A,by rw[Z.out];exact C,ai⟩
   case measure=>simp[intOf];omega
  ·obtain rfl:k=f.blocks.length:=by omega
   go_wp2;go_ret;rw[pE]at g;exact⟨_,us,rfl,t,g,D.trans j⟩
end
section
open Go.RowKit Go.Shelf
attribute [local go_sem] Oper.semAt_some
def Ir.kinds (f:Fn):List Int:=f.params++(Ir.items f).map (·.ins.width)
def ItV.row (y:ItV):Array Value:=#[.int .i64 y.it.ins.op,.int .i64 y.it.ins.width,.int .i64 y.it.ins.flags,.slice y.aa y.it.ins.args.length y.ca,.int .u32 y.it.ins.imm,.slice y.ta y.it.ins.to.length y.ct,.int .i64 y.it.num,.int .i64 y.it.blk,.int .i64 y.it.pos]
theorem lR (v:Value)(f:Fn)(w:World)(hf:FnAt w.heap.size w v f)(hs:f.blocks.length<=100000)(hit:(Ir.items f).length<=1000000)(hpl:f.params.length<=100000) :
  Calls prog 53 #[v] w fun e w'=>∃u,e=.returned u/\IntsAt w'.heap.size w' u (Ir.kinds f)/\Gr w w':=by
 obtain⟨i0,hi,ay,az,aA⟩:=info_parts ej;have an:=hf;obtain⟨vp,vs,vb,rfl,hp,au,hb⟩:=hf;have aq:=hp;obtain⟨p,q,rfl,aH,aI,-⟩:=hp;obtain⟨z,C,rfl,-,-,-⟩:=au;obtain⟨y,A,rfl,-,-,-⟩:=hb;refine(callsIn_wide (n:=5)).1 ?_;refine callsIn_of_wp_marks func53 rfl trivial ?_ rfl;simp only[ntmps53,List.size_toArray,List.length_cons,List.length_nil,Nat.reduceAdd,Nat.reduceSub,Array.replicate_succ,Array.replicate_zero,List.push_toArray,List.append_toArray,List.nil_append,List.cons_append];obtain⟨W,hW⟩:=xJ (w.alloc (.cells #[.slice p f.params.length q,.int .i64 f.ret,.slice z f.slots.length C,.slice y f.blocks.length A] 25));have ab:Gr w W:=by rw[<-hW];exact(qj w).alloc _
 have aD:W.heap.size=w.heap.size+1:=by rw[<-hW];simp
 have b0:∀o,W.cell? ⟨w.heap.size,o,none⟩=(#[.slice p f.params.length q,.int .i64 f.ret,.slice z f.slots.length C,.slice y f.blocks.length A]:Array Value)[o]?:=by intro o;rw[<-hW];exact px _ _ _ _ _ _ (heap_alloc_new w _)
 have B0:Hid (∀w',Gr W w'->w'.cell? ⟨w.heap.size,0,none⟩=some (.slice p f.params.length q)/\w'.cell? ⟨w.heap.size,1,none⟩=some (.int .i64 f.ret)/\w'.cell? ⟨w.heap.size,2,none⟩=some (.slice z f.slots.length C)/\w'.cell? ⟨w.heap.size,3,none⟩=some (.slice y f.blocks.length A)) :=
  fun w' g=>⟨(g.cell w.heap.size 0 (by omega)).trans (b0 0),(g.cell w.heap.size 1 (by omega)).trans (b0 1),(g.cell w.heap.size 2 (by omega)).trans (b0 2),(g.cell w.heap.size 3 (by omega)).trans (b0 3)⟩
 have al:=dJ (fZ (.slice p f.params.length q) f.params w.heap.size W (aq.below ab) (by omega))
 have ak:Hid (∀j,Calls prog 50 #[.agg #[.slice p f.params.length q,.int .i64 f.ret,.slice z f.slots.length C,.slice y f.blocks.length A]] j fun e w' =>
     e=.returned (.func (.func 81) #[] #[.pointer (some ⟨j.heap.size,0,none⟩)])/\w'=j.alloc (.cells #[.slice p f.params.length q,.int .i64 f.ret,.slice z f.slots.length C,.slice y f.blocks.length A] 25)) :=
  fun j=>iF f p z y _ _ _ q C A j
 obtain⟨k0,k1,k2,k3⟩:=B0.out W (qj _);clear b0
 gi_wp2_with (first|(refine⟨trivial,?_⟩;gi_at_call 89;refine(callsIn_wide.2 al.out).mono ?_;rintro e j ⟨A1,c1,rfl,R,aj⟩;obtain⟨q0,q1,q2,q3⟩:=B0.out _ (aj.alloc (.cells #[.slice A1 f.params.length c1] 22)))|(refine⟨trivial,?_⟩;gi_at_call 50;refine(callsIn_wide.2 (ak.out _)).mono ?_;rintro e w2 ⟨rfl,rfl⟩))
 obtain⟨I,t⟩:=xJ (((j.alloc (.cells #[.slice A1 f.params.length c1] 22)).alloc (.cells #[.slice p f.params.length q,.int .i64 f.ret,.slice z f.slots.length C,.slice y f.blocks.length A] 25)));have af:Gr w j:=ab.trans aj;have aK:I.heap.size=j.heap.size+2:=by rw[<-t];simp
 have ae:Gr w I:=by rw[<-t];exact(af.alloc _).alloc _
 have ac:Boxed I j.heap.size 22 (.slice A1 f.params.length c1):=by rw[<-t];exact(Boxed.new j _ _).alloc _
 have T:Own1 w.heap.size 3 I (.slice A1 f.params.length c1) (f.params.map (Value.int .i64)):=by rw[<-t];exact((R.lower (by omega)).gr (((qj j).alloc _).alloc _))
 have ad:∀o,I.cell? ⟨j.heap.size+1,o,none⟩=(#[.slice p f.params.length q,.int .i64 f.ret,.slice z f.slots.length C,.slice y f.blocks.length A]:Array Value)[o]?:=by intro o;rw[<-t];have:=heap_alloc2_new j (.cells #[.slice A1 f.params.length c1] 22) (.cells #[.slice p f.params.length q,.int .i64 f.ret,.slice z f.slots.length C,.slice y f.blocks.length A] 25);exact px _ _ _ _ _ _ this
 rw[t];clear q0 q1 q2 q3 k0 k1 k2 k3;have HS:=fp (5-1) (by omega) (j.heap.size+1) w.heap.size f _ _ _ w I an (pS _) ae hs (by omega) (ad 0) (ad 3);have am:=af.size
 refine wpIn_rangeFunc_ownH rfl (by omega) (gf:=81) (lb:=#[.pointer (some ⟨j.heap.size+1,0,none⟩)]) rfl trivial (enters_of func81 (by kernel_rfl) rfl) HS belowK_t (belowK_b (by omega)) (Below.refl _ _) (fun _=>rfl)
  (fun d m=>(∃v,Boxed m j.heap.size 22 v/\m.ownsRow w.heap.size 3 1 v ((f.params++(prj d).map (·.ins.width)).map (Value.int .i64)).length ((f.params++(prj d).map (·.ins.width)).map (Value.int .i64))/\True)/\(Below w.heap.size w m/\I.heap.size<=m.heap.size))
  (fun _ _ _=>False)
  (OwnFrom.and (Own.from (holdsRow_own w.heap.size j.heap.size 22 3 1 (fun d=>((f.params++(prj d).map (·.ins.width)).map (Value.int .i64)).length) (fun d=>((f.params++(prj d).map (·.ins.width)).map (Value.int .i64))) (fun _ _=>True)) _) (OwnFrom.and (ownFrom_below (pS _) (by omega)) (fun _ _ _ _ h hg _=>Nat.le_trans h hg.size)))
  (fun _ _ _ _ _ hs _ _=>hs)
  ⟨⟨_,ac,by have:=T;unfold Own1 at this;simpa[prj] using this,trivial⟩,ae,pS _⟩
  (fun x a' m=>∃Bx,I.heap.size<=Bx/\m.heap[Bx]?=some (.cells x.1.row 80 (0,0))/\a'={tmps:=#[.agg #[.slice p f.params.length q,.int .i64 f.ret,.slice z f.slots.length C,.slice y f.blocks.length A],.pointer (some ⟨w.heap.size,0,none⟩),.slice none 0 0,.pointer (some ⟨j.heap.size,0,none⟩),.pointer (some ⟨Bx,0,none⟩),.pointer (some ⟨w.heap.size,0,none⟩),.slice p f.params.length q,.slice A1 f.params.length c1,.agg #[.slice p f.params.length q,.int .i64 f.ret,.slice z f.slots.length C,.slice y f.blocks.length A],.func (.func 81) #[] #[.pointer (some ⟨j.heap.size+1,0,none⟩)],x.1.enc,undef,undef,undef,undef,undef,undef,undef],defers:=[]})
  ?hAx ?assign ?body ?done ?stop
 case hAx =>
  intro x a' s X Y row h hg H;obtain⟨Bx,h1,h2,h3⟩:=h;refine⟨Bx,h1,(hg.block Bx (pf.1 h2).1 (fun e=>?_)).trans h2,h3⟩;obtain⟨-,o,ho,hc⟩:=H Bx e.symm;rw[h2]at ho;cases ho;cases hc
 case assign =>
  rintro l d ⟨⟨⟨xi,num,blk,pos⟩,aa,ca,ta,ct⟩,E⟩ m K ⟨⟨v,Z,H,-⟩,G,V⟩ hK;simp only[ItV.enc];gi_wp2;exact hK _ _ ((KeepsOthers.alloc _ _).from _) ((Below.refl _ m).alloc G.size _) ⟨⟨v,Z.alloc _,(show Own1 _ _ _ _ _ from H).gr ((qj m).alloc _),trivial⟩,G.alloc G.size _,by simp;omega⟩ ⟨m.heap.size,V,heap_alloc_new m _,rfl⟩
 case body =>
  rintro l d ⟨⟨⟨xi,num,blk,pos⟩,aa,ca,ta,ct⟩,E⟩ a' m hl ⟨r,aJ⟩ ⟨⟨v,Z,H,-⟩,G,V⟩ ⟨Bx,aB,ah,rfl⟩ aG;have aw:=Z.cell;have aL:=Z.frozen;have hw:=px m Bx 1 _ _ _ ah;simp only[ItV.row]at hw;have U:d.length=(prj d).length:=by simp[prj]
  obtain⟨L,hL⟩:=xJ ((f.params++(prj d).map (·.ins.width)).map (Value.int .i64));have aC:L.length<=2000000:=by rw[<-hL];simp;omega
  have HL:Hid ((f.params++(prj (d++[⟨⟨⟨xi,num,blk,pos⟩,aa,ca,ta,ct⟩,E⟩])).map (·.ins.width)).map (Value.int .i64)=L++[.int .i64 xi.width]):=by show _=_;rw[eI,<-hL];simp
  rw[hL]at H;clear hL U;gi_wp2_with (gi_at_builtin;go_loud (refine wpListIn_append_own _ rfl _ _ 22 rfl w.heap.size 3 i0 (.int .i64 0) 1 8 underlying22 hi ay az aA rfl (by decide) _ _ _ rfl (H.alloc _) ⟨m.heap.size,0,none⟩ 1 1 [.int .i64 xi.width] rfl rfl (cell_one_new _ _ _) (by simp[Value.oneCell']) (by simp only[maxLen];omega) (by omega) (by have:=G.size;simp;omega) ?_);intro v' w2 F Q _;obtain⟨g',J,rfl⟩:=ownsRow_succ F;obtain⟨ai,av,ar,ap,O⟩:=Z.appended (by decide) H G.size am F Q;have aE:=ai.cell;have aF:=ai.frozen)
  have M:(w2.setCell ⟨j.heap.size,0,none⟩ (.slice (some ⟨g',0,none⟩) (L.length+1) J)).ownsRow w.heap.size 3 1 (.slice (some ⟨g',0,none⟩) (L.length+1) J) (L++[Value.int .i64 xi.width]).length (L++[Value.int .i64 xi.width]):=by rw[show (L++[Value.int .i64 xi.width]).length=L.length+1 by simp];exact ar
  rw[<-HL.out]at M;refine⟨ap.from _,O,⟨_,av,?_⟩,G.trans O,by have:=O.size;omega⟩;simpa using M
 case done =>
  rintro D ys m hD ax ⟨⟨v,Z,H,-⟩,G,V⟩ N;have aw:=Z.cell;gi_wp2;refine⟨by simp,.inl ⟨_,_,rfl,run_takeDeferred N,?_⟩⟩;have ao:Gr w (m.putObj D (.deferred none)):=G.trans (belowK_b (w:=w) (pS _) m D _ _ (by omega) N rfl rfl);refine⟨_,results_tmp rfl _ _ _,v,rfl,?_,ao⟩;have ag:=ownsRow_putObj H (.deferred none) N rfl;have he:f.params++(prj ys).map (·.ins.width)=Ir.kinds f:=by rw[ax];rfl
  rw[he]at ag;exact Own1.ints (B:=w.heap.size) (by unfold Own1;simpa using ag) (by unfold Ir.kinds;simp;omega)
 case stop =>
  rintro D c d m _ _ h _;exact h.elim
end
section
open Go.RowKit
theorem fw:∀(bs:List (List Ins))(n b:Nat),(Ir.itemsFrom bs n b).length=Ref.total bs
 | [],_,_=>rfl
 | l::r,n,b=>by rw[Ir.itemsFrom,pT,eB,fw r,Ref.total_cons]
theorem eO (f:Fn):(Ir.items f).length=Ref.total f.blocks:=fw _ _ _
theorem fv:∀(bs:List (List Ins))(n b i:Nat)(it:It),(Ir.itemsFrom bs n b)[i]?=some it ->
  Ref.whereFrom ((n+i:Nat):Int) bs b n=((it.blk:Int),(it.pos:Int))/\b<=it.blk/\it.num=n+i/\∃l,bs[it.blk-b]?=some l/\l[it.pos]?=some it.ins
 | [],n,b,i,it,h=>by simp[Ir.itemsFrom]at h
 | l::r,n,b,i,it,h=>by
  rw[Ir.itemsFrom]at h
  rcases pF i l.length with d|d
  ·rw[pl (by rw[eB];exact d),gP l n b i l[i] (by simp[d])]at h
   simp only[Option.some.injEq]at h
   subst h
   refine⟨?_,pS _,rfl,l,by simp,by simp[d]⟩
   rw[Ref.whereFrom,pB (by omega)]
   refine Prod.ext rfl ?_
   show ((n+i:Nat):Int)-n=(i:Int)
   omega
  ·rw[pm (by rw[eB];exact d),eB]at h
   obtain⟨g,q,t,p,j,m⟩:=fv r (n+l.length) (b+1) (i-l.length) it h
   refine⟨?_,by omega,by omega,p,?_,m⟩
   ·rw[Ref.whereFrom,pC (by omega),show ((n+i:Nat):Int)=((n+l.length+(i-l.length):Nat):Int) by omega];exact g
   ·rw[show it.blk-b=(it.blk-(b+1))+1 by omega];simpa using j
theorem fy (f:Fn)(i:Nat)(it:It)(h:(Ir.items f)[i]?=some it) :
  Ref.whereIs f ((f.params.length+i:Nat):Int)=((it.blk:Int),(it.pos:Int))/\it.num=f.params.length+i/\∃l,f.blocks[it.blk]?=some l/\l[it.pos]?=some it.ins:=by
 obtain⟨d,p,g,l,j,m⟩:=fv f.blocks f.params.length 0 i it h;exact⟨d,g,l,by simpa using j,m⟩
theorem fz (f:Fn)(it:It)(h:it∈Ir.items f):∃l,f.blocks[it.blk]?=some l/\l[it.pos]?=some it.ins:=by obtain⟨i,d,e⟩:=List.getElem_of_mem h;exact(fy f i it (by rw[oY d,e])).2.2
theorem ii (f:Fn):Ref.count f=f.params.length+(Ir.items f).length:=by rw[eO];unfold Ref.count Ref.number;rw[pE]
theorem ku (q:Ins->Bool)(l:List Ins)(n b:Nat):(Ir.itemsB l n b).all (fun it=>q it.ins)=l.all q:=by
 have h:(Ir.itemsB l n b).map (·.ins)=l:=by apply List.ext_getElem?;intro i;simp[Ir.itemsB];cases l[i]?<;>simp
 have d:(Ir.itemsB l n b).all (fun it=>q it.ins)=((Ir.itemsB l n b).map (·.ins)).all q:=by rw[List.all_map];rfl
 rw[d,h]
theorem fu (q:Ins->Bool):∀(bs:List (List Ins))(n b:Nat),(Ir.itemsFrom bs n b).all (fun it=>q it.ins)=bs.all fun l=>l.all q
 | [],_,_=>rfl
 | l::r,n,b=>by rw[Ir.itemsFrom,List.all_append,ku,fu q r,List.all_cons]
theorem fx (q:Ins->Bool)(f:Fn):(Ir.items f).all (fun it=>q it.ins)=f.blocks.all fun l=>l.all q:=fu q _ _ _
def Ir.kv (ks:List Int)(v:Int):Int:=if v<0\/(ks.length:Int)<=v then -1 else ks.getD v.toNat 0
theorem lS (f:Fn):(Ir.kinds f).length=Ref.count f:=by rw[ii];simp[Ir.kinds]
theorem lT (f:Fn)(v:Int):Ir.kv (Ir.kinds f) v=Ref.kind f v:=by
 unfold Ir.kv Ref.kind;rw[lS];split
 ·rfl
 ·next h =>
  obtain⟨n,rfl⟩:=pg (show 0<=v by omega);rw[pj];by_cases j:(n:Int)<f.params.length
  ·rw[pB j];unfold Ir.kinds;simp only[List.getD,pl (show n<f.params.length by omega)]
  ·rw[pC j];have t:=ii f;have q:n-f.params.length<(Ir.items f).length:=by omega
   obtain⟨it,d⟩:∃it,(Ir.items f)[n-f.params.length]?=some it:=⟨_,oY q⟩;obtain⟨g,r,l,m,p⟩:=fy f _ it d;rw[show f.params.length+(n-f.params.length)=n by omega]at g;rw[g];unfold Ir.kinds Ref.insAt?;simp only[List.getD,pm (show f.params.length<=n by omega),pk,d,Option.map_some,Option.getD_some,pj,m,Option.bind_some,p]
def Ir.each (ks:List Int)(x:Ins)(k:Int):Bool:=x.args.all fun v=>decide (Ir.kv ks v=k)
def Ir.kof (ks:List Int)(x:Ins)(i:Nat):Int:=Ir.kv ks (x.args.getD i 0)
def Ir.typed (f:Fn)(x:Ins)(ks:List Int):Bool :=
 if Ir.classOf x.op=2\/Ir.classOf x.op=7\/Ir.classOf x.op=8\/Ir.classOf x.op=14 then Ir.each ks x x.width
 else if Ir.classOf x.op=3 then Ref.isWidth (Ir.kof ks x 0) && Ir.each ks x (Ir.kof ks x 0)
 else if Ir.classOf x.op=4 then decide (Ir.kof ks x 0=1) && decide (Ir.kof ks x 1=x.width) && decide (Ir.kof ks x 2=x.width)
 else if Ir.classOf x.op=5 then Ref.isWidth (Ir.kof ks x 0) && decide (Ir.kof ks x 0<x.width)
 else if Ir.classOf x.op=6 then Ref.isWidth (Ir.kof ks x 0) && decide (x.width<Ir.kof ks x 0)
 else if Ir.classOf x.op=11 then decide (Ir.kof ks x 0=33) && Ref.isWidth (Ir.kof ks x 1)
 else if Ir.classOf x.op=12 then decide (Ir.kof ks x 0=33)
 else if Ir.classOf x.op=13 then decide (Ir.kof ks x 0=33) && Ref.isMem (Ir.kof ks x 1)
 else if Ir.classOf x.op=16 then decide (Ir.kof ks x 0=1)
 else if Ir.classOf x.op=17 then Ir.each ks x f.ret
 else true
theorem oI {α:Type}{l:List α}(h:(l.length:Int)=1):∃a,l=[a]:=by
 match l,h with
 | [a],_=>exact⟨a,rfl⟩
theorem oW {α:Type}{l:List α}(h:(l.length:Int)=2):∃a b,l=[a,b]:=by
 match l,h with
 | [a,b],_=>exact⟨a,b,rfl⟩
theorem oX {α:Type}{l:List α}(h:(l.length:Int)=3):∃a b c,l=[a,b,c]:=by
 match l,h with
 | [a,b,c],_=>exact⟨a,b,c,rfl⟩
theorem lj {f:Fn}{x:Ins}(h:Ref.argument f x=true):(0<=(Ref.shape f x).1->(x.args.length:Int)=(Ref.shape f x).1)/\(Ref.shape f x).2.2=true:=by unfold Ref.argument Ref.counts at h;simp only[pD]at h;obtain⟨⟨⟨g,d⟩,-⟩,-⟩:=h;refine⟨fun h0=>?_,g⟩;simp only[Bool.not_eq_true',Bool.or_eq_false_iff,Bool.and_eq_false_imp,decide_eq_true_eq,decide_eq_false_iff_not]at d;have:=d.1.1 h0;omega
theorem lA (f:Fn)(x:Ins)(k:Int)(hk:0<=k):Ir.each (Ir.kinds f) x k=(x.args.all (fun v=>decide (0<=Ref.kind f v)) && (x.args.map (Ref.kind f)).all fun z=>decide (z=k)):=by
 unfold Ir.each;simp only[lT]
 induction x.args with
 | nil=>rfl
 | cons a r ih =>
  simp only[List.all_cons,ih,List.map_cons];by_cases h:Ref.kind f a=k
  ·simp[h,hk]
  ·simp[h]
theorem gC (f:Fn)(x:Ins)(h:x.op<0\/32<x.op):Ref.shape f x=(0,0,false):=by
 unfold Ref.shape
 iterate 16 rw[pC (by omega)]
theorem nh (op:Int)(h:¬(op<0\/32<op)):(op=1\/op=2\/op=3\/op=4\/op=5\/op=6\/op=7\/op=8\/op=9\/op=10\/op=11\/op=12\/op=13\/op=19\/op=20\/op=21\/op=28) \/
  (op=0\/op=22\/op=23\/op=24\/op=29\/op=32)\/(op=16\/op=17\/op=18\/op=26\/op=30)\/(op=14\/op=25\/op=27)\/op=15\/op=31:=by omega
theorem nB (f:Fn)(x:Ins)(hA:Ref.argument f x=true):Ir.typed f x (Ir.kinds f)=Ref.typed f x:=by
 obtain⟨d,g⟩:=lj hA;clear hA;by_cases m:x.op<0\/32<x.op
 ·rw[gC f x m]at g;cases g
 have l:=fun k hk=>lA f x k hk;unfold Ir.typed Ref.typed Ref.typedKinds;obtain⟨op,width,flags,args,imm,to⟩:=x;dsimp only at *;rcases nh op m with h|h|h|h|h|h
 ·have q:1<=width:=by
   rcases h with h|h|h|h|h|h|h|h|h|h|h|h|h|h|h|h|h;all_goals (subst h;simp[Ref.shape,Ref.isWidth]at g;omega)
  have p:Ir.classOf op=2\/Ir.classOf op=7\/Ir.classOf op=8\/Ir.classOf op=14:=by rcases h with h|h|h|h|h|h|h|h|h|h|h|h|h|h|h|h|h;all_goals (subst h;decide)
  rw[pB p,l width (by omega)];simp only[show ¬op=14 by omega,show ¬op=15 by omega,show ¬(op=16\/op=17) by omega,show ¬op=18 by omega,show ¬op=25 by omega,show ¬op=26 by omega,show ¬op=27 by omega,show ¬op=30 by omega,show ¬op=31 by omega,if_false]
 ·have j:args=[]:=by
   rcases h with h|h|h|h|h|h;all_goals (subst h;simp[Ref.shape]at d;exact d)
  subst j;rcases h with h|h|h|h|h|h;all_goals (subst h;simp[Ir.classOf])
 ·have j:∃a,args=[a]:=by
   rcases h with h|h|h|h|h;all_goals (subst h;simp[Ref.shape]at d;exact oI (by omega))
  obtain⟨a,rfl⟩:=j;clear l d;rcases h with h|h|h|h|h;all_goals (subst h;simp[Ref.shape,Ref.isWidth]at g;simp[Ir.classOf,Ir.kof,lT,Ref.isWidth];omega)
 ·have j:∃a b,args=[a,b]:=by
   rcases h with h|h|h;all_goals (subst h;simp[Ref.shape]at d;exact oW (by omega))
  obtain⟨a,b,rfl⟩:=j;clear l d;rcases h with h|h|h;all_goals (subst h;simp[Ref.shape]at g;simp[Ir.classOf,Ir.each,Ir.kof,lT,Ref.isWidth,Ref.isMem];first|omega|grind)
 ·subst h;simp[Ref.shape,Ref.isWidth]at d g;obtain⟨a,b,c,rfl⟩:=oX (by omega:(args.length:Int)=3);simp[Ir.classOf,Ir.kof,lT];omega
 ·subst h;simp[Ref.shape]at d g;by_cases h0:0<f.ret
  ·simp[h0]at d;obtain⟨a,rfl⟩:=oI (by omega:(args.length:Int)=1);simp[Ir.classOf,Ir.each,lT];omega
  ·simp[h0]at d;subst d;simp[Ir.classOf,Ir.each]
end

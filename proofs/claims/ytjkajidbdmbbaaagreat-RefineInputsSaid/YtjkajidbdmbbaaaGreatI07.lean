/- Parts. -/
import Derived.RangeFuncNested
import Derived.RangeFuncBound
import Derived.RangeFuncCalls
import Derived.RangeFuncLeaves
import Derived.Shelf.RegionOpen
import Derived.OwnWalkIn
import Derived.TacticsInMore
import Derived.LoopNIn
import Derived.LoopIn
import Derived.Test.YtjkajidbdmbbaaaGreatI03
import Derived.Lib.SliceRun
set_option linter.unusedSimpArgs false
set_option linter.unusedVariables false
set_option maxRecDepth 100000
set_option maxHeartbeats 16000000
open Go.Proofs.Tryz
namespace Go.Proofs.YtjkajidbdmbbaaaGreat
section
open Go.RowKit Go.Shelf
attribute [local go_sem] Oper.semAt_some
structure It where
 ins:Ins
 num:Nat
 blk:Nat
 pos:Nat
namespace Ir
def itemsB (l:List Ins)(n b:Nat):List It:=l.mapIdx fun i x=>⟨x,n+i,b,i⟩
def itemsFrom:List (List Ins)->Nat->Nat->List It
 | [],_,_=>[]
 | l::r,n,b=>itemsB l n b++itemsFrom r (n+l.length) (b+1)
def items (f:Fn):List It:=itemsFrom f.blocks f.params.length 0
end Ir
structure ItV where
 it:It
 aa:Option Addr
 ca:Nat
 ta:Option Addr
 ct:Nat
def ItV.va (y:ItV):Value:=.slice y.aa y.it.ins.args.length y.ca
def ItV.vt (y:ItV):Value:=.slice y.ta y.it.ins.to.length y.ct
def ItV.enc (y:ItV):Value:=.agg #[.int .i64 y.it.ins.op,.int .i64 y.it.ins.width,.int .i64 y.it.ins.flags,.slice y.aa y.it.ins.args.length y.ca,.int .u32 y.it.ins.imm,.slice y.ta y.it.ins.to.length y.ct,.int .i64 y.it.num,.int .i64 y.it.blk,.int .i64 y.it.pos]
def Good (n₀:Nat)(w0:World)(f:Fn)(y:ItV):Prop:=IntsAt n₀ w0 y.va y.it.ins.args/\IntsAt n₀ w0 y.vt y.it.ins.to/\y.it∈Ir.items f
abbrev GI (n₀:Nat)(w0:World)(f:Fn):Type:={y:ItV // Good n₀ w0 f y}
def prj {n₀:Nat}{w0:World}{f:Fn}(pre:List (GI n₀ w0 f)):List It:=pre.map (·.1.it)
theorem il (l:List Ins)(n b i:Nat)(x:Ins)(h:l[i]?=some x):(Ir.itemsB l n b)[i]?=some ⟨x,n+i,b,i⟩:=by simp[Ir.itemsB,h]
theorem eo (l:List Ins)(n b:Nat):(Ir.itemsB l n b).length=l.length:=by simp[Ir.itemsB]
theorem eI (k:Nat):∀(bs:List (List Ins))(n b:Nat)(l:List Ins),bs[k]?=some l ->
  Ir.itemsFrom bs n b=Ir.itemsFrom (bs.take k) n b++(Ir.itemsB l (n+((bs.take k).map List.length).sum) (b+k)++Ir.itemsFrom (bs.drop (k+1)) (n+((bs.take (k+1)).map List.length).sum) (b+(k+1))):=by
 induction k with
 | zero =>
  intro bs n b l h
  cases bs with
  | nil=>simp at h
  | cons a r=>simp at h;subst h;simp[Ir.itemsFrom]
 | succ k ih =>
  intro bs n b l h
  cases bs with
  | nil=>simp at h
  | cons a r =>
   have:=ih r (n+a.length) (b+1) l (by simpa using h);rw[Ir.itemsFrom,this];simp only[tJ,Ir.itemsFrom,List.map_cons,List.sum_cons,tM,List.append_assoc]
   rw[show n+a.length+((r.take k).map List.length).sum=n+(a.length+((r.take k).map List.length).sum) by omega,show b+1+k=b+(k+1) by omega,
     show n+a.length+((r.take (k+1)).map List.length).sum=n+(a.length+((r.take (k+1)).map List.length).sum) by omega,show b+1+(k+1)=b+(k+1+1) by omega]
def iZ (f:Fn)(k j:Nat):List It:=Ir.itemsFrom (f.blocks.take k) f.params.length 0++(Ir.itemsB (f.blocks.getD k []) (f.params.length+((f.blocks.take k).map List.length).sum) k).take j
theorem jV (f:Fn)(k j:Nat)(l:List Ins)(x:Ins)(hl:f.blocks[k]?=some l)(hx:l[j]?=some x):iZ f k (j+1)=iZ f k j++[⟨x,f.params.length+((f.blocks.take k).map List.length).sum+j,k,j⟩]:=by unfold iZ;rw[List.append_assoc];congr 1;have h:=il (f.blocks.getD k []) (f.params.length+((f.blocks.take k).map List.length).sum) k j x (by simp[List.getD,hl,hx]);obtain⟨d,g⟩:=sR.1 h;rw[tG d,g]
theorem pb (f:Fn)(k:Nat)(l:List Ins)(hl:f.blocks[k]?=some l):iZ f k l.length=iZ f (k+1) 0:=by
 unfold iZ;have d:f.blocks.getD k []=l:=by simp[List.getD,hl]
 obtain⟨j,m⟩:=sR.1 hl;have g:(f.blocks.take (k+1))[k]?=some l:=by rw[tk];simp[hl]
 have:=eI k (f.blocks.take (k+1)) f.params.length 0 l g;rw[this,d];simp[List.take_take,Ir.itemsFrom];exact tm (by rw[eo];omega)
theorem qo (f:Fn):iZ f f.blocks.length 0=Ir.items f:=by unfold iZ Ir.items;simp
theorem fi (f:Fn)(k j:Nat)(l:List Ins)(hl:f.blocks[k]?=some l):iZ f k j <+: Ir.items f:=by
 unfold iZ Ir.items;have d:f.blocks.getD k []=l:=by simp[List.getD,hl]
 rw[eI k f.blocks f.params.length 0 l hl,d,Nat.zero_add];exact(List.prefix_append_right_inj _).2 ((List.take_prefix _ _).trans (List.prefix_append _ _))
theorem pB (f:Fn)(k j:Nat)(l:List Ins)(x:Ins)(hl:f.blocks[k]?=some l)(hx:l[j]?=some x):(⟨x,f.params.length+((f.blocks.take k).map List.length).sum+j,k,j⟩:It)∈Ir.items f:=by refine(fi f k (j+1) l hl).subset ?_;rw[jV f k j l x hl hx];simp
theorem AbidesFrom.alloc {β:Type}{J:β->World->Prop}{B:Nat}(h:AbidesFrom B J){s:β}{W:World}(hs:J s W)(o:Obj):J s (W.alloc o):=h s W _ none hs (World.grownBy_alloc W o none) (fun r e=>by cases e)
theorem rn {n₀:Nat}{w0:World}{f:Fn}{pre:List (GI n₀ w0 f)}{l:List It}(h:prj pre=l):pre.length=l.length:=by rw[<-h];simp[prj]
theorem eB {n₀:Nat}{w0:World}{f:Fn}(pre:List (GI n₀ w0 f))(y:GI n₀ w0 f):prj (pre++[y])=prj pre++[y.1.it]:=by simp[prj]
theorem qF (n:Nat)(hn:1<=n)(l Bf n₀ B:Nat)(f:Fn)(vp vs vb:Value)(w0:World)(hf:FnAt n₀ w0 (.agg #[vp,.int .i64 f.ret,vs,vb]) f)(hs:f.blocks.length<=100000)(J Jx:List (GI n₀ w0 f)->World->Prop)(hJ:AbidesFrom B J)
  (hY:∀pre x W,J pre W->pre.length<(Ir.items f).length+1->YieldAt Fence.wide (n-1) prog l #[x.1.enc] W fun e W' =>
    (e=.returned (.bool true)/\J (pre++[x]) W'/\Below n₀ W W')\/(e=.returned (.bool false)/\Jx (pre++[x]) W'))
  (W:World) (d0:W.cell? ⟨Bf,0,none⟩=some vp) (d3:W.cell? ⟨Bf,3,none⟩=some vb) (hW:Below n₀ w0 W) (hn0:n₀<=w0.heap.size) (h0:J [] W) :
  CallsIn Fence.wide n prog 92 #[.func (.yield l) #[] #[],.pointer (some ⟨Bf,0,none⟩)] W fun e W'=>(∃v,e=.returned v) /\
   ((∃ys,prj ys=Ir.items f/\J ys W')\/(∃pre,prj pre <+: Ir.items f/\Jx pre W')):=by
 obtain⟨am,aw,al,e,hp,-,hb⟩:=hf;have e0:vp=am:=by simp at e;exact e.1
 have e3:vb=al:=by simp at e;exact e.2.2
 subst e0;subst e3;clear e;obtain⟨Ap,cp,rfl,ar,au,-⟩:=hp;obtain⟨Ab,cb,rfl,ap,aq,Q⟩:=hb;have ad:Hid (prj ([]:List (GI n₀ w0 f))=iZ f 0 0):=by show _=_;simp[prj,iZ,Ir.itemsFrom]
 have HJ:=dJ hJ;have HY:=dJ hY;clear hJ hY;refine callsIn_of_wp func92 rfl trivial ?_ rfl;simp only[ntmps92,List.size_toArray,List.length_cons,List.length_nil,Nat.reduceAdd,Nat.reduceSub,Array.replicate_succ,Array.replicate_zero,List.push_toArray,List.append_toArray,List.nil_append,List.cons_append];gi_wp2
 gi_loopw [3,4,5,6,7,14,21] (fun v _ _ _ _ i _ wr=>∃(k N:Nat)(pre:List (GI n₀ w0 f)),k<=f.blocks.length/\i=.int .i64 k/\v=.int .i64 N/\N<=17592186044416*(k+1)/\Hid (N=f.params.length+((f.blocks.take k).map List.length).sum)/\Hid (prj pre=iZ f k 0)/\Hid (J pre wr)/\Below n₀ w0 wr)
  (fun _ _ _ _ _ i _ _=>f.blocks.length-(intOf i).toNat)
 case atStart=>exact⟨0,f.params.length,[],tR _,rfl,rfl,by omega,by show _=_;simp,ad,h0,hW⟩
 case round =>
  obtain⟨k,N,pre,hk,rfl,rfl,hN,H,HP,G,L⟩:=hrel;obtain⟨wo,rfl⟩:∃wo:World,wo=wr:=⟨_,rfl⟩;by_cases aj:k<f.blocks.length
  ·obtain⟨bb,ob,rfl,ah,r⟩:=Q (by omega);obtain⟨q,hq⟩:∃q,f.blocks[k]?=some q:=⟨f.blocks[k],by simp[aj]⟩;obtain⟨u,hu,ak⟩:=r k q hq;have av:=(L.cell (p:=⟨bb,ob+k,none⟩) ah).trans hu;obtain⟨Al,cl,rfl,p1,p2,p3⟩:=ak;have P3:=dJ p3;have K:=dJ hq
   have ac:Hid (((f.blocks.take (k+1)).map List.length).sum=((f.blocks.take k).map List.length).sum+q.length):=by show _=_;obtain⟨e1,e2⟩:=sR.1 hq;rw[tG e1,e2,List.map_append,List.sum_append];simp
   clear r Q hq hu p3;gi_wp2
   gi_loopw [3,6,7,21] (fun v _ _ i wr=>∃(j m:Nat)(pre:List (GI n₀ w0 f)),j<=q.length/\i=.int .i64 j/\v=.int .i64 m/\m<=N+j/\Hid (m=N+j)/\Hid (prj pre=iZ f k j)/\Hid (J pre wr)/\Below n₀ w0 wr)
    (fun _ _ _ i _=>q.length-(intOf i).toNat)
   case atStart=>exact⟨0,N,pre,tR _,rfl,rfl,tS _,rfl,HP,G,L⟩
   case round =>
    obtain⟨j,m,d,hj,rfl,rfl,ao,hm,C,F,g⟩:=hrel;obtain⟨wp,rfl⟩:∃wp:World,wp=wr:=⟨_,rfl⟩;by_cases S:j<q.length
    ·obtain⟨x,hx⟩:∃x,q[j]?=some x:=⟨q[j],by simp[S]⟩;obtain⟨E,ol,rfl,t,R⟩:=P3.out (by omega);obtain⟨va,vt,i0,i1,i2,i3,i4,i5,U,Y⟩:=R j x hx;have X:=U;have Z:=Y;obtain⟨aa,ca,rfl,-,-,-⟩:=U;obtain⟨ta,ct,rfl,-,-,-⟩:=Y;have j0:=(g.cell (p:=⟨E,ol+j*6,none⟩) t).trans i0;have j1:=(g.cell (p:=⟨E,ol+j*6+1,none⟩) t).trans i1;have j2:=(g.cell (p:=⟨E,ol+j*6+2,none⟩) t).trans i2;have j3:=(g.cell (p:=⟨E,ol+j*6+3,none⟩) t).trans i3;have j4:=(g.cell (p:=⟨E,ol+j*6+4,none⟩) t).trans i4;have j5:=(g.cell (p:=⟨E,ol+j*6+5,none⟩) t).trans i5;have D:m=f.params.length+((f.blocks.take k).map List.length).sum+j:=by rw[hm.out,H.out]
     have T:(⟨x,m,k,j⟩:It)∈Ir.items f:=by rw[D];exact pB f k j q x K.out hx
     have HS:Hid (iZ f k (j+1)=iZ f k j++[⟨x,m,k,j⟩]):=by show _=_;rw[D];exact jV f k j q x K.out hx
     have hlen:d.length<(Ir.items f).length+1:=by have h1:=rn C.out;have h2:=(fi f k j q K.out).length_le;omega
     have M:J d (wp.alloc (.cells #[.int .i64 x.op,.int .i64 x.width,.int .i64 x.flags,.slice aa x.args.length ca,.int .u32 x.imm,.slice ta x.to.length ct] 68)):=AbidesFrom.alloc HJ.out F.out _;obtain⟨fn,tmps,ab,an,hy,hR⟩:=HY.out d ⟨⟨⟨x,m,k,j⟩,aa,ca,ta,ct⟩,X,Z,T⟩ _ M hlen
     have z:Hid (∀y:GI n₀ w0 f,y.1.it=⟨x,m,k,j⟩->prj (d++[y])=iZ f k (j+1)):=by intro y hy;rw[eB,hy,HS.out,C.out]
     have I:Hid (iZ f k (j+1) <+: Ir.items f):=fi f k (j+1) q K.out;have af:Below n₀ w0 (wp.alloc (.cells #[.int .i64 x.op,.int .i64 x.width,.int .i64 x.flags,.slice aa x.args.length ca,.int .u32 x.imm,.slice ta x.to.length ct] 68)):=g.alloc (by have:=g.size;omega) _;clear hx R i0 i1 i2 i3 i4 i5 hlen M D;dsimp only[ItV.enc]at hy;gi_wp2;refine hR.mono ?_;rintro e W3 (⟨rfl,ag,ai⟩|⟨rfl,O⟩)
     ·have ae:=af.trans ai;clear j0 j1 j2 j3 j4 j5;gi_wp2;go_roundw;case rel=>exact⟨j+1,m+1,_,by omega,by go_num,by go_num,by omega,by (show _=_;rw[hm.out];omega),z.out _ rfl,ag,ae⟩
      case measure=>simp[intOf];omega
     ·gi_wp2;refine tA (results_none rfl _ _ _) rfl ?_;exact⟨⟨_,rfl⟩,.inr ⟨_,by rw[z.out _ rfl];exact I.out,O⟩⟩
    ·obtain rfl:j=q.length:=by omega
     have A:Hid (prj d=iZ f (k+1) 0):=by show _=_;rw[C.out];exact pb f k q K.out
     gi_wp2;go_roundw;case rel=>exact⟨k+1,m,d,by omega,by go_num,rfl,by omega,by (show _=_;rw[hm.out,H.out,ac.out];omega),A,F,g⟩
     case measure=>simp[intOf];omega
  ·obtain rfl:k=f.blocks.length:=by omega
   have A:Hid (prj pre=Ir.items f):=by show _=_;rw[HP.out];exact qo f
   gi_wp2
   go_end0
   exact⟨⟨_,rfl⟩,.inl ⟨pre,A.out,G.out⟩⟩
theorem jd (f:Fn)(Ap As Ab:Option Addr)(np ns nb cp cs cb:Nat)(w:World) :
  Calls prog 62 #[.agg #[.slice Ap np cp,.int .i64 f.ret,.slice As ns cs,.slice Ab nb cb]] w fun e w' =>
   e=.returned (.func (.func 92) #[] #[.pointer (some ⟨w.heap.size,0,none⟩)])/\w'=w.alloc (.cells #[.slice Ap np cp,.int .i64 f.ret,.slice As ns cs,.slice Ab nb cb] 36):=by
 go_enter func62, ntmps62
 go_wp2;go_ret;exact⟨rfl,rfl⟩
theorem fj (n:Nat)(hn:1<=n)(Bf n₀:Nat)(f:Fn)(vp vs vb:Value)(w0 W0:World)(hf:FnAt n₀ w0 (.agg #[vp,.int .i64 f.ret,vs,vb]) f)(hn0:n₀<=w0.heap.size)(hb:Below n₀ w0 W0)(hs:f.blocks.length<=100000)(hBf:Bf<W0.heap.size)
  (c0:W0.cell? ⟨Bf,0,none⟩=some vp) (c3:W0.cell? ⟨Bf,3,none⟩=some vb) :
  SeqStopsK Fence.wide n prog 92 #[.pointer (some ⟨Bf,0,none⟩)] (fun x:GI n₀ w0 f=>#[x.1.enc]) (Below n₀) (fun ys=>prj ys=Ir.items f) (fun pre=>prj pre <+: Ir.items f) ((Ir.items f).length+1) W0 :=
 fun l J g W d m _ q j=>qF n hn l Bf n₀ W.heap.size f vp vs vb w0 hf hs J g m q W ((d.cell (p:=⟨Bf,0,none⟩) hBf).trans c0) ((d.cell (p:=⟨Bf,3,none⟩) hBf).trans c3) (hb.trans (d.mono (Nat.le_trans hn0 hb.size))) hn0 j
end
section
open Go.RowKit
theorem Own1.lower {B B':Nat}{e:TypeId}{w:World}{v:Value}{xs:List Value}(h:Own1 B' e w v xs)(hB:B<=B'):Own1 B e w v xs:=by
 refine⟨h.1,?_⟩;rcases h.2 with h|⟨g,d,j,e,h,r⟩
 ·exact .inl h
 ·exact .inr ⟨g,d,j,e,Nat.le_trans hB h,r⟩
theorem gd (v:Value)(zs:List Int)(B:Nat)(w:World)(hz:IntsAt B w v zs)(hB:B<=w.heap.size) :
  Calls prog 100 #[v] w fun e w'=>∃A c,e=.returned (.slice A zs.length c)/\Own1 w.heap.size 3 w' (.slice A zs.length c) (zs.map (Value.int .i64))/\Gr w w':=by
 obtain⟨T,I,p,q,t⟩:=info_parts dC;have O:∀(w:World)(a:Option Addr)(n c:Nat),(binOp .eql 33 (.slice a n c) (.slice none 0 0)).run prog w=.ok (.bool a.isNone) w:=fun w a n c=>Lib.run_eql_slice_nil w _ _ a n c 0 0 underlying33;have g:=hz;obtain⟨A,c,rfl,R,S,l⟩:=hz
 cases A with
 | none =>
  have K:zs=[]:=by
   cases zs with
   | nil=>rfl
   | cons a r =>
    obtain⟨b,o,e,-⟩:=l (by simp);cases e
  subst K;clear l g
  go_enter func100, ntmps100
  go_wp2;go_ret;exact⟨none,0,rfl,Own1.nil _ _ _,tX _⟩
 | some a =>
  have C:Hid (IntsAt B (w.alloc (.cells #[] 3)) (.slice (some a) zs.length c) zs):=by obtain⟨u,D,e,M,N,Q⟩:=g;refine⟨u,D,e,M,N,fun L=>?_⟩;obtain⟨b,o,F,G,H⟩:=Q L;exact⟨b,o,F,G,fun j z J=>((tX w).alloc _).cell b (o+j) (by omega) |>.trans (H j z J)⟩
  clear l g
  go_enter func100, ntmps100
  go_wp2_with (at_builtin;refine rY underlying33 I p q t rfl rfl _ _ rfl rfl (tZ _ _ (tS _)) C rfl (by simp;omega) (by simp) ?_;intro y E U d m _);go_ret;exact⟨y,E,by simp,by simpa using d,Gr.below ((tX _).alloc _) m (by simp)⟩
theorem ma (v:Value)(f:Fn)(w:World)(hf:FnAt w.heap.size w v f)(hs:f.blocks.length<=100000)(hne:Hid (∀l∈f.blocks,l≠[])) :
  Calls prog 97 #[v] w fun e w'=>∃u,e=.returned u/\TabAt w'.heap.size w' u (Ref.graph f)/\Gr w w':=by
 obtain⟨vp,vs,vb,rfl,hp,ae,hb⟩:=hf;obtain⟨U,Z,rfl,av,aw,ad⟩:=hp;obtain⟨W,cs,rfl,ax,ay,af⟩:=ae;obtain⟨T,R,rfl,ap,E,F⟩:=hb;clear ad af;obtain⟨i0,hi,aA,aB,aC⟩:=info_parts dC;obtain⟨i1,hj,aj,ak,al⟩:=info_parts gC;have D:Gr w (w.alloc (.cells #[.slice U f.params.length Z,.int .i64 f.ret,.slice W f.slots.length cs,.slice T f.blocks.length R] 36)):=(tX _).alloc _
 go_enter func97, ntmps97
 go_wp2
 go_loopw [3,5,9] (fun s _ b wr=>∃(k:Nat)(us:List Value),k<=f.blocks.length/\b=.int .i64 k/\Own1 (w.heap.size+1) 33 wr s us/\Tab1 (w.heap.size+1) 3 wr us ((f.blocks.take k).map fun l=>(l.getLast?.map (·.to)).getD []) /\
     Gr (w.alloc (.cells #[.slice U f.params.length Z,.int .i64 f.ret,.slice W f.slots.length cs,.slice T f.blocks.length R] 36)) wr) (fun _ _ b _=>f.blocks.length-(intOf b).toNat)
 case atStart=>exact⟨0,[],tR _,rfl,Own1.nil _ _ _,Tab1.nil _ _ _,tX _⟩
 case round =>
  obtain⟨k,us,hk,rfl,t,g,j⟩:=hrel;have an:wr.cell? ⟨w.heap.size,3,none⟩=some (.slice T f.blocks.length R):=(j.cell _ _ (by simp)).trans (by simp);by_cases ac:k<f.blocks.length
  ·obtain⟨bb,ob,rfl,aa,d⟩:=F (by omega);obtain⟨l,S⟩:∃l,f.blocks[k]?=some l:=⟨f.blocks[k],by simp[ac]⟩;obtain⟨u,hu,M⟩:=d k l S;have y:l≠[]:=hne.out l (sS S);obtain⟨x,hx⟩:∃x,l.getLast?=some x:=⟨_,List.getLast?_eq_some_getLast y⟩;have Q:l[l.length-1]?=some x:=by rw[<-List.getLast?_eq_getElem?];exact hx
   have HS:=fL f.blocks k l S x hx;have J:0<l.length:=List.length_pos_iff.2 y;have H:Gr w wr:=D.trans j;have az:=(H.cell _ _ aa).trans hu;have N:=M.below H;obtain⟨Al,cl,rfl,ar,au,I⟩:=N;obtain⟨bl,ol,rfl,aq,G⟩:=I J;obtain⟨va,vt,_,_,_,_,_,ht,_,q⟩:=G _ x Q;obtain⟨m,hm⟩:∃m,m+1=l.length:=⟨l.length-1,by omega⟩;rw[show l.length-1=m by omega]at ht;have Y:=dJ HS;have ag:w.heap.size<wr.heap.size:=by have:=j.size;simp at this;omega
   have O:us.length=k:=by rw[g.1];simp;omega
   have am:bl<wr.heap.size:=by omega
   have HM:=dJ hm;have HU:=dJ O;have wm:(l.length:Int)-1=m:=by omega
   clear S d hu M F hx Q HS y I G hm O;obtain⟨At,ct,rfl,ah,K,L⟩:=q;have q:IntsAt w.heap.size wr (.slice At x.to.length ct) x.to:=⟨At,ct,rfl,ah,K,L⟩;have X:=dJ (gd (.slice At x.to.length ct) x.to w.heap.size wr q (by omega));clear L q
   go_wp2_with (first|(go_at_call 100;refine X.out.mono ?_;rintro e w1 ⟨A1,c1,rfl,z,r⟩;have p:=t.gr r;have B:=g.gr r;have ao:=r.size)|(at_builtin;refine rC (v:=u3) underlying25 hj aj ak al rfl (by omega) rfl (.tmp 13) (.tmp 22) rfl rfl p rfl rfl (by rw[HU.out];omega) (by omega) ?_;intro A2 c2 w2 A E ab))
   go_goals
   go_roundw
   case rel =>
    have ai:Gr (w.alloc (.cells #[.slice U f.params.length Z,.int .i64 f.ret,.slice W f.slots.length cs,.slice (some ⟨bb,ob,none⟩) f.blocks.length R] 36)) w2:=(j.trans r).below E (by simp);have C:=((B.snoc (z.lower (by have:=ag;omega)) K).gr ((tX _).alloc (.cells #[.slice A1 x.to.length c1] 33))).grown (p.gr ((tX _).alloc (.cells #[.slice A1 x.to.length c1] 33))) (by decide) ab;exact⟨k+1,_,by omega,by go_num,by simpa using A,by rw[Y.out];exact C,ai⟩
   case measure=>simp[intOf];omega
  ·obtain rfl:k=f.blocks.length:=by omega
   go_wp2;go_ret;rw[tE]at g;exact⟨_,rfl,g.tab t (by simp;omega),D.trans j⟩
theorem mb (v:Value)(f:Fn)(w:World)(hf:FnAt w.heap.size w v f)(hs:f.blocks.length<=100000)(hne:Hid (∀l∈f.blocks,l≠[])) :
  Calls prog 97 #[v] w fun e w'=>∃u us,e=.returned u/\Own1 (w.heap.size+1) 33 w' u us/\Tab1 (w.heap.size+1) 3 w' us (Ref.graph f)/\Gr w w':=by
 obtain⟨vp,vs,vb,rfl,hp,ae,hb⟩:=hf;obtain⟨U,Z,rfl,av,aw,ad⟩:=hp;obtain⟨W,cs,rfl,ax,ay,af⟩:=ae;obtain⟨T,R,rfl,ap,E,F⟩:=hb;clear ad af;obtain⟨i0,hi,aA,aB,aC⟩:=info_parts dC;obtain⟨i1,hj,aj,ak,al⟩:=info_parts gC;have D:Gr w (w.alloc (.cells #[.slice U f.params.length Z,.int .i64 f.ret,.slice W f.slots.length cs,.slice T f.blocks.length R] 36)):=(tX _).alloc _
 go_enter func97, ntmps97
 go_wp2
 go_loopw [3,5,9] (fun s _ b wr=>∃(k:Nat)(us:List Value),k<=f.blocks.length/\b=.int .i64 k/\Own1 (w.heap.size+1) 33 wr s us/\Tab1 (w.heap.size+1) 3 wr us ((f.blocks.take k).map fun l=>(l.getLast?.map (·.to)).getD []) /\
     Gr (w.alloc (.cells #[.slice U f.params.length Z,.int .i64 f.ret,.slice W f.slots.length cs,.slice T f.blocks.length R] 36)) wr) (fun _ _ b _=>f.blocks.length-(intOf b).toNat)
 case atStart=>exact⟨0,[],tR _,rfl,Own1.nil _ _ _,Tab1.nil _ _ _,tX _⟩
 case round =>
  obtain⟨k,us,hk,rfl,t,g,j⟩:=hrel;have an:wr.cell? ⟨w.heap.size,3,none⟩=some (.slice T f.blocks.length R):=(j.cell _ _ (by simp)).trans (by simp);by_cases ac:k<f.blocks.length
  ·obtain⟨bb,ob,rfl,aa,d⟩:=F (by omega);obtain⟨l,S⟩:∃l,f.blocks[k]?=some l:=⟨f.blocks[k],by simp[ac]⟩;obtain⟨u,hu,M⟩:=d k l S;have y:l≠[]:=hne.out l (sS S);obtain⟨x,hx⟩:∃x,l.getLast?=some x:=⟨_,List.getLast?_eq_some_getLast y⟩;have Q:l[l.length-1]?=some x:=by rw[<-List.getLast?_eq_getElem?];exact hx
   have HS:=fL f.blocks k l S x hx;have J:0<l.length:=List.length_pos_iff.2 y;have H:Gr w wr:=D.trans j;have az:=(H.cell _ _ aa).trans hu;have N:=M.below H;obtain⟨Al,cl,rfl,ar,au,I⟩:=N;obtain⟨bl,ol,rfl,aq,G⟩:=I J;obtain⟨va,vt,_,_,_,_,_,ht,_,q⟩:=G _ x Q;obtain⟨m,hm⟩:∃m,m+1=l.length:=⟨l.length-1,by omega⟩;rw[show l.length-1=m by omega]at ht;have Y:=dJ HS;have ag:w.heap.size<wr.heap.size:=by have:=j.size;simp at this;omega
   have O:us.length=k:=by rw[g.1];simp;omega
   have am:bl<wr.heap.size:=by omega
   have HM:=dJ hm;have HU:=dJ O;have wm:(l.length:Int)-1=m:=by omega
   clear S d hu M F hx Q HS y I G hm O;obtain⟨At,ct,rfl,ah,K,L⟩:=q;have q:IntsAt w.heap.size wr (.slice At x.to.length ct) x.to:=⟨At,ct,rfl,ah,K,L⟩;have X:=dJ (gd (.slice At x.to.length ct) x.to w.heap.size wr q (by omega));clear L q
   go_wp2_with (first|(go_at_call 100;refine X.out.mono ?_;rintro e w1 ⟨A1,c1,rfl,z,r⟩;have p:=t.gr r;have B:=g.gr r;have ao:=r.size)|(at_builtin;refine rC (v:=u3) underlying25 hj aj ak al rfl (by omega) rfl (.tmp 13) (.tmp 22) rfl rfl p rfl rfl (by rw[HU.out];omega) (by omega) ?_;intro A2 c2 w2 A E ab))
   go_goals
   go_roundw
   case rel =>
    have ai:Gr (w.alloc (.cells #[.slice U f.params.length Z,.int .i64 f.ret,.slice W f.slots.length cs,.slice (some ⟨bb,ob,none⟩) f.blocks.length R] 36)) w2:=(j.trans r).below E (by simp);have C:=((B.snoc (z.lower (by have:=ag;omega)) K).gr ((tX _).alloc (.cells #[.slice A1 x.to.length c1] 33))).grown (p.gr ((tX _).alloc (.cells #[.slice A1 x.to.length c1] 33))) (by decide) ab;exact⟨k+1,_,by omega,by go_num,by simpa using A,by rw[Y.out];exact C,ai⟩
   case measure=>simp[intOf];omega
  ·obtain rfl:k=f.blocks.length:=by omega
   go_wp2;go_ret;rw[tE]at g;exact⟨_,us,rfl,t,g,D.trans j⟩
end
section
open Go.RowKit Go.Shelf
attribute [local go_sem] Oper.semAt_some
def Ir.kinds (f:Fn):List Int:=f.params++(Ir.items f).map (·.ins.width)
def ItV.row (y:ItV):Array Value:=#[.int .i64 y.it.ins.op,.int .i64 y.it.ins.width,.int .i64 y.it.ins.flags,.slice y.aa y.it.ins.args.length y.ca,.int .u32 y.it.ins.imm,.slice y.ta y.it.ins.to.length y.ct,.int .i64 y.it.num,.int .i64 y.it.blk,.int .i64 y.it.pos]
theorem nO (v:Value)(f:Fn)(w:World)(hf:FnAt w.heap.size w v f)(hs:f.blocks.length<=100000)(hit:(Ir.items f).length<=1000000)(hpl:f.params.length<=100000) :
  Calls prog 65 #[v] w fun e w'=>∃u,e=.returned u/\IntsAt w'.heap.size w' u (Ir.kinds f)/\Gr w w':=by
 obtain⟨i0,hi,ay,az,aA⟩:=info_parts dC;have an:=hf;obtain⟨vp,vs,vb,rfl,hp,au,hb⟩:=hf;have aq:=hp;obtain⟨p,q,rfl,aH,aI,-⟩:=hp;obtain⟨z,cs,rfl,-,-,-⟩:=au;obtain⟨y,A,rfl,-,-,-⟩:=hb;refine(callsIn_wide (n:=5)).1 ?_;refine callsIn_of_wp_marks func65 rfl trivial ?_ rfl;simp only[ntmps65,List.size_toArray,List.length_cons,List.length_nil,Nat.reduceAdd,Nat.reduceSub,Array.replicate_succ,Array.replicate_zero,List.push_toArray,List.append_toArray,List.nil_append,List.cons_append];obtain⟨W,hW⟩:=xJ (w.alloc (.cells #[.slice p f.params.length q,.int .i64 f.ret,.slice z f.slots.length cs,.slice y f.blocks.length A] 36));have ab:Gr w W:=by rw[<-hW];exact(tX w).alloc _
 have aD:W.heap.size=w.heap.size+1:=by rw[<-hW];simp
 have b0:∀o,W.cell? ⟨w.heap.size,o,none⟩=(#[.slice p f.params.length q,.int .i64 f.ret,.slice z f.slots.length cs,.slice y f.blocks.length A]:Array Value)[o]?:=by intro o;rw[<-hW];exact tv _ _ _ _ _ _ (heap_alloc_new w _)
 have B0:Hid (∀w',Gr W w'->w'.cell? ⟨w.heap.size,0,none⟩=some (.slice p f.params.length q)/\w'.cell? ⟨w.heap.size,1,none⟩=some (.int .i64 f.ret)/\w'.cell? ⟨w.heap.size,2,none⟩=some (.slice z f.slots.length cs)/\w'.cell? ⟨w.heap.size,3,none⟩=some (.slice y f.blocks.length A)) :=
  fun w' g=>⟨(g.cell w.heap.size 0 (by omega)).trans (b0 0),(g.cell w.heap.size 1 (by omega)).trans (b0 1),(g.cell w.heap.size 2 (by omega)).trans (b0 2),(g.cell w.heap.size 3 (by omega)).trans (b0 3)⟩
 have al:=dJ (gd (.slice p f.params.length q) f.params w.heap.size W (aq.below ab) (by omega))
 have ak:Hid (∀j,Calls prog 62 #[.agg #[.slice p f.params.length q,.int .i64 f.ret,.slice z f.slots.length cs,.slice y f.blocks.length A]] j fun e w' =>
     e=.returned (.func (.func 92) #[] #[.pointer (some ⟨j.heap.size,0,none⟩)])/\w'=j.alloc (.cells #[.slice p f.params.length q,.int .i64 f.ret,.slice z f.slots.length cs,.slice y f.blocks.length A] 36)) :=
  fun j=>jd f p z y _ _ _ q cs A j
 obtain⟨k0,k1,k2,k3⟩:=B0.out W (tX _);clear b0
 gi_wp2_with (first|(refine⟨trivial,?_⟩;gi_at_call 100;refine(callsIn_wide.2 al.out).mono ?_;rintro e j ⟨A1,c1,rfl,R,aj⟩;obtain⟨q0,q1,q2,q3⟩:=B0.out _ (aj.alloc (.cells #[.slice A1 f.params.length c1] 33)))|(refine⟨trivial,?_⟩;gi_at_call 62;refine(callsIn_wide.2 (ak.out _)).mono ?_;rintro e w2 ⟨rfl,rfl⟩))
 obtain⟨I,t⟩:=xJ (((j.alloc (.cells #[.slice A1 f.params.length c1] 33)).alloc (.cells #[.slice p f.params.length q,.int .i64 f.ret,.slice z f.slots.length cs,.slice y f.blocks.length A] 36)));have af:Gr w j:=ab.trans aj;have aK:I.heap.size=j.heap.size+2:=by rw[<-t];simp
 have ae:Gr w I:=by rw[<-t];exact(af.alloc _).alloc _
 have ac:Boxed I j.heap.size 33 (.slice A1 f.params.length c1):=by rw[<-t];exact(Boxed.new j _ _).alloc _
 have S:Own1 w.heap.size 3 I (.slice A1 f.params.length c1) (f.params.map (Value.int .i64)):=by rw[<-t];exact((R.lower (by omega)).gr (((tX j).alloc _).alloc _))
 have ad:∀o,I.cell? ⟨j.heap.size+1,o,none⟩=(#[.slice p f.params.length q,.int .i64 f.ret,.slice z f.slots.length cs,.slice y f.blocks.length A]:Array Value)[o]?:=by intro o;rw[<-t];have:=heap_alloc2_new j (.cells #[.slice A1 f.params.length c1] 33) (.cells #[.slice p f.params.length q,.int .i64 f.ret,.slice z f.slots.length cs,.slice y f.blocks.length A] 36);exact tv _ _ _ _ _ _ this
 rw[t];clear q0 q1 q2 q3 k0 k1 k2 k3;have HS:=fj (5-1) (by omega) (j.heap.size+1) w.heap.size f _ _ _ w I an (tS _) ae hs (by omega) (ad 0) (ad 3);have am:=af.size
 refine wpIn_rangeFunc_ownH rfl (by omega) (gf:=92) (lb:=#[.pointer (some ⟨j.heap.size+1,0,none⟩)]) rfl trivial (enters_of func92 (by kernel_rfl) rfl) HS belowK_t (belowK_b (by omega)) (Below.refl _ _) (fun _=>rfl)
  (fun d m=>(∃v,Boxed m j.heap.size 33 v/\m.ownsRow w.heap.size 3 1 v ((f.params++(prj d).map (·.ins.width)).map (Value.int .i64)).length ((f.params++(prj d).map (·.ins.width)).map (Value.int .i64))/\True)/\(Below w.heap.size w m/\I.heap.size<=m.heap.size))
  (fun _ _ _=>False)
  (OwnFrom.and (Own.from (holdsRow_own w.heap.size j.heap.size 33 3 1 (fun d=>((f.params++(prj d).map (·.ins.width)).map (Value.int .i64)).length) (fun d=>((f.params++(prj d).map (·.ins.width)).map (Value.int .i64))) (fun _ _=>True)) _) (OwnFrom.and (ownFrom_below (tS _) (by omega)) (fun _ _ _ _ h hg _=>Nat.le_trans h hg.size)))
  (fun _ _ _ _ _ hs _ _=>hs)
  ⟨⟨_,ac,by have:=S;unfold Own1 at this;simpa[prj] using this,trivial⟩,ae,tS _⟩
  (fun x a' m=>∃F,I.heap.size<=F/\m.heap[F]?=some (.cells x.1.row 90 (0,0))/\a'={tmps:=#[.agg #[.slice p f.params.length q,.int .i64 f.ret,.slice z f.slots.length cs,.slice y f.blocks.length A],.pointer (some ⟨w.heap.size,0,none⟩),.slice none 0 0,.pointer (some ⟨j.heap.size,0,none⟩),.pointer (some ⟨F,0,none⟩),.pointer (some ⟨w.heap.size,0,none⟩),.slice p f.params.length q,.slice A1 f.params.length c1,.agg #[.slice p f.params.length q,.int .i64 f.ret,.slice z f.slots.length cs,.slice y f.blocks.length A],.func (.func 92) #[] #[.pointer (some ⟨j.heap.size+1,0,none⟩)],x.1.enc,undef,undef,undef,undef,undef,undef,undef],defers:=[]})
  ?hAx ?assign ?body ?done ?stop
 case hAx =>
  intro x a' s X Y row h hg H;obtain⟨F,h1,h2,h3⟩:=h;refine⟨F,h1,(hg.block F (sZ.1 h2).1 (fun e=>?_)).trans h2,h3⟩;obtain⟨-,o,ho,hc⟩:=H F e.symm;rw[h2]at ho;cases ho;cases hc
 case assign =>
  rintro l d ⟨⟨⟨Z,num,blk,pos⟩,aa,ca,ta,ct⟩,C⟩ m K ⟨⟨v,hv,H,-⟩,G,U⟩ hK;simp only[ItV.enc];gi_wp2;exact hK _ _ ((KeepsOthers.alloc _ _).from _) ((Below.refl _ m).alloc G.size _) ⟨⟨v,hv.alloc _,(show Own1 _ _ _ _ _ from H).gr ((tX m).alloc _),trivial⟩,G.alloc G.size _,by simp;omega⟩ ⟨m.heap.size,U,heap_alloc_new m _,rfl⟩
 case body =>
  rintro l d ⟨⟨⟨Z,num,blk,pos⟩,aa,ca,ta,ct⟩,C⟩ a' m hl ⟨r,aJ⟩ ⟨⟨v,hv,H,-⟩,G,U⟩ ⟨F,aB,ah,rfl⟩ aG;have aw:=hv.cell;have aL:=hv.frozen;have hw:=tv m F 1 _ _ _ ah;simp only[ItV.row]at hw;have T:d.length=(prj d).length:=by simp[prj]
  obtain⟨L,hL⟩:=xJ ((f.params++(prj d).map (·.ins.width)).map (Value.int .i64));have aC:L.length<=2000000:=by rw[<-hL];simp;omega
  have HL:Hid ((f.params++(prj (d++[⟨⟨⟨Z,num,blk,pos⟩,aa,ca,ta,ct⟩,C⟩])).map (·.ins.width)).map (Value.int .i64)=L++[.int .i64 Z.width]):=by show _=_;rw[eB,<-hL];simp
  rw[hL]at H;clear hL T;gi_wp2_with (gi_at_builtin;go_loud (refine wpListIn_append_own _ rfl _ _ 33 rfl w.heap.size 3 i0 (.int .i64 0) 1 8 underlying33 hi ay az aA rfl (by decide) _ _ _ rfl (H.alloc _) ⟨m.heap.size,0,none⟩ 1 1 [.int .i64 Z.width] rfl rfl (cell_one_new _ _ _) (by simp[Value.oneCell']) (by simp only[maxLen];omega) (by omega) (by have:=G.size;simp;omega) ?_);intro v' w2 E Q _;obtain⟨g',J,rfl⟩:=ownsRow_succ E;obtain⟨ai,av,ar,ap,O⟩:=hv.appended (by decide) H G.size am E Q;have aE:=ai.cell;have aF:=ai.frozen)
  have M:(w2.setCell ⟨j.heap.size,0,none⟩ (.slice (some ⟨g',0,none⟩) (L.length+1) J)).ownsRow w.heap.size 3 1 (.slice (some ⟨g',0,none⟩) (L.length+1) J) (L++[Value.int .i64 Z.width]).length (L++[Value.int .i64 Z.width]):=by rw[show (L++[Value.int .i64 Z.width]).length=L.length+1 by simp];exact ar
  rw[<-HL.out]at M;refine⟨ap.from _,O,⟨_,av,?_⟩,G.trans O,by have:=O.size;omega⟩;simpa using M
 case done =>
  rintro D ys m hD ax ⟨⟨v,hv,H,-⟩,G,U⟩ N;have aw:=hv.cell;gi_wp2;refine⟨by simp,.inl ⟨_,_,rfl,run_takeDeferred N,?_⟩⟩;have ao:Gr w (m.putObj D (.deferred none)):=G.trans (belowK_b (w:=w) (tS _) m D _ _ (by omega) N rfl rfl);refine⟨_,results_tmp rfl _ _ _,v,rfl,?_,ao⟩;have ag:=ownsRow_putObj H (.deferred none) N rfl;have he:f.params++(prj ys).map (·.ins.width)=Ir.kinds f:=by rw[ax];rfl
  rw[he]at ag;exact Own1.ints (B:=w.heap.size) (by unfold Own1;simpa using ag) (by unfold Ir.kinds;simp;omega)
 case stop =>
  rintro D c d m _ _ h _;exact h.elim
end
section
open Go.RowKit
theorem fw:∀(bs:List (List Ins))(n b:Nat),(Ir.itemsFrom bs n b).length=Ref.total bs
 | [],_,_=>rfl
 | l::r,n,b=>by rw[Ir.itemsFrom,tT,eo,fw r,Ref.total_cons]
theorem jx (f:Fn):(Ir.items f).length=Ref.total f.blocks:=fw _ _ _
theorem fu:∀(bs:List (List Ins))(n b i:Nat)(it:It),(Ir.itemsFrom bs n b)[i]?=some it ->
  Ref.whereFrom ((n+i:Nat):Int) bs b n=((it.blk:Int),(it.pos:Int))/\b<=it.blk/\it.num=n+i/\∃l,bs[it.blk-b]?=some l/\l[it.pos]?=some it.ins
 | [],n,b,i,it,h=>by simp[Ir.itemsFrom]at h
 | l::r,n,b,i,it,h=>by
  rw[Ir.itemsFrom]at h
  rcases tF i l.length with d|d
  ·rw[te (by rw[eo];exact d),il l n b i l[i] (by simp[d])]at h
   simp only[Option.some.injEq]at h
   subst h
   refine⟨?_,tS _,rfl,l,by simp,by simp[d]⟩
   rw[Ref.whereFrom,tB (by omega)]
   refine Prod.ext rfl ?_
   show ((n+i:Nat):Int)-n=(i:Int)
   omega
  ·rw[tj (by rw[eo];exact d),eo]at h
   obtain⟨g,q,t,p,j,m⟩:=fu r (n+l.length) (b+1) (i-l.length) it h
   refine⟨?_,by omega,by omega,p,?_,m⟩
   ·rw[Ref.whereFrom,tC (by omega),show ((n+i:Nat):Int)=((n+l.length+(i-l.length):Nat):Int) by omega];exact g
   ·rw[show it.blk-b=(it.blk-(b+1))+1 by omega];simpa using j
theorem gF (f:Fn)(i:Nat)(it:It)(h:(Ir.items f)[i]?=some it) :
  Ref.whereIs f ((f.params.length+i:Nat):Int)=((it.blk:Int),(it.pos:Int))/\it.num=f.params.length+i/\∃l,f.blocks[it.blk]?=some l/\l[it.pos]?=some it.ins:=by
 obtain⟨d,p,g,l,j,m⟩:=fu f.blocks f.params.length 0 i it h;exact⟨d,g,l,by simpa using j,m⟩
theorem fA (f:Fn)(it:It)(h:it∈Ir.items f):∃l,f.blocks[it.blk]?=some l/\l[it.pos]?=some it.ins:=by obtain⟨i,d,e⟩:=List.getElem_of_mem h;exact(gF f i it (by rw[sQ d,e])).2.2
theorem iG (f:Fn):Ref.count f=f.params.length+(Ir.items f).length:=by rw[jx];unfold Ref.count Ref.number;rw[tE]
theorem mj (q:Ins->Bool)(l:List Ins)(n b:Nat):(Ir.itemsB l n b).all (fun it=>q it.ins)=l.all q:=by
 have h:(Ir.itemsB l n b).map (·.ins)=l:=by apply List.ext_getElem?;intro i;simp[Ir.itemsB];cases l[i]?<;>simp
 have d:(Ir.itemsB l n b).all (fun it=>q it.ins)=((Ir.itemsB l n b).map (·.ins)).all q:=by rw[List.all_map];rfl
 rw[d,h]
theorem ft (q:Ins->Bool):∀(bs:List (List Ins))(n b:Nat),(Ir.itemsFrom bs n b).all (fun it=>q it.ins)=bs.all fun l=>l.all q
 | [],_,_=>rfl
 | l::r,n,b=>by rw[Ir.itemsFrom,List.all_append,mj,ft q r,List.all_cons]
theorem fz (q:Ins->Bool)(f:Fn):(Ir.items f).all (fun it=>q it.ins)=f.blocks.all fun l=>l.all q:=ft q _ _ _
def Ir.kv (ks:List Int)(v:Int):Int:=if v<0\/(ks.length:Int)<=v then -1 else ks.getD v.toNat 0
theorem nP (f:Fn):(Ir.kinds f).length=Ref.count f:=by rw[iG];simp[Ir.kinds]
theorem nQ (f:Fn)(v:Int):Ir.kv (Ir.kinds f) v=Ref.kind f v:=by
 unfold Ir.kv Ref.kind;rw[nP];split
 ·rfl
 ·next h =>
  obtain⟨n,rfl⟩:=tb (show 0<=v by omega);rw[tc];by_cases j:(n:Int)<f.params.length
  ·rw[tB j];unfold Ir.kinds;simp only[List.getD,te (show n<f.params.length by omega)]
  ·rw[tC j];have t:=iG f;have q:n-f.params.length<(Ir.items f).length:=by omega
   obtain⟨it,d⟩:∃it,(Ir.items f)[n-f.params.length]?=some it:=⟨_,sQ q⟩;obtain⟨g,r,l,m,p⟩:=gF f _ it d;rw[show f.params.length+(n-f.params.length)=n by omega]at g;rw[g];unfold Ir.kinds Ref.insAt?;simp only[List.getD,tj (show f.params.length<=n by omega),td,d,Option.map_some,Option.getD_some,tc,m,Option.bind_some,p]
def Ir.each (ks:List Int)(x:Ins)(k:Int):Bool:=x.args.all fun v=>decide (Ir.kv ks v=k)
def Ir.kof (ks:List Int)(x:Ins)(i:Nat):Int:=Ir.kv ks (x.args.getD i 0)
def Ir.typed (f:Fn)(x:Ins)(ks:List Int):Bool :=
 if Ir.classOf x.op=2\/Ir.classOf x.op=7\/Ir.classOf x.op=8\/Ir.classOf x.op=14 then Ir.each ks x x.width
 else if Ir.classOf x.op=3 then Ref.isWidth (Ir.kof ks x 0) && Ir.each ks x (Ir.kof ks x 0)
 else if Ir.classOf x.op=4 then decide (Ir.kof ks x 0=1) && decide (Ir.kof ks x 1=x.width) && decide (Ir.kof ks x 2=x.width)
 else if Ir.classOf x.op=5 then Ref.isWidth (Ir.kof ks x 0) && decide (Ir.kof ks x 0<x.width)
 else if Ir.classOf x.op=6 then Ref.isWidth (Ir.kof ks x 0) && decide (x.width<Ir.kof ks x 0)
 else if Ir.classOf x.op=11 then decide (Ir.kof ks x 0=33) && Ref.isWidth (Ir.kof ks x 1)
 else if Ir.classOf x.op=12 then decide (Ir.kof ks x 0=33)
 else if Ir.classOf x.op=13 then decide (Ir.kof ks x 0=33) && Ref.isMem (Ir.kof ks x 1)
 else if Ir.classOf x.op=16 then decide (Ir.kof ks x 0=1)
 else if Ir.classOf x.op=17 then Ir.each ks x f.ret
 else true
theorem len0 {α:Type}{l:List α}(h:(l.length:Int)=0):l=[]:=tK (by omega)
theorem len1 {α:Type}{l:List α}(h:(l.length:Int)=1):∃a,l=[a]:=by
 match l,h with
 | [a],_=>exact⟨a,rfl⟩
theorem len2 {α:Type}{l:List α}(h:(l.length:Int)=2):∃a b,l=[a,b]:=by
 match l,h with
 | [a,b],_=>exact⟨a,b,rfl⟩
theorem len3 {α:Type}{l:List α}(h:(l.length:Int)=3):∃a b c,l=[a,b,c]:=by
 match l,h with
 | [a,b,c],_=>exact⟨a,b,c,rfl⟩
theorem nk {f:Fn}{x:Ins}(h:Ref.argument f x=true):(0<=(Ref.shape f x).1->(x.args.length:Int)=(Ref.shape f x).1)/\(Ref.shape f x).2.2=true:=by unfold Ref.argument Ref.counts at h;simp only[tD]at h;obtain⟨⟨⟨j,d⟩,-⟩,-⟩:=h;refine⟨fun g=>?_,j⟩;simp only[Bool.not_eq_true',Bool.or_eq_false_iff,Bool.and_eq_false_imp,decide_eq_true_eq,decide_eq_false_iff_not]at d;have:=d.1.1 g;omega
theorem ny (f:Fn)(x:Ins)(k:Int)(hk:0<=k):Ir.each (Ir.kinds f) x k=(x.args.all (fun v=>decide (0<=Ref.kind f v)) && (x.args.map (Ref.kind f)).all fun z=>decide (z=k)):=by
 unfold Ir.each;simp only[nQ]
 induction x.args with
 | nil=>rfl
 | cons a r ih =>
  simp only[List.all_cons,ih,List.map_cons];by_cases h:Ref.kind f a=k
  ·simp[h,hk]
  ·simp[h]
theorem gM (f:Fn)(x:Ins)(h:x.op<0\/32<x.op):Ref.shape f x=(0,0,false):=by
 unfold Ref.shape
 iterate 16 rw[tC (by omega)]
theorem pT (op:Int)(h:¬(op<0\/32<op)):(op=1\/op=2\/op=3\/op=4\/op=5\/op=6\/op=7\/op=8\/op=9\/op=10\/op=11\/op=12\/op=13\/op=19\/op=20\/op=21\/op=28) \/
  (op=0\/op=22\/op=23\/op=24\/op=29\/op=32)\/(op=16\/op=17\/op=18\/op=26\/op=30)\/(op=14\/op=25\/op=27)\/op=15\/op=31:=by omega
theorem qm (f:Fn)(x:Ins)(hA:Ref.argument f x=true):Ir.typed f x (Ir.kinds f)=Ref.typed f x:=by
 obtain⟨d,g⟩:=nk hA;clear hA;by_cases p:x.op<0\/32<x.op
 ·rw[gM f x p]at g;cases g
 have l:=fun k hk=>ny f x k hk;unfold Ir.typed Ref.typed Ref.typedKinds;obtain⟨op,width,flags,args,imm,to⟩:=x;dsimp only at *;rcases pT op p with h|h|h|h|h|h
 ·have r:1<=width:=by
   rcases h with h|h|h|h|h|h|h|h|h|h|h|h|h|h|h|h|h;all_goals (subst h;simp[Ref.shape,Ref.isWidth]at g;omega)
  have q:Ir.classOf op=2\/Ir.classOf op=7\/Ir.classOf op=8\/Ir.classOf op=14:=by rcases h with h|h|h|h|h|h|h|h|h|h|h|h|h|h|h|h|h;all_goals (subst h;decide)
  rw[tB q,l width (by omega)];simp only[show ¬op=14 by omega,show ¬op=15 by omega,show ¬(op=16\/op=17) by omega,show ¬op=18 by omega,show ¬op=25 by omega,show ¬op=26 by omega,show ¬op=27 by omega,show ¬op=30 by omega,show ¬op=31 by omega,if_false]
 ·have j:args=[]:=by
   rcases h with h|h|h|h|h|h;all_goals (subst h;simp[Ref.shape]at d;exact d)
  subst j;rcases h with h|h|h|h|h|h;all_goals (subst h;simp[Ir.classOf])
 ·have j:∃a,args=[a]:=by
   rcases h with h|h|h|h|h;all_goals (subst h;simp[Ref.shape]at d;exact len1 (by omega))
  obtain⟨a,rfl⟩:=j;clear l d;rcases h with h|h|h|h|h;all_goals (subst h;simp[Ref.shape,Ref.isWidth]at g;simp[Ir.classOf,Ir.kof,nQ,Ref.isWidth];omega)
 ·have j:∃a b,args=[a,b]:=by
   rcases h with h|h|h;all_goals (subst h;simp[Ref.shape]at d;exact len2 (by omega))
  obtain⟨a,b,rfl⟩:=j;clear l d;rcases h with h|h|h;all_goals (subst h;simp[Ref.shape]at g;simp[Ir.classOf,Ir.each,Ir.kof,nQ,Ref.isWidth,Ref.isMem];first|omega|grind)
 ·subst h;simp[Ref.shape,Ref.isWidth]at d g;obtain⟨a,b,c,rfl⟩:=len3 (by omega:(args.length:Int)=3);simp[Ir.classOf,Ir.kof,nQ];omega
 ·subst h;simp[Ref.shape]at d g;by_cases m:0<f.ret
  ·simp[m]at d;obtain⟨a,rfl⟩:=len1 (by omega:(args.length:Int)=1);simp[Ir.classOf,Ir.each,nQ];omega
  ·simp[m]at d;subst d;simp[Ir.classOf,Ir.each]
theorem kD (q:Ins->Nat->Bool)(l:List Ins)(n b:Nat):(Ir.itemsB l n b).all (fun it=>q it.ins it.blk)=l.all fun x=>q x b:=by
 have h:(Ir.itemsB l n b).map (fun it=>(it.ins,it.blk))=l.map fun x=>(x,b):=by apply List.ext_getElem?;intro i;simp[Ir.itemsB];cases l[i]?<;>simp
 have d:(Ir.itemsB l n b).all (fun it=>q it.ins it.blk)=((Ir.itemsB l n b).map (fun it=>(it.ins,it.blk))).all fun p=>q p.1 p.2:=by rw[List.all_map];rfl
 rw[d,h,List.all_map];rfl
def Ir.phiOk (g:List (List Int))(it:It):Bool:=decide (it.ins.op≠28) || decide (Ref.before g it.blk=it.ins.to)
theorem iy (g:List (List Int)):∀(bs:List (List Ins))(n b:Nat),Ref.phisFrom g bs b=(Ir.itemsFrom bs n b).all (Ir.phiOk g)
 | [],_,_=>rfl
 | l::r,n,b=>by
  rw[Ir.itemsFrom,List.all_append,Ref.phisFrom,iy g r (n+l.length) (b+1)]
  have:=kD (fun x b=>decide (x.op≠28) || decide (Ref.before g b=x.to)) l n b
  unfold Ir.phiOk;rw[this];congr 2;funext x;rw[Ref.sameInts_eq];congr 1;exact decide_eq_decide.2 eq_comm
def Ir.isLaid (f:Fn):Bool:=f.blocks.all Ref.laid && (Ref.before (Ref.graph f) 0).isEmpty && (Ir.items f).all (Ir.phiOk (Ref.graph f))
theorem nN (f:Fn):Ir.isLaid f=Ref.rules f:=by unfold Ir.isLaid Ref.rules Ir.items;rw[iy]
def Ir.argsOk (f:Fn)(g:List (List Int))(it:It):Bool:=!rb g it.blk || Ref.argsFrom f g (Ref.reached g (-1)) it.blk it.pos it.ins it.ins.args 0
theorem fq (f:Fn)(g:List (List Int))(inn:List Bool)(b:Nat):∀(l:List Ins)(n i:Nat),
  Ref.insFrom f g inn b l i=(l.mapIdx fun j x=>(⟨x,n+j,b,i+j⟩:It)).all fun it=>Ref.argsFrom f g inn it.blk it.pos it.ins it.ins.args 0
 | [],_,_=>rfl
 | x::r,n,i=>by
  rw[Ref.insFrom,List.mapIdx_cons,List.all_cons,fq f g inn b r (n+1) (i+1)]
  congr 1
  congr 1
  apply List.ext_getElem?
  intro j
  simp only[List.getElem?_mapIdx]
  cases r[j]? with
  | none=>rfl
  | some y=>simp;omega
theorem eV (f:Fn)(g:List (List Int)):∀(bs:List (List Ins))(n b:Nat),Ref.blksFrom f g (Ref.reached g (-1)) bs b=(Ir.itemsFrom bs n b).all (Ir.argsOk f g)
 | [],_,_=>rfl
 | l::r,n,b=>by
  rw[Ir.itemsFrom,List.all_append,Ref.blksFrom,eV f g r (n+l.length) (b+1)]
  congr 1
  rw[fq f g _ b l n 0]
  unfold Ir.itemsB
  have d:∀it∈(l.mapIdx fun j x=>(⟨x,n+j,b,j⟩:It)),it.blk=b:=by intro it m;obtain⟨j,q,e⟩:=List.mem_mapIdx.1 m;rw[<-e]
  have p:(l.mapIdx fun j x=>(⟨x,n+j,b,0+j⟩:It))=l.mapIdx fun j x=>(⟨x,n+j,b,j⟩:It):=by simp
  rw[p];generalize (l.mapIdx fun j x=>(⟨x,n+j,b,j⟩:It))=L at d ⊢
  induction L with
  | nil=>simp
  | cons a t ih =>
   rw[List.all_cons,List.all_cons,<-ih fun it h=>d it (List.mem_cons_of_mem _ h)];unfold Ir.argsOk rb;rw[d a (List.mem_cons_self ..)];cases (Ref.reached g (-1)).getD b false<;>simp
theorem oS (f:Fn):(Ir.items f).all (Ir.argsOk f (Ref.graph f))=Ref.stated f:=by unfold Ref.stated Ir.items;rw[eV]
def Ir.isThere (f:Fn)(g:List (List Int))(v block place:Int):Bool :=
 if v<f.params.length then true else if (Ref.whereIs f v).1=block then decide ((Ref.whereIs f v).2<place) else Ref.dominates g (Ref.whereIs f v).1 block
theorem kC (f:Fn)(g:List (List Int))(v block place:Int)(h1:v<Ref.count f)(h2:0<=place):Ir.isThere f g v block place=Ref.there f g v block place:=by
 unfold Ir.isThere Ref.there;by_cases h:v<f.params.length
 ·rw[tB h,Ref.whereIs,Ref.whereFrom_none v _ _ _ h,tB (by decide)]
 ·obtain⟨j,i,l,x,e,-⟩:=Ref.whereIs_some f v (by omega) h1;rw[tC h,e,tC (show ¬(j:Int)<0 by omega)];by_cases d:(j:Int)=block
  ·simp only[d,if_true,show decide (place<0)=false by simp;omega,Bool.false_or]
  ·simp only[d,if_false]
theorem kB (f:Fn)(g:List (List Int))(v:Int)(t:Nat)(l:List Ins)(hl:f.blocks[t]?=some l)(h1:v<Ref.count f):Ir.isThere f g v t l.length=Ref.there f g v t (-1):=by
 unfold Ir.isThere Ref.there;by_cases h:v<f.params.length
 ·rw[tB h,Ref.whereIs,Ref.whereFrom_none v _ _ _ h,tB (by decide)]
 ·obtain⟨j,i,q,x,e,d,m,-⟩:=Ref.whereIs_some f v (by omega) h1;rw[tC h,e,tC (show ¬(j:Int)<0 by omega)];by_cases p:(j:Int)=t
  ·have:j=t:=by omega
   subst this;rw[hl]at d;cases d;have:=(sR.1 m).1;simp[this]
  ·simp only[p,if_false]
def ShP (f:Fn)(x:Ins)(vp vb:Value)(As Aa At:Option Addr)(cs ca ct:Nat)(w:World):Prop :=
 Calls prog 93 #[.agg #[vp,.int .i64 f.ret,.slice As f.slots.length cs,vb],.agg #[.int .i64 x.op,.int .i64 x.width,.int .i64 x.flags,.slice Aa x.args.length ca,.int .u32 x.imm,.slice At x.to.length ct]] w fun e w' =>
   e=.returned (.tuple #[.agg #[.int .i64 (Ir.shapeOf f x).1,.int .i64 (Ir.shapeOf f x).2.1],.bool (Ir.shapeOf f x).2.2])/\Gr w w'
def ShB (f:Fn)(x:Ins):Prop:=0<=x.imm/\x.imm<4294967296/\f.slots.length<=17592186044416/\x.to.length<=17592186044416
theorem iX {x:Ins}{n:Int}(hc:Ir.classOf x.op=n):Hid (∀w1,Calls prog 103 #[.int .i64 x.op] w1 (RS (.int .i64 n) w1)):=fun w1=>by rw[<-hc];exact gn x.op w1
theorem iW (x:Ins):∃iw,Ref.isWidth x.width=iw/\Hid (∀w1,Calls prog 90 #[.int .i64 x.width] w1 (RS (.bool iw) w1)):=⟨_,rfl,fun w1=>dM x.width w1⟩
theorem dV {w:World}{a b c:Obj}:Gr w (((w.alloc a).alloc b).alloc c):=(((tX w).alloc _).alloc _).alloc _
end

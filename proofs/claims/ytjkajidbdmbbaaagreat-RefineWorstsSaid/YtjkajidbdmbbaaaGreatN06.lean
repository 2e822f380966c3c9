import Derived.RangeFuncNested
import Derived.RangeFuncBound
import Derived.RangeFuncCalls
import Derived.RangeFuncLeaves
import Derived.Shelf.RegionOpen
import Derived.OwnWalkIn
import Derived.TacticsInMore
import Derived.LoopNIn
import Derived.LoopIn
import Derived.Test.YtjkajidbdmbbaaaGreatN04
import Derived.Lib.SliceRun
set_option linter.unusedSimpArgs false
set_option linter.unusedVariables false
set_option maxRecDepth 100000
set_option maxHeartbeats 16000000
open Go.Proofs.Tryz
namespace Go.Proofs.YtjkajidbdmbbaaaGreat
open Ref Rn Wd Ir Rf
variable {f:Fn}{x:Ins}{n:Int}{xs:List Value}{B:Nat}{e:TypeId}{v:Value}{W w w0:World}
section
open Go.RowKit Go.Shelf
attribute [local go_sem] Oper.semAt_some
structure It where
 ins:Ins
 num:Nat
 blk:Nat
 pos:Nat
namespace Ir
def Eb (l:List Ins)(n b:Nat):List It:=l.mapIdx fun i x=>⟨x,n+i,b,i⟩
def BQ:List (List Ins)->Nat->Nat->List It
 | [],_,_=>[]
 | l::r,n,b=>Eb l n b++BQ r (n+l.length) (b+1)
def zW (f:Fn):List It:=BQ f.b f.p.length 0
end Ir
structure ItV where
 it:It
 aa:Option Addr
 ca:Nat
 ta:Option Addr
 ct:Nat
def ItV.va (y:ItV):Value:=.slice y.aa y.it.ins.args.length y.ca
def ItV.vt (y:ItV):Value:=.slice y.ta y.it.ins.to.length y.ct
def ItV.enc (y:ItV):Value:=.agg #[.int .i64 y.it.ins.op,.int .i64 y.it.ins.w,.int .i64 y.it.ins.g,.slice y.aa y.it.ins.args.length y.ca,.int .u32 y.it.ins.i,.slice y.ta y.it.ins.to.length y.ct,.int .i64 y.it.num,.int .i64 y.it.blk,.int .i64 y.it.pos]
def Good (n₀:Nat)(w0:World)(f:Fn)(y:ItV):Prop:=IntsAt n₀ w0 y.va y.it.ins.args/\IntsAt n₀ w0 y.vt y.it.ins.to/\y.it∈zW f
abbrev GI (n₀:Nat)(w0:World)(f:Fn):Type:={y:ItV // Good n₀ w0 f y}
def prj {n₀:Nat}{w0:World}{f:Fn}(pre:List (GI n₀ w0 f)):List It:=pre.map (·.1.it)
theorem jU (l:List Ins)(n b i:Nat)(x:Ins)(h:l[i]?=some x):(Eb l n b)[i]?=some ⟨x,n+i,b,i⟩:=by simp[Eb,h]
theorem fc (l:List Ins)(n b:Nat):(Eb l n b).length=l.length:=by simp[Eb]
theorem fG (k:Nat):∀(bs:List (List Ins))(n b:Nat)(l:List Ins),bs[k]?=some l ->
  BQ bs n b=BQ (bs.take k) n b++(Eb l (n+((bs.take k).map List.length).sum) (b+k)++BQ (bs.drop (k+1)) (n+((bs.take (k+1)).map List.length).sum) (b+(k+1))):=by
 induction k with
 | zero =>
  intro bs n b l h
  cases bs with
  | nil=>simp at h
  | cons a r=>simp at h;subst h;simp[BQ]
 | succ k ih =>
  intro bs n b l h
  cases bs with
  | nil=>simp at h
  | cons a r =>
   have:=ih r (n+a.length) (b+1) l (by simpa using h);rw[BQ,this];simp only[yA,BQ,List.map_cons,List.sum_cons,yD,List.append_assoc]
   rw[show n+a.length+((r.take k).map List.length).sum=n+(a.length+((r.take k).map List.length).sum) by omega,show b+1+k=b+(k+1) by omega,
     show n+a.length+((r.take (k+1)).map List.length).sum=n+(a.length+((r.take (k+1)).map List.length).sum) by omega,show b+1+(k+1)=b+(k+1+1) by omega]
def kR (f:Fn)(k j:Nat):List It:=BQ (f.b.take k) f.p.length 0++(Eb (f.b.getD k []) (f.p.length+((f.b.take k).map List.length).sum) k).take j
theorem mi (f:Fn)(k j:Nat)(l:List Ins)(x:Ins)(hl:f.b[k]?=some l)(hx:l[j]?=some x):kR f k (j+1)=kR f k j++[⟨x,f.p.length+((f.b.take k).map List.length).sum+j,k,j⟩]:=by unfold kR;rw[List.append_assoc];congr 1;have h:=jU (f.b.getD k []) (f.p.length+((f.b.take k).map List.length).sum) k j x (by simp[List.getD,hl,hx]);obtain⟨d,g⟩:=xS.1 h;rw[yx d,g]
theorem sR (f:Fn)(k:Nat)(l:List Ins)(hl:f.b[k]?=some l):kR f k l.length=kR f (k+1) 0:=by
 unfold kR;have d:f.b.getD k []=l:=by simp[List.getD,hl]
 obtain⟨j,m⟩:=xS.1 hl;have g:(f.b.take (k+1))[k]?=some l:=by rw[yf];simp[hl]
 have:=fG k (f.b.take (k+1)) f.p.length 0 l g;rw[this,d];simp[List.take_take,BQ];exact yh (by rw[fc];omega)
theorem ux (f:Fn):kR f f.b.length 0=zW f:=by unfold kR zW;simp
theorem gn (f:Fn)(k j:Nat)(l:List Ins)(hl:f.b[k]?=some l):kR f k j <+: zW f:=by
 unfold kR zW;have d:f.b.getD k []=l:=by simp[List.getD,hl]
 rw[fG k f.b f.p.length 0 l hl,d,Nat.zero_add];exact(List.prefix_append_right_inj _).2 ((List.take_prefix _ _).trans (List.prefix_append _ _))
theorem tK (f:Fn)(k j:Nat)(l:List Ins)(x:Ins)(hl:f.b[k]?=some l)(hx:l[j]?=some x):(⟨x,f.p.length+((f.b.take k).map List.length).sum+j,k,j⟩:It)∈zW f:=by refine(gn f k (j+1) l hl).subset ?_;rw[mi f k j l x hl hx];simp
theorem AbidesFrom.alloc {β:Type}{J:β->World->Prop}(h:AbidesFrom B J){s:β}(hs:J s W)(o:Obj):J s (W.alloc o):=h s W _ none hs (World.grownBy_alloc W o none) (fun r e=>by cases e)
theorem vS {n₀:Nat}{pre:List (GI n₀ w0 f)}{l:List It}(h:prj pre=l):pre.length=l.length:=by rw[<-h];simp[prj]
theorem ft {n₀:Nat}(pre:List (GI n₀ w0 f))(y:GI n₀ w0 f):prj (pre++[y])=prj pre++[y.1.it]:=by simp[prj]
theorem uR (n:Nat)(hn:1<=n)(l Bf n₀ B:Nat)(f:Fn)(vp vs vb:Value)(w0:World)(hf:FnAt n₀ w0 (.agg #[vp,.int .i64 f.ret,vs,vb]) f)(hs:f.b.length<=100000)(J Jx:List (GI n₀ w0 f)->World->Prop)(hJ:AbidesFrom B J)
  (hY:∀pre x W,J pre W->pre.length<(zW f).length+1->YieldAt Fence.wide (n-1) prog l #[x.1.enc] W fun e W' =>
    (e=.returned (.bool true)/\J (pre++[x]) W'/\Below n₀ W W')\/(e=.returned (.bool false)/\Jx (pre++[x]) W'))
  (W:World) (d0:W.cell? ⟨Bf,0,none⟩=some vp) (d3:W.cell? ⟨Bf,3,none⟩=some vb) (hW:Below n₀ w0 W) (hn0:n₀<=w0.heap.size) (h0:J [] W) :
  CallsIn Fence.wide n prog 92 #[.func (.yield l) #[] #[],.pointer (some ⟨Bf,0,none⟩)] W fun e W'=>(∃v,e=.returned v) /\
   ((∃ys,prj ys=zW f/\J ys W')\/(∃pre,prj pre <+: zW f/\Jx pre W')):=by
 obtain⟨am,aw,al,e,hp,-,hb⟩:=hf;have e0:vp=am:=by simp at e;exact e.1
 have e3:vb=al:=by simp at e;exact e.2.2
 subst e0;subst e3;clear e;obtain⟨Ap,cp,rfl,ar,au,-⟩:=hp;obtain⟨Ab,cb,rfl,ap,aq,Q⟩:=hb;have ad:Hid (prj ([]:List (GI n₀ w0 f))=kR f 0 0):=by show _=_;simp[prj,kR,BQ]
 have HJ:=dJ hJ;have HY:=dJ hY;clear hJ hY;refine callsIn_of_wp func92 rfl trivial ?_ rfl;simp only[ntmps92,List.size_toArray,List.length_cons,List.length_nil,Nat.reduceAdd,Nat.reduceSub,Array.replicate_succ,Array.replicate_zero,List.push_toArray,List.append_toArray,List.nil_append,List.cons_append];gi_wp2
 gi_loopw [3,4,5,6,7,14,21] (fun v _ _ _ _ i _ wr=>∃(k N:Nat)(pre:List (GI n₀ w0 f)),k<=f.b.length/\i=.int .i64 k/\v=.int .i64 N/\N<=17592186044416*(k+1)/\Hid (N=f.p.length+((f.b.take k).map List.length).sum)/\Hid (prj pre=kR f k 0)/\Hid (J pre wr)/\Below n₀ w0 wr)
  (fun _ _ _ _ _ i _ _=>f.b.length-(intOf i).toNat)
 case atStart=>exact⟨0,f.p.length,[],yI _,rfl,rfl,by omega,by show _=_;simp,ad,h0,hW⟩
 case round =>
  obtain⟨k,N,pre,hk,rfl,rfl,hN,H,HP,G,L⟩:=hrel;obtain⟨wo,rfl⟩:∃wo:World,wo=wr:=⟨_,rfl⟩;by_cases aj:k<f.b.length
  ·obtain⟨bb,ob,rfl,ah,r⟩:=Q (by omega);obtain⟨q,hq⟩:∃q,f.b[k]?=some q:=⟨f.b[k],by simp[aj]⟩;obtain⟨u,hu,ak⟩:=r k q hq;have av:=(L.cell (p:=⟨bb,ob+k,none⟩) ah).trans hu;obtain⟨Al,cl,rfl,p1,p2,p3⟩:=ak;have P3:=dJ p3;have K:=dJ hq
   have ac:Hid (((f.b.take (k+1)).map List.length).sum=((f.b.take k).map List.length).sum+q.length):=by show _=_;obtain⟨e1,e2⟩:=xS.1 hq;rw[yx e1,e2,List.map_append,List.sum_append];simp
   clear r Q hq hu p3;gi_wp2
   gi_loopw [3,6,7,21] (fun v _ _ i wr=>∃(j m:Nat)(pre:List (GI n₀ w0 f)),j<=q.length/\i=.int .i64 j/\v=.int .i64 m/\m<=N+j/\Hid (m=N+j)/\Hid (prj pre=kR f k j)/\Hid (J pre wr)/\Below n₀ w0 wr)
    (fun _ _ _ i _=>q.length-(intOf i).toNat)
   case atStart=>exact⟨0,N,pre,yI _,rfl,rfl,yJ _,rfl,HP,G,L⟩
   case round =>
    obtain⟨j,m,d,hj,rfl,rfl,ao,hm,C,F,g⟩:=hrel;obtain⟨wp,rfl⟩:∃wp:World,wp=wr:=⟨_,rfl⟩;by_cases S:j<q.length
    ·obtain⟨x,hx⟩:∃x,q[j]?=some x:=⟨q[j],by simp[S]⟩;obtain⟨E,ol,rfl,t,R⟩:=P3.out (by omega);obtain⟨va,vt,i0,i1,i2,i3,i4,i5,U,Y⟩:=R j x hx;have X:=U;have Z:=Y;obtain⟨aa,ca,rfl,-,-,-⟩:=U;obtain⟨ta,ct,rfl,-,-,-⟩:=Y;have j0:=(g.cell (p:=⟨E,ol+j*6,none⟩) t).trans i0;have j1:=(g.cell (p:=⟨E,ol+j*6+1,none⟩) t).trans i1;have j2:=(g.cell (p:=⟨E,ol+j*6+2,none⟩) t).trans i2;have j3:=(g.cell (p:=⟨E,ol+j*6+3,none⟩) t).trans i3;have j4:=(g.cell (p:=⟨E,ol+j*6+4,none⟩) t).trans i4;have j5:=(g.cell (p:=⟨E,ol+j*6+5,none⟩) t).trans i5;have D:m=f.p.length+((f.b.take k).map List.length).sum+j:=by rw[hm.out,H.out]
     have T:(⟨x,m,k,j⟩:It)∈zW f:=by rw[D];exact tK f k j q x K.out hx
     have HS:Hid (kR f k (j+1)=kR f k j++[⟨x,m,k,j⟩]):=by show _=_;rw[D];exact mi f k j q x K.out hx
     have hlen:d.length<(zW f).length+1:=by have h1:=vS C.out;have h2:=(gn f k j q K.out).length_le;omega
     have M:J d (wp.alloc (.cells #[.int .i64 x.op,.int .i64 x.w,.int .i64 x.g,.slice aa x.args.length ca,.int .u32 x.i,.slice ta x.to.length ct] 68)):=AbidesFrom.alloc HJ.out F.out _;obtain⟨fn,tmps,ab,an,hy,hR⟩:=HY.out d ⟨⟨⟨x,m,k,j⟩,aa,ca,ta,ct⟩,X,Z,T⟩ _ M hlen
     have z:Hid (∀y:GI n₀ w0 f,y.1.it=⟨x,m,k,j⟩->prj (d++[y])=kR f k (j+1)):=by intro y hy;rw[ft,hy,HS.out,C.out]
     have I:Hid (kR f k (j+1) <+: zW f):=gn f k (j+1) q K.out;have af:Below n₀ w0 (wp.alloc (.cells #[.int .i64 x.op,.int .i64 x.w,.int .i64 x.g,.slice aa x.args.length ca,.int .u32 x.i,.slice ta x.to.length ct] 68)):=g.alloc (by have:=g.size;omega) _;clear hx R i0 i1 i2 i3 i4 i5 hlen M D;dsimp only[ItV.enc]at hy;gi_wp2;refine hR.mono ?_;rintro e W3 (⟨rfl,ag,ai⟩|⟨rfl,O⟩)
     ·have ae:=af.trans ai;clear j0 j1 j2 j3 j4 j5;gi_wp2;go_roundw;case rel=>exact⟨j+1,m+1,_,by omega,by go_num,by go_num,by omega,by (show _=_;rw[hm.out];omega),z.out _ rfl,ag,ae⟩
      case measure=>simp[intOf];omega
     ·gi_wp2;refine yq (results_none rfl _ _ _) rfl ?_;exact⟨⟨_,rfl⟩,.inr ⟨_,by rw[z.out _ rfl];exact I.out,O⟩⟩
    ·obtain rfl:j=q.length:=by omega
     have A:Hid (prj d=kR f (k+1) 0):=by show _=_;rw[C.out];exact sR f k q K.out
     gi_wp2;go_roundw;case rel=>exact⟨k+1,m,d,by omega,by go_num,rfl,by omega,by (show _=_;rw[hm.out,H.out,ac.out];omega),A,F,g⟩
     case measure=>simp[intOf];omega
  ·obtain rfl:k=f.b.length:=by omega
   have A:Hid (prj pre=zW f):=by show _=_;rw[HP.out];exact ux f
   gi_wp2
   go_end0
   exact⟨⟨_,rfl⟩,.inl ⟨pre,A.out,G.out⟩⟩
theorem kY (f:Fn)(Ap As Ab:Option Addr)(np ns nb cp cs cb:Nat)(w:World) :
  Calls prog 62 #[.agg #[.slice Ap np cp,.int .i64 f.ret,.slice As ns cs,.slice Ab nb cb]] w fun e w' =>
   e=.returned (.func (.func 92) #[] #[.pointer (some ⟨w.heap.size,0,none⟩)])/\w'=w.alloc (.cells #[.slice Ap np cp,.int .i64 f.ret,.slice As ns cs,.slice Ab nb cb] 36):=by
 go_enter func62, ntmps62
 go_wp2;go_ret;exact⟨rfl,rfl⟩
theorem gq (n:Nat)(hn:1<=n)(Bf n₀:Nat)(f:Fn)(vp vs vb:Value)(w0 W0:World)(hf:FnAt n₀ w0 (.agg #[vp,.int .i64 f.ret,vs,vb]) f)(hn0:n₀<=w0.heap.size)(hb:Below n₀ w0 W0)(hs:f.b.length<=100000)(hBf:Bf<W0.heap.size)
  (c0:W0.cell? ⟨Bf,0,none⟩=some vp) (c3:W0.cell? ⟨Bf,3,none⟩=some vb) :
  SeqStopsK Fence.wide n prog 92 #[.pointer (some ⟨Bf,0,none⟩)] (fun x:GI n₀ w0 f=>#[x.1.enc]) (Below n₀) (fun ys=>prj ys=zW f) (fun pre=>prj pre <+: zW f) ((zW f).length+1) W0 :=
 fun l J g W d m _ q j=>uR n hn l Bf n₀ W.heap.size f vp vs vb w0 hf hs J g m q W ((d.cell (p:=⟨Bf,0,none⟩) hBf).trans c0) ((d.cell (p:=⟨Bf,3,none⟩) hBf).trans c3) (hb.trans (d.mono (Nat.le_trans hn0 hb.size))) hn0 j
end
section
open Go.RowKit
theorem Own1.lower {B':Nat}(h:Own1 B' e w v xs)(hB:B<=B'):Own1 B e w v xs:=by
 refine⟨h.1,?_⟩;rcases h.2 with h|⟨g,d,j,e,h,r⟩
 ·exact .inl h
 ·exact .inr ⟨g,d,j,e,Nat.le_trans hB h,r⟩
theorem iE (v:Value)(zs:List Int)(B:Nat)(w:World)(hz:IntsAt B w v zs)(hB:B<=w.heap.size) :
  Calls prog 100 #[v] w fun e w'=>∃A c,e=.returned (.slice A zs.length c)/\Own1 w.heap.size 3 w' (.slice A zs.length c) (zs.map (Value.int .i64))/\Gr w w':=by
 obtain⟨T,I,p,q,t⟩:=info_parts dK;have O:∀(w:World)(a:Option Addr)(n c:Nat),(binOp .eql 33 (.slice a n c) (.slice none 0 0)).run prog w=.ok (.bool a.isNone) w:=fun w a n c=>Lib.run_eql_slice_nil w _ _ a n c 0 0 underlying33;have g:=hz;obtain⟨A,c,rfl,R,S,l⟩:=hz
 cases A with
 | none =>
  have K:zs=[]:=by
   cases zs with
   | nil=>rfl
   | cons a r =>
    obtain⟨b,o,e,-⟩:=l (by simp);cases e
  subst K;clear l g
  go_enter func100, ntmps100
  go_wp2;go_ret;exact⟨none,0,rfl,Own1.nil _ _ _,yO _⟩
 | some a =>
  have C:Hid (IntsAt B (w.alloc (.cells #[] 3)) (.slice (some a) zs.length c) zs):=by obtain⟨u,D,e,M,N,Q⟩:=g;refine⟨u,D,e,M,N,fun L=>?_⟩;obtain⟨b,o,F,G,H⟩:=Q L;exact⟨b,o,F,G,fun j z J=>((yO w).alloc _).cell b (o+j) (by omega) |>.trans (H j z J)⟩
  clear l g
  go_enter func100, ntmps100
  go_wp2_with (at_builtin;refine xg underlying33 I p q t rfl rfl _ _ rfl rfl (yQ _ _ (yJ _)) C rfl (by simp;omega) (by simp) ?_;intro y E U d m _);go_ret;exact⟨y,E,by simp,by simpa using d,Gr.below ((yO _).alloc _) m (by simp)⟩
theorem oW (v:Value)(f:Fn)(w:World)(hf:FnAt w.heap.size w v f)(hs:f.b.length<=100000)(hne:Hid (∀l∈f.b,l≠[])) :
  Calls prog 97 #[v] w fun e w'=>∃u,e=.returned u/\TabAt w'.heap.size w' u (n5 f)/\Gr w w':=by
 obtain⟨vp,vs,vb,rfl,hp,ad,hb⟩:=hf;obtain⟨T,Y,rfl,au,av,ac⟩:=hp;obtain⟨U,cs,rfl,aw,ax,ae⟩:=ad;obtain⟨S,R,rfl,ao,E,F⟩:=hb;clear ac ae;obtain⟨i0,hi,az,aA,aB⟩:=info_parts dK;obtain⟨i1,hj,ai,aj,ak⟩:=info_parts iX;have D:Gr w (w.alloc (.cells #[.slice T f.p.length Y,.int .i64 f.ret,.slice U f.s.length cs,.slice S f.b.length R] 36)):=(yO _).alloc _
 go_enter func97, ntmps97
 go_wp2
 go_loopw [3,5,9] (fun s _ b wr=>∃(k:Nat)(us:List Value),k<=f.b.length/\b=.int .i64 k/\Own1 (w.heap.size+1) 33 wr s us/\Tab1 (w.heap.size+1) 3 wr us ((f.b.take k).map fun l=>(l.getLast?.map (·.to)).getD []) /\
     Gr (w.alloc (.cells #[.slice T f.p.length Y,.int .i64 f.ret,.slice U f.s.length cs,.slice S f.b.length R] 36)) wr) (fun _ _ b _=>f.b.length-(intOf b).toNat)
 case atStart=>exact⟨0,[],yI _,rfl,Own1.nil _ _ _,Tab1.nil _ _ _,yO _⟩
 case round =>
  obtain⟨k,us,hk,rfl,t,g,j⟩:=hrel;have am:wr.cell? ⟨w.heap.size,3,none⟩=some (.slice S f.b.length R):=(j.cell _ _ (by simp)).trans (by simp);by_cases ab:k<f.b.length
  ·obtain⟨bb,ob,rfl,Z,d⟩:=F (by omega);obtain⟨l,hl⟩:∃l,f.b[k]?=some l:=⟨f.b[k],by simp[ab]⟩;obtain⟨u,hu,M⟩:=d k l hl;have y:l≠[]:=hne.out l (xT hl);obtain⟨x,hx⟩:∃x,l.getLast?=some x:=⟨_,List.getLast?_eq_some_getLast y⟩;have Q:l[l.length-1]?=some x:=by rw[<-List.getLast?_eq_getElem?];exact hx
   have HS:=gZ f.b k l hl x hx;have J:0<l.length:=List.length_pos_iff.2 y;have H:Gr w wr:=D.trans j;have ay:=(H.cell _ _ Z).trans hu;have N:=M.below H;obtain⟨Al,cl,rfl,aq,ar,I⟩:=N;obtain⟨bl,ol,rfl,ap,G⟩:=I J;obtain⟨va,vt,_,_,_,_,_,ht,_,q⟩:=G _ x Q;obtain⟨m,hm⟩:∃m,m+1=l.length:=⟨l.length-1,by omega⟩;rw[show l.length-1=m by omega]at ht;have X:=dJ HS;have af:w.heap.size<wr.heap.size:=by have:=j.size;simp at this;omega
   have O:us.length=k:=by rw[g.1];simp;omega
   have al:bl<wr.heap.size:=by omega
   have HM:=dJ hm;have HU:=dJ O;have wm:(l.length:Int)-1=m:=by omega
   clear hl d hu M F hx Q HS y I G hm O;obtain⟨At,ct,rfl,ag,K,L⟩:=q;have q:IntsAt w.heap.size wr (.slice At x.to.length ct) x.to:=⟨At,ct,rfl,ag,K,L⟩;have W:=dJ (iE (.slice At x.to.length ct) x.to w.heap.size wr q (by omega));clear L q
   go_wp2_with (first|(go_at_call 100;refine W.out.mono ?_;rintro e w1 ⟨A1,c1,rfl,z,r⟩;have p:=t.gr r;have B:=g.gr r;have an:=r.size)|(at_builtin;refine wk (v:=u3) underlying25 hj ai aj ak rfl (by omega) rfl (.tmp 13) (.tmp 22) rfl rfl p rfl rfl (by rw[HU.out];omega) (by omega) ?_;intro A2 c2 w2 A E aa))
   go_goals
   go_roundw
   case rel =>
    have ah:Gr (w.alloc (.cells #[.slice T f.p.length Y,.int .i64 f.ret,.slice U f.s.length cs,.slice (some ⟨bb,ob,none⟩) f.b.length R] 36)) w2:=(j.trans r).below E (by simp);have C:=((B.snoc (z.lower (by have:=af;omega)) K).gr ((yO _).alloc (.cells #[.slice A1 x.to.length c1] 33))).grown (p.gr ((yO _).alloc (.cells #[.slice A1 x.to.length c1] 33))) (by decide) aa;exact⟨k+1,_,by omega,by go_num,by simpa using A,by rw[X.out];exact C,ah⟩
   case measure=>simp[intOf];omega
  ·obtain rfl:k=f.b.length:=by omega
   go_wp2;go_ret;rw[yv]at g;exact⟨_,rfl,g.tab t (by simp;omega),D.trans j⟩
theorem oX (v:Value)(f:Fn)(w:World)(hf:FnAt w.heap.size w v f)(hs:f.b.length<=100000)(hne:Hid (∀l∈f.b,l≠[])) :
  Calls prog 97 #[v] w fun e w'=>∃u us,e=.returned u/\Own1 (w.heap.size+1) 33 w' u us/\Tab1 (w.heap.size+1) 3 w' us (n5 f)/\Gr w w':=by
 obtain⟨vp,vs,vb,rfl,hp,ad,hb⟩:=hf;obtain⟨T,Y,rfl,au,av,ac⟩:=hp;obtain⟨U,cs,rfl,aw,ax,ae⟩:=ad;obtain⟨S,R,rfl,ao,E,F⟩:=hb;clear ac ae;obtain⟨i0,hi,az,aA,aB⟩:=info_parts dK;obtain⟨i1,hj,ai,aj,ak⟩:=info_parts iX;have D:Gr w (w.alloc (.cells #[.slice T f.p.length Y,.int .i64 f.ret,.slice U f.s.length cs,.slice S f.b.length R] 36)):=(yO _).alloc _
 go_enter func97, ntmps97
 go_wp2
 go_loopw [3,5,9] (fun s _ b wr=>∃(k:Nat)(us:List Value),k<=f.b.length/\b=.int .i64 k/\Own1 (w.heap.size+1) 33 wr s us/\Tab1 (w.heap.size+1) 3 wr us ((f.b.take k).map fun l=>(l.getLast?.map (·.to)).getD []) /\
     Gr (w.alloc (.cells #[.slice T f.p.length Y,.int .i64 f.ret,.slice U f.s.length cs,.slice S f.b.length R] 36)) wr) (fun _ _ b _=>f.b.length-(intOf b).toNat)
 case atStart=>exact⟨0,[],yI _,rfl,Own1.nil _ _ _,Tab1.nil _ _ _,yO _⟩
 case round =>
  obtain⟨k,us,hk,rfl,t,g,j⟩:=hrel;have am:wr.cell? ⟨w.heap.size,3,none⟩=some (.slice S f.b.length R):=(j.cell _ _ (by simp)).trans (by simp);by_cases ab:k<f.b.length
  ·obtain⟨bb,ob,rfl,Z,d⟩:=F (by omega);obtain⟨l,hl⟩:∃l,f.b[k]?=some l:=⟨f.b[k],by simp[ab]⟩;obtain⟨u,hu,M⟩:=d k l hl;have y:l≠[]:=hne.out l (xT hl);obtain⟨x,hx⟩:∃x,l.getLast?=some x:=⟨_,List.getLast?_eq_some_getLast y⟩;have Q:l[l.length-1]?=some x:=by rw[<-List.getLast?_eq_getElem?];exact hx
   have HS:=gZ f.b k l hl x hx;have J:0<l.length:=List.length_pos_iff.2 y;have H:Gr w wr:=D.trans j;have ay:=(H.cell _ _ Z).trans hu;have N:=M.below H;obtain⟨Al,cl,rfl,aq,ar,I⟩:=N;obtain⟨bl,ol,rfl,ap,G⟩:=I J;obtain⟨va,vt,_,_,_,_,_,ht,_,q⟩:=G _ x Q;obtain⟨m,hm⟩:∃m,m+1=l.length:=⟨l.length-1,by omega⟩;rw[show l.length-1=m by omega]at ht;have X:=dJ HS;have af:w.heap.size<wr.heap.size:=by have:=j.size;simp at this;omega
   have O:us.length=k:=by rw[g.1];simp;omega
   have al:bl<wr.heap.size:=by omega
   have HM:=dJ hm;have HU:=dJ O;have wm:(l.length:Int)-1=m:=by omega
   clear hl d hu M F hx Q HS y I G hm O;obtain⟨At,ct,rfl,ag,K,L⟩:=q;have q:IntsAt w.heap.size wr (.slice At x.to.length ct) x.to:=⟨At,ct,rfl,ag,K,L⟩;have W:=dJ (iE (.slice At x.to.length ct) x.to w.heap.size wr q (by omega));clear L q
   go_wp2_with (first|(go_at_call 100;refine W.out.mono ?_;rintro e w1 ⟨A1,c1,rfl,z,r⟩;have p:=t.gr r;have B:=g.gr r;have an:=r.size)|(at_builtin;refine wk (v:=u3) underlying25 hj ai aj ak rfl (by omega) rfl (.tmp 13) (.tmp 22) rfl rfl p rfl rfl (by rw[HU.out];omega) (by omega) ?_;intro A2 c2 w2 A E aa))
   go_goals
   go_roundw
   case rel =>
    have ah:Gr (w.alloc (.cells #[.slice T f.p.length Y,.int .i64 f.ret,.slice U f.s.length cs,.slice (some ⟨bb,ob,none⟩) f.b.length R] 36)) w2:=(j.trans r).below E (by simp);have C:=((B.snoc (z.lower (by have:=af;omega)) K).gr ((yO _).alloc (.cells #[.slice A1 x.to.length c1] 33))).grown (p.gr ((yO _).alloc (.cells #[.slice A1 x.to.length c1] 33))) (by decide) aa;exact⟨k+1,_,by omega,by go_num,by simpa using A,by rw[X.out];exact C,ah⟩
   case measure=>simp[intOf];omega
  ·obtain rfl:k=f.b.length:=by omega
   go_wp2;go_ret;rw[yv]at g;exact⟨_,us,rfl,t,g,D.trans j⟩
end
section
open Go.RowKit Go.Shelf
attribute [local go_sem] Oper.semAt_some
def Ir.Ec (f:Fn):List Int:=f.p++(zW f).map (·.ins.w)
def ItV.row (y:ItV):Array Value:=#[.int .i64 y.it.ins.op,.int .i64 y.it.ins.w,.int .i64 y.it.ins.g,.slice y.aa y.it.ins.args.length y.ca,.int .u32 y.it.ins.i,.slice y.ta y.it.ins.to.length y.ct,.int .i64 y.it.num,.int .i64 y.it.blk,.int .i64 y.it.pos]
theorem rq (v:Value)(f:Fn)(w:World)(hf:FnAt w.heap.size w v f)(hs:f.b.length<=100000)(hit:(zW f).length<=1000000)(hpl:f.p.length<=100000) :
  Calls prog 65 #[v] w fun e w'=>∃u,e=.returned u/\IntsAt w'.heap.size w' u (Ec f)/\Gr w w':=by
 obtain⟨i0,hi,ay,az,aA⟩:=info_parts dK;have an:=hf;obtain⟨vp,vs,vb,rfl,hp,au,hb⟩:=hf;have aq:=hp;obtain⟨p,q,rfl,aH,aI,-⟩:=hp;obtain⟨z,cs,rfl,-,-,-⟩:=au;obtain⟨y,A,rfl,-,-,-⟩:=hb;refine(callsIn_wide (n:=5)).1 ?_;refine callsIn_of_wp_marks func65 rfl trivial ?_ rfl;simp only[ntmps65,List.size_toArray,List.length_cons,List.length_nil,Nat.reduceAdd,Nat.reduceSub,Array.replicate_succ,Array.replicate_zero,List.push_toArray,List.append_toArray,List.nil_append,List.cons_append];obtain⟨W,hW⟩:=xJ (w.alloc (.cells #[.slice p f.p.length q,.int .i64 f.ret,.slice z f.s.length cs,.slice y f.b.length A] 36));have ab:Gr w W:=by rw[<-hW];exact(yO w).alloc _
 have aD:W.heap.size=w.heap.size+1:=by rw[<-hW];simp
 have b0:∀o,W.cell? ⟨w.heap.size,o,none⟩=(#[.slice p f.p.length q,.int .i64 f.ret,.slice z f.s.length cs,.slice y f.b.length A]:Array Value)[o]?:=by intro o;rw[<-hW];exact yo _ _ _ _ _ _ (heap_alloc_new w _)
 have B0:Hid (∀w',Gr W w'->w'.cell? ⟨w.heap.size,0,none⟩=some (.slice p f.p.length q)/\w'.cell? ⟨w.heap.size,1,none⟩=some (.int .i64 f.ret)/\w'.cell? ⟨w.heap.size,2,none⟩=some (.slice z f.s.length cs)/\w'.cell? ⟨w.heap.size,3,none⟩=some (.slice y f.b.length A)) :=
  fun w' g=>⟨(g.cell w.heap.size 0 (by omega)).trans (b0 0),(g.cell w.heap.size 1 (by omega)).trans (b0 1),(g.cell w.heap.size 2 (by omega)).trans (b0 2),(g.cell w.heap.size 3 (by omega)).trans (b0 3)⟩
 have al:=dJ (iE (.slice p f.p.length q) f.p w.heap.size W (aq.below ab) (by omega))
 have ak:Hid (∀j,Calls prog 62 #[.agg #[.slice p f.p.length q,.int .i64 f.ret,.slice z f.s.length cs,.slice y f.b.length A]] j fun e w' =>
     e=.returned (.func (.func 92) #[] #[.pointer (some ⟨j.heap.size,0,none⟩)])/\w'=j.alloc (.cells #[.slice p f.p.length q,.int .i64 f.ret,.slice z f.s.length cs,.slice y f.b.length A] 36)) :=
  fun j=>kY f p z y _ _ _ q cs A j
 obtain⟨k0,k1,k2,k3⟩:=B0.out W (yO _);clear b0
 gi_wp2_with (first|(refine⟨trivial,?_⟩;gi_at_call 100;refine(callsIn_wide.2 al.out).mono ?_;rintro e j ⟨A1,c1,rfl,R,aj⟩;obtain⟨q0,q1,q2,q3⟩:=B0.out _ (aj.alloc (.cells #[.slice A1 f.p.length c1] 33)))|(refine⟨trivial,?_⟩;gi_at_call 62;refine(callsIn_wide.2 (ak.out _)).mono ?_;rintro e w2 ⟨rfl,rfl⟩))
 obtain⟨I,t⟩:=xJ (((j.alloc (.cells #[.slice A1 f.p.length c1] 33)).alloc (.cells #[.slice p f.p.length q,.int .i64 f.ret,.slice z f.s.length cs,.slice y f.b.length A] 36)));have af:Gr w j:=ab.trans aj;have aK:I.heap.size=j.heap.size+2:=by rw[<-t];simp
 have ae:Gr w I:=by rw[<-t];exact(af.alloc _).alloc _
 have ac:Boxed I j.heap.size 33 (.slice A1 f.p.length c1):=by rw[<-t];exact(Boxed.new j _ _).alloc _
 have S:Own1 w.heap.size 3 I (.slice A1 f.p.length c1) (f.p.map (Value.int .i64)):=by rw[<-t];exact((R.lower (by omega)).gr (((yO j).alloc _).alloc _))
 have ad:∀o,I.cell? ⟨j.heap.size+1,o,none⟩=(#[.slice p f.p.length q,.int .i64 f.ret,.slice z f.s.length cs,.slice y f.b.length A]:Array Value)[o]?:=by intro o;rw[<-t];have:=heap_alloc2_new j (.cells #[.slice A1 f.p.length c1] 33) (.cells #[.slice p f.p.length q,.int .i64 f.ret,.slice z f.s.length cs,.slice y f.b.length A] 36);exact yo _ _ _ _ _ _ this
 rw[t];clear q0 q1 q2 q3 k0 k1 k2 k3;have HS:=gq (5-1) (by omega) (j.heap.size+1) w.heap.size f _ _ _ w I an (yJ _) ae hs (by omega) (ad 0) (ad 3);have am:=af.size
 refine wpIn_rangeFunc_ownH rfl (by omega) (gf:=92) (lb:=#[.pointer (some ⟨j.heap.size+1,0,none⟩)]) rfl trivial (enters_of func92 (by kernel_rfl) rfl) HS belowK_t (belowK_b (by omega)) (Below.refl _ _) (fun _=>rfl)
  (fun d m=>(∃v,Boxed m j.heap.size 33 v/\m.ownsRow w.heap.size 3 1 v ((f.p++(prj d).map (·.ins.w)).map (Value.int .i64)).length ((f.p++(prj d).map (·.ins.w)).map (Value.int .i64))/\True)/\(Below w.heap.size w m/\I.heap.size<=m.heap.size))
  (fun _ _ _=>False)
  (OwnFrom.and (Own.from (holdsRow_own w.heap.size j.heap.size 33 3 1 (fun d=>((f.p++(prj d).map (·.ins.w)).map (Value.int .i64)).length) (fun d=>((f.p++(prj d).map (·.ins.w)).map (Value.int .i64))) (fun _ _=>True)) _) (OwnFrom.and (ownFrom_below (yJ _) (by omega)) (fun _ _ _ _ h hg _=>Nat.le_trans h hg.size)))
  (fun _ _ _ _ _ hs _ _=>hs)
  ⟨⟨_,ac,by have:=S;unfold Own1 at this;simpa[prj] using this,trivial⟩,ae,yJ _⟩
  (fun x a' m=>∃F,I.heap.size<=F/\m.heap[F]?=some (.cells x.1.row 90 (0,0))/\a'={tmps:=#[.agg #[.slice p f.p.length q,.int .i64 f.ret,.slice z f.s.length cs,.slice y f.b.length A],.pointer (some ⟨w.heap.size,0,none⟩),.slice none 0 0,.pointer (some ⟨j.heap.size,0,none⟩),.pointer (some ⟨F,0,none⟩),.pointer (some ⟨w.heap.size,0,none⟩),.slice p f.p.length q,.slice A1 f.p.length c1,.agg #[.slice p f.p.length q,.int .i64 f.ret,.slice z f.s.length cs,.slice y f.b.length A],.func (.func 92) #[] #[.pointer (some ⟨j.heap.size+1,0,none⟩)],x.1.enc,undef,undef,undef,undef,undef,undef,undef],defers:=[]})
  ?hAx ?assign ?body ?done ?stop
 case hAx =>
  intro x a' s X Y row h hg H;obtain⟨F,h1,h2,h3⟩:=h;refine⟨F,h1,(hg.block F (xY.1 h2).1 (fun e=>?_)).trans h2,h3⟩;obtain⟨-,o,ho,hc⟩:=H F e.symm;rw[h2]at ho;cases ho;cases hc
 case assign =>
  rintro l d ⟨⟨⟨Z,num,blk,pos⟩,aa,ca,ta,ct⟩,C⟩ m K ⟨⟨v,hv,H,-⟩,G,U⟩ hK;simp only[ItV.enc];gi_wp2;exact hK _ _ ((KeepsOthers.alloc _ _).from _) ((Below.refl _ m).alloc G.size _) ⟨⟨v,hv.alloc _,(show Own1 _ _ _ _ _ from H).gr ((yO m).alloc _),trivial⟩,G.alloc G.size _,by simp;omega⟩ ⟨m.heap.size,U,heap_alloc_new m _,rfl⟩
 case body =>
  rintro l d ⟨⟨⟨Z,num,blk,pos⟩,aa,ca,ta,ct⟩,C⟩ a' m hl ⟨r,aJ⟩ ⟨⟨v,hv,H,-⟩,G,U⟩ ⟨F,aB,ah,rfl⟩ aG;have aw:=hv.cell;have aL:=hv.frozen;have hw:=yo m F 1 _ _ _ ah;simp only[ItV.row]at hw;have T:d.length=(prj d).length:=by simp[prj]
  obtain⟨L,hL⟩:=xJ ((f.p++(prj d).map (·.ins.w)).map (Value.int .i64));have aC:L.length<=2000000:=by rw[<-hL];simp;omega
  have HL:Hid ((f.p++(prj (d++[⟨⟨⟨Z,num,blk,pos⟩,aa,ca,ta,ct⟩,C⟩])).map (·.ins.w)).map (Value.int .i64)=L++[.int .i64 Z.w]):=by show _=_;rw[ft,<-hL];simp
  rw[hL]at H;clear hL T;gi_wp2_with (gi_at_builtin;go_loud (refine wpListIn_append_own _ rfl _ _ 33 rfl w.heap.size 3 i0 (.int .i64 0) 1 8 underlying33 hi ay az aA rfl (by decide) _ _ _ rfl (H.alloc _) ⟨m.heap.size,0,none⟩ 1 1 [.int .i64 Z.w] rfl rfl (cell_one_new _ _ _) (by simp[Value.oneCell']) (by simp only[maxLen];omega) (by omega) (by have:=G.size;simp;omega) ?_);intro v' w2 E Q _;obtain⟨g',J,rfl⟩:=ownsRow_succ E;obtain⟨ai,av,ar,ap,O⟩:=hv.appended (by decide) H G.size am E Q;have aE:=ai.cell;have aF:=ai.frozen)
  have M:(w2.setCell ⟨j.heap.size,0,none⟩ (.slice (some ⟨g',0,none⟩) (L.length+1) J)).ownsRow w.heap.size 3 1 (.slice (some ⟨g',0,none⟩) (L.length+1) J) (L++[Value.int .i64 Z.w]).length (L++[Value.int .i64 Z.w]):=by rw[show (L++[Value.int .i64 Z.w]).length=L.length+1 by simp];exact ar
  rw[<-HL.out]at M;refine⟨ap.from _,O,⟨_,av,?_⟩,G.trans O,by have:=O.size;omega⟩;simpa using M
 case done =>
  rintro D ys m hD ax ⟨⟨v,hv,H,-⟩,G,U⟩ N;have aw:=hv.cell;gi_wp2;refine⟨by simp,.inl ⟨_,_,rfl,run_takeDeferred N,?_⟩⟩;have ao:Gr w (m.putObj D (.deferred none)):=G.trans (belowK_b (w:=w) (yJ _) m D _ _ (by omega) N rfl rfl);refine⟨_,results_tmp rfl _ _ _,v,rfl,?_,ao⟩;have ag:=ownsRow_putObj H (.deferred none) N rfl;have he:f.p++(prj ys).map (·.ins.w)=Ec f:=by rw[ax];rfl
  rw[he]at ag;exact Own1.ints (B:=w.heap.size) (by unfold Own1;simpa using ag) (by unfold Ec;simp;omega)
 case stop =>
  rintro D c d m _ _ h _;exact h.elim
end
section
open Go.RowKit
theorem gH:∀(bs:List (List Ins))(n b:Nat),(BQ bs n b).length=AX bs
 | [],_,_=>rfl
 | l::r,n,b=>by rw[BQ,yK,fc,gH r,IX]
theorem lK (f:Fn):(zW f).length=AX f.b:=gH _ _ _
theorem gG:∀(bs:List (List Ins))(n b i:Nat)(it:It),(BQ bs n b)[i]?=some it ->
  DN ((n+i:Nat):Int) bs b n=((it.blk:Int),(it.pos:Int))/\b<=it.blk/\it.num=n+i/\∃l,bs[it.blk-b]?=some l/\l[it.pos]?=some it.ins
 | [],n,b,i,it,h=>by simp[BQ]at h
 | l::r,n,b,i,it,h=>by
  rw[BQ]at h
  rcases yw i l.length with d|d
  ·rw[yd (by rw[fc];exact d),jU l n b i l[i] (by simp[d])]at h
   simp only[Option.some.injEq]at h
   subst h
   refine⟨?_,yJ _,rfl,l,by simp,by simp[d]⟩
   rw[DN,yr (by omega)]
   refine Prod.ext rfl ?_
   show ((n+i:Nat):Int)-n=(i:Int)
   omega
  ·rw[ye (by rw[fc];exact d),fc]at h
   obtain⟨g,q,t,p,j,m⟩:=gG r (n+l.length) (b+1) (i-l.length) it h
   refine⟨?_,by omega,by omega,p,?_,m⟩
   ·rw[DN,yt (by omega),show ((n+i:Nat):Int)=((n+l.length+(i-l.length):Nat):Int) by omega];exact g
   ·rw[show it.blk-b=(it.blk-(b+1))+1 by omega];simpa using j
theorem ja (f:Fn)(i:Nat)(it:It)(h:(zW f)[i]?=some it) :
  BR f ((f.p.length+i:Nat):Int)=((it.blk:Int),(it.pos:Int))/\it.num=f.p.length+i/\∃l,f.b[it.blk]?=some l/\l[it.pos]?=some it.ins:=by
 obtain⟨d,p,g,l,j,m⟩:=gG f.b f.p.length 0 i it h;exact⟨d,g,l,by simpa using j,m⟩
theorem gJ (f:Fn)(it:It)(h:it∈zW f):∃l,f.b[it.blk]?=some l/\l[it.pos]?=some it.ins:=by obtain⟨i,d,e⟩:=List.getElem_of_mem h;exact(ja f i it (by rw[xR d,e])).2.2
theorem kq (f:Fn):An f=f.p.length+(zW f).length:=by rw[lK];unfold An yZ;rw[yv]
theorem pd (q:Ins->Bool)(l:List Ins)(n b:Nat):(Eb l n b).all (fun it=>q it.ins)=l.all q:=by
 have h:(Eb l n b).map (·.ins)=l:=by apply List.ext_getElem?;intro i;simp[Eb];cases l[i]?<;>simp
 have d:(Eb l n b).all (fun it=>q it.ins)=((Eb l n b).map (·.ins)).all q:=by rw[List.all_map];rfl
 rw[d,h]
theorem gF (q:Ins->Bool):∀(bs:List (List Ins))(n b:Nat),(BQ bs n b).all (fun it=>q it.ins)=bs.all fun l=>l.all q
 | [],_,_=>rfl
 | l::r,n,b=>by rw[BQ,List.all_append,pd,gF q r,List.all_cons]
theorem gI (q:Ins->Bool)(f:Fn):(zW f).all (fun it=>q it.ins)=f.b.all fun l=>l.all q:=gF q _ _ _
def Ir.Hk (ks:List Int)(v:Int):Int:=if v<0\/(ks.length:Int)<=v then -1 else ks.getD v.toNat 0
theorem rr (f:Fn):(Ec f).length=An f:=by rw[kq];simp[Ec]
theorem rv (f:Fn)(v:Int):Hk (Ec f) v=Ref.kind f v:=by
 unfold Hk Ref.kind;rw[rr];split
 ·rfl
 ·next h =>
  obtain⟨n,rfl⟩:=xZ (show 0<=v by omega);rw[ya];by_cases j:(n:Int)<f.p.length
  ·rw[yr j];unfold Ec;simp only[List.getD,yd (show n<f.p.length by omega)]
  ·rw[yt j];have t:=kq f;have q:n-f.p.length<(zW f).length:=by omega
   obtain⟨it,d⟩:∃it,(zW f)[n-f.p.length]?=some it:=⟨_,xR q⟩;obtain⟨g,r,l,m,p⟩:=ja f _ it d;rw[show f.p.length+(n-f.p.length)=n by omega]at g;rw[g];unfold Ec Ky;simp only[List.getD,ye (show f.p.length<=n by omega),yc,d,Option.map_some,Option.getD_some,ya,m,Option.bind_some,p]
def Ir.Ee (ks:List Int)(x:Ins)(k:Int):Bool:=x.args.all fun v=>decide (Hk ks v=k)
def Ir.AT (ks:List Int)(x:Ins)(i:Nat):Int:=Hk ks (x.args.getD i 0)
def Ir.DU (f:Fn)(x:Ins)(ks:List Int):Bool :=
 if ir x.op=2\/ir x.op=7\/ir x.op=8\/ir x.op=14 then Ee ks x x.w
 else if ir x.op=3 then yS (AT ks x 0) && Ee ks x (AT ks x 0)
 else if ir x.op=4 then decide (AT ks x 0=1) && decide (AT ks x 1=x.w) && decide (AT ks x 2=x.w)
 else if ir x.op=5 then yS (AT ks x 0) && decide (AT ks x 0<x.w)
 else if ir x.op=6 then yS (AT ks x 0) && decide (x.w<AT ks x 0)
 else if ir x.op=11 then decide (AT ks x 0=33) && yS (AT ks x 1)
 else if ir x.op=12 then decide (AT ks x 0=33)
 else if ir x.op=13 then decide (AT ks x 0=33) && Ea (AT ks x 1)
 else if ir x.op=16 then decide (AT ks x 0=1)
 else if ir x.op=17 then Ee ks x f.ret
 else true
theorem len0 {α:Type}{l:List α}(h:(l.length:Int)=0):l=[]:=yB (by omega)
theorem len1 {α:Type}{l:List α}(h:(l.length:Int)=1):∃a,l=[a]:=by
 match l,h with
 | [a],_=>exact⟨a,rfl⟩
theorem len2 {α:Type}{l:List α}(h:(l.length:Int)=2):∃a b,l=[a,b]:=by
 match l,h with
 | [a,b],_=>exact⟨a,b,rfl⟩
theorem len3 {α:Type}{l:List α}(h:(l.length:Int)=3):∃a b c,l=[a,b,c]:=by
 match l,h with
 | [a,b,c],_=>exact⟨a,b,c,rfl⟩
theorem qq (h:zm f x=true):(0<=(zY f x).1->(x.args.length:Int)=(zY f x).1)/\(zY f x).2.2=true:=by unfold zm Dj at h;simp only[yu]at h;obtain⟨⟨⟨j,d⟩,-⟩,-⟩:=h;refine⟨fun g=>?_,j⟩;simp only[Bool.not_eq_true',Bool.or_eq_false_iff,Bool.and_eq_false_imp,decide_eq_true_eq,decide_eq_false_iff_not]at d;have:=d.1.1 g;omega
theorem qS (f:Fn)(x:Ins)(k:Int)(hk:0<=k):Ee (Ec f) x k=(x.args.all (fun v=>decide (0<=Ref.kind f v)) && (x.args.map (Ref.kind f)).all fun z=>decide (z=k)):=by
 unfold Ee;simp only[rv]
 induction x.args with
 | nil=>rfl
 | cons a r ih =>
  simp only[List.all_cons,ih,List.map_cons];by_cases h:Ref.kind f a=k
  ·simp[h,hk]
  ·simp[h]
theorem jo (f:Fn)(x:Ins)(h:x.op<0\/32<x.op):zY f x=(0,0,false):=by
 unfold zY
 iterate 16 rw[yt (by omega)]
theorem uc (op:Int)(h:¬(op<0\/32<op)):(op=1\/op=2\/op=3\/op=4\/op=5\/op=6\/op=7\/op=8\/op=9\/op=10\/op=11\/op=12\/op=13\/op=19\/op=20\/op=21\/op=28) \/
  (op=0\/op=22\/op=23\/op=24\/op=29\/op=32)\/(op=16\/op=17\/op=18\/op=26\/op=30)\/(op=14\/op=25\/op=27)\/op=15\/op=31:=by omega
theorem uv (f:Fn)(x:Ins)(hA:zm f x=true):DU f x (Ec f)=Aj f x:=by
 obtain⟨hl,d⟩:=qq hA;clear hA;by_cases m:x.op<0\/32<x.op
 ·rw[jo f x m]at d;cases d
 have j:=fun k hk=>qS f x k hk;unfold DU Aj AE;obtain⟨op,width,flags,args,imm,to⟩:=x;dsimp only at *;rcases uc op m with h|h|h|h|h|h
 ·have q:1<=width:=by
   rcases h with h|h|h|h|h|h|h|h|h|h|h|h|h|h|h|h|h;all_goals (subst h;simp[zY,yS]at d;omega)
  have p:ir op=2\/ir op=7\/ir op=8\/ir op=14:=by rcases h with h|h|h|h|h|h|h|h|h|h|h|h|h|h|h|h|h;all_goals (subst h;decide)
  rw[yr p,j width (by omega)];simp only[show ¬op=14 by omega,show ¬op=15 by omega,show ¬(op=16\/op=17) by omega,show ¬op=18 by omega,show ¬op=25 by omega,show ¬op=26 by omega,show ¬op=27 by omega,show ¬op=30 by omega,show ¬op=31 by omega,if_false]
 ·have g:args=[]:=by
   rcases h with h|h|h|h|h|h;all_goals (subst h;simp[zY]at hl;exact hl)
  subst g;rcases h with h|h|h|h|h|h;all_goals (subst h;simp[ir])
 ·have g:∃a,args=[a]:=by
   rcases h with h|h|h|h|h;all_goals (subst h;simp[zY]at hl;exact len1 (by omega))
  obtain⟨a,rfl⟩:=g;clear j hl;rcases h with h|h|h|h|h;all_goals (subst h;simp[zY,yS]at d;simp[ir,AT,rv,yS];omega)
 ·have g:∃a b,args=[a,b]:=by
   rcases h with h|h|h;all_goals (subst h;simp[zY]at hl;exact len2 (by omega))
  obtain⟨a,b,rfl⟩:=g;clear j hl;rcases h with h|h|h;all_goals (subst h;simp[zY]at d;simp[ir,Ee,AT,rv,yS,Ea];first|omega|grind)
 ·subst h;simp[zY,yS]at hl d;obtain⟨a,b,c,rfl⟩:=len3 (by omega:(args.length:Int)=3);simp[ir,AT,rv];omega
 ·subst h;simp[zY]at hl d;by_cases l:0<f.ret
  ·simp[l]at hl;obtain⟨a,rfl⟩:=len1 (by omega:(args.length:Int)=1);simp[ir,Ee,rv];omega
  ·simp[l]at hl;subst hl;simp[ir,Ee]
theorem mX (q:Ins->Nat->Bool)(l:List Ins)(n b:Nat):(Eb l n b).all (fun it=>q it.ins it.blk)=l.all fun x=>q x b:=by
 have h:(Eb l n b).map (fun it=>(it.ins,it.blk))=l.map fun x=>(x,b):=by apply List.ext_getElem?;intro i;simp[Eb];cases l[i]?<;>simp
 have d:(Eb l n b).all (fun it=>q it.ins it.blk)=((Eb l n b).map (fun it=>(it.ins,it.blk))).all fun p=>q p.1 p.2:=by rw[List.all_map];rfl
 rw[d,h,List.all_map];rfl
def Ir.FO (g:List (List Int))(it:It):Bool:=decide (it.ins.op≠28) || decide (AC g it.blk=it.ins.to)
theorem jY (g:List (List Int)):∀(bs:List (List Ins))(n b:Nat),EU g bs b=(BQ bs n b).all (FO g)
 | [],_,_=>rfl
 | l::r,n,b=>by
  rw[BQ,List.all_append,EU,jY g r (n+l.length) (b+1)]
  have:=mX (fun x b=>decide (x.op≠28) || decide (AC g b=x.to)) l n b
  unfold FO;rw[this];congr 2;funext x;rw[Gt];congr 1;exact decide_eq_decide.2 eq_comm
def Ir.Hf (f:Fn):Bool:=f.b.all Ref.laid && (AC (n5 f) 0).isEmpty && (zW f).all (FO (n5 f))
theorem rp (f:Fn):Hf f=C7 f:=by unfold Hf C7 zW;rw[jY]
def Ir.Es (f:Fn)(g:List (List Int))(it:It):Bool:=!rb g it.blk || DF f g (Ar g (-1)) it.blk it.pos it.ins it.ins.args 0
theorem gE (f:Fn)(g:List (List Int))(inn:List Bool)(b:Nat):∀(l:List Ins)(n i:Nat),
  Ek f g inn b l i=(l.mapIdx fun j x=>(⟨x,n+j,b,i+j⟩:It)).all fun it=>DF f g inn it.blk it.pos it.ins it.ins.args 0
 | [],_,_=>rfl
 | x::r,n,i=>by
  rw[Ek,List.mapIdx_cons,List.all_cons,gE f g inn b r (n+1) (i+1)]
  congr 1
  congr 1
  apply List.ext_getElem?
  intro j
  simp only[List.getElem?_mapIdx]
  cases r[j]? with
  | none=>rfl
  | some y=>simp;omega
theorem fU (f:Fn)(g:List (List Int)):∀(bs:List (List Ins))(n b:Nat),EI f g (Ar g (-1)) bs b=(BQ bs n b).all (Es f g)
 | [],_,_=>rfl
 | l::r,n,b=>by
  rw[BQ,List.all_append,EI,fU f g r (n+l.length) (b+1)]
  congr 1
  rw[gE f g _ b l n 0]
  unfold Eb
  have d:∀it∈(l.mapIdx fun j x=>(⟨x,n+j,b,j⟩:It)),it.blk=b:=by intro it m;obtain⟨j,q,e⟩:=List.mem_mapIdx.1 m;rw[<-e]
  have p:(l.mapIdx fun j x=>(⟨x,n+j,b,0+j⟩:It))=l.mapIdx fun j x=>(⟨x,n+j,b,j⟩:It):=by simp
  rw[p];generalize (l.mapIdx fun j x=>(⟨x,n+j,b,j⟩:It))=L at d ⊢
  induction L with
  | nil=>simp
  | cons a t ih =>
   rw[List.all_cons,List.all_cons,<-ih fun it h=>d it (List.mem_cons_of_mem _ h)];unfold Es rb;rw[d a (List.mem_cons_self ..)];cases (Ar g (-1)).getD b false<;>simp
theorem sE (f:Fn):(zW f).all (Es f (n5 f))=BU f:=by unfold BU zW;rw[fU]
def Ir.DJ (f:Fn)(g:List (List Int))(v block place:Int):Bool :=
 if v<f.p.length then true else if (BR f v).1=block then decide ((BR f v).2<place) else Bz g (BR f v).1 block
theorem mW (f:Fn)(g:List (List Int))(v block place:Int)(h1:v<An f)(h2:0<=place):DJ f g v block place=Eg f g v block place:=by
 unfold DJ Eg;by_cases h:v<f.p.length
 ·rw[yr h,BR,GU v _ _ _ h,yr (by decide)]
 ·obtain⟨j,i,l,x,e,-⟩:=Gu f v (by omega) h1;rw[yt h,e,yt (show ¬(j:Int)<0 by omega)];by_cases d:(j:Int)=block
  ·simp only[d,if_true,show decide (place<0)=false by simp;omega,Bool.false_or]
  ·simp only[d,if_false]
theorem mV (f:Fn)(g:List (List Int))(v:Int)(t:Nat)(l:List Ins)(hl:f.b[t]?=some l)(h1:v<An f):DJ f g v t l.length=Eg f g v t (-1):=by
 unfold DJ Eg;by_cases h:v<f.p.length
 ·rw[yr h,BR,GU v _ _ _ h,yr (by decide)]
 ·obtain⟨j,i,q,x,e,d,m,-⟩:=Gu f v (by omega) h1;rw[yt h,e,yt (show ¬(j:Int)<0 by omega)];by_cases p:(j:Int)=t
  ·have:j=t:=by omega
   subst this;rw[hl]at d;cases d;have:=(xS.1 m).1;simp[this]
  ·simp only[p,if_false]
def ShP (f:Fn)(x:Ins)(vp vb:Value)(As Aa At:Option Addr)(cs ca ct:Nat)(w:World):Prop :=
 Calls prog 93 #[.agg #[vp,.int .i64 f.ret,.slice As f.s.length cs,vb],.agg #[.int .i64 x.op,.int .i64 x.w,.int .i64 x.g,.slice Aa x.args.length ca,.int .u32 x.i,.slice At x.to.length ct]] w fun e w' =>
   e=.returned (.tuple #[.agg #[.int .i64 (zV f x).1,.int .i64 (zV f x).2.1],.bool (zV f x).2.2])/\Gr w w'
def ShB (f:Fn)(x:Ins):Prop:=0<=x.i/\x.i<4294967296/\f.s.length<=17592186044416/\x.to.length<=17592186044416
theorem kP (hc:ir x.op=n):Hid (∀w1,Calls prog 103 #[.int .i64 x.op] w1 (RS (.int .i64 n) w1)):=fun w1=>by rw[<-hc];exact iL x.op w1
theorem kO (x:Ins):∃iw,yS x.w=iw/\Hid (∀w1,Calls prog 90 #[.int .i64 x.w] w1 (RS (.bool iw) w1)):=⟨_,rfl,fun w1=>eo x.w w1⟩
theorem eO {a b c:Obj}:Gr w (((w.alloc a).alloc b).alloc c):=(((yO w).alloc _).alloc _).alloc _
end

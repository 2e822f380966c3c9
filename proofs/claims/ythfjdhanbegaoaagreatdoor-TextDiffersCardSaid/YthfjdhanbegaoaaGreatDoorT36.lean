/- Parts. -/
import Derived.Test.YthfjdhanbegaoaaGreatDoorT35
set_option linter.unusedSimpArgs false
set_option linter.unusedVariables false
set_option maxRecDepth 100000
set_option maxHeartbeats 16000000
open Go.Proofs.Tryz
namespace Go.Proofs.YthfjdhanbegaoaaGreatDoor
section
open Go.RowKit
theorem Tx.FitF.nice {n m:Nat}{f:Fn}(h:Tx.FitF n m f)(hn:n<=100000)(hm:m<=100000):ia f:=by
 refine⟨Nat.le_trans h.blocks hn,fun l d=>Nat.le_trans (h.block l d) hn,fun l d x hx=>?_,fun l d x hx=>?_⟩
 ·have q:=h.ins l d x hx;have:=q.size;refine⟨q.imm,fun z g=>?_,by omega,by omega⟩;have:0<=z/\z<4294967296:=q.args z g;omega
 ·have:0<=x.flags/\x.flags<4294967296:=(h.ins l d x hx).flags;omega
theorem dR {w:World}{B:Nat}{row:Array Value}{e T:TypeId}(h:w.heap[B]?=some (.cells row e (0,0)))(a b c d:Value)(hT:T≠e) :
  KeptT T w ((((w.setCell ⟨B,0,none⟩ a).setCell ⟨B,1,none⟩ b).setCell ⟨B,2,none⟩ c).setCell ⟨B,3,none⟩ d):=by
 have h0:=de (i:=0) a h;have g:=de (i:=1) b h0;have j:=de (i:=2) c g;exact(((dS h hT).trans (dS h0 hT)).trans (dS g hT)).trans (dS j hT)
theorem PI.fnK {n₀:Nat}{W1 wr w9:World}{Bf:Nat}{f:Fn}{vp vs vb:Value}{us:List Value}{B1:Nat}(h:PI n₀ W1 wr Bf f vp vs vb us B1)(k1:KeptT 3 wr w9)(k2:KeptT 50 wr w9)(k3:KeptT 46 wr w9)(hs:wr.heap.size<=w9.heap.size)(hb:f.blocks.length<=100000):FnAt w9.heap.size w9 (.agg #[vp,.int .i64 f.ret,vs,vb]) f:=by
 have tp:=h.tp.kt (eQ k1 k2);have ts:=h.ts.kt (eQ k1 k2);have d:=eE h.own k3;have t:=h.last.kept k1 k2;refine⟨vp,vs,vb,rfl,tp.ints,ts.ints,?_⟩;have C:=h.last.len;have d:Own1 W1.heap.size 46 w9 vb us:=d;obtain⟨A,c,E⟩:=d.form;unfold Own1 at d;subst E
 have G:us.length<=c:=by
  rcases d.2 with ⟨e,h0⟩|⟨g,y,z,e,-,-,F,-⟩
  ·injection e with _ _ e;omega
  ·injection e with _ _ e;omega
 refine⟨A,c,by rw[C],by omega,by omega,fun H=>?_⟩;obtain⟨b,rfl,p,-,B⟩:=dr d rfl (by omega);refine⟨b,0,rfl,p,fun j l m=>?_⟩;have D:=(oZ.1 m).1;obtain⟨u,r⟩:∃u,us[j]?=some u:=⟨_,oY (by omega)⟩;refine⟨u,by rw[Nat.zero_add,B j (by omega),r],?_⟩;rcases pF (j+1) f.blocks.length with q|q
 ·exact(t.init j u l q r m).1.blk
 ·exact((t.last j u l (by omega) r m).tb (by have:=h.fit l (pa m);omega) h.le).blk
theorem kE (s:List UInt8)(hsl:s.length<=80000)(w:World)(ht:TabW w) :
  Calls prog 16 #[.string (bs s)] w fun e w'=>gL w w' (Tx.readR s) e:=by
 obtain⟨iB,bz,bq,br,bt⟩:=info_parts oq;obtain⟨iI,bA,bu,bv,bw⟩:=info_parts ou;have aJ:Hid (Tx.cutS 10 s≠[]):=dJ (Tx.cutS_ne 10 s);have F:Hid ((Tx.cutS 10 s).length<=80001):=dJ (by have:=Tx.cutS_len 10 s;omega);have ad:Hid (∀z∈Tx.cutS 10 s,z.length<=80000):=dJ fun z B=>by have:=Tx.cutS_mem 10 s z B;omega
 have HC:Hid (∀E,Calls prog 37 #[.string (bs s),.int .u8 10] E fun e w'=>∃v,e=.returned v/\Hid (WordsF E.heap.size w' v (Tx.cutS 10 s))/\Gr E w'):=fun E=>eJ 10 10 rfl s (by omega) E;have O:Hid (Tx.parseR s=Tx.linesR (Tx.cutS 10 s).tail (Tx.headR (Tx.cutS 32 ((Tx.cutS 10 s).headD [])).tail 0 Tx.fn0)):=dJ rfl;have aG:=dJ (Tx.parseR_fit s);have bj:Hid (Tx.readR s=if Ref.validate (Tx.parseR s)=0/\Tx.textS (Tx.parseR s)=s then some (Tx.parseR s) else none):=dJ rfl;obtain⟨d,aw⟩:=xJ (Tx.cutS 10 s);rw[aw]at aJ F ad HC O;have av:0<d.length:=List.length_pos_iff.2 aJ.out;have B:=oY av;obtain⟨z0,C⟩:=xJ (d[0]);rw[C]at B;have bo:=dJ B
 have aX:d.headD []=z0:=by
  cases d with
  | nil=>simp at av
  | cons q r=>simpa using C
 rw[aX]at O;have HH:Hid (∀E,Calls prog 38 #[.string (bs z0)] E fun e w'=>od E w' (Tx.headR (Tx.cutS 32 z0).tail 0 Tx.fn0) e):=dJ fun E=>jM z0 (by have:=ad.out z0 (pa B);omega) E
 have N:Hid ((Tx.headR (Tx.cutS 32 z0).tail 0 Tx.fn0).blocks=[]/\(Tx.headR (Tx.cutS 32 z0).tail 0 Tx.fn0).params.length<=90001/\(Tx.headR (Tx.cutS 32 z0).tail 0 Tx.fn0).slots.length<=90001):=dJ (by
   have h1:=Tx.headR_len (Tx.cutS 32 z0).tail 0 Tx.fn0
   have h2:=Tx.cutS_len 32 z0
   have h3:=ad.out z0 (pa B)
   have h4:Tx.fn0.params.length=0/\Tx.fn0.slots.length=0:=⟨rfl,rfl⟩
   rw[List.length_tail]at h1
   exact⟨by rw[Tx.headR_blocks];rfl,by omega,by omega⟩)
 obtain⟨p,aT⟩:=xJ (Tx.headR (Tx.cutS 32 z0).tail 0 Tx.fn0);rw[aT]at HH N O;have HT:=dJ ht
 obtain⟨W,hW,HG,HR⟩:∃W,w.alloc (.cells #[dy,.int .i64 0,dy,dy] 25)=W/\Hid (Gr w W)/\Hid (W.heap.size=w.heap.size+1/\W.heap[w.heap.size]?=some (.cells #[dy,.int .i64 0,dy,dy] 25 (0,0))) :=
  ⟨_,rfl,dJ ((qj w).alloc _),dJ ⟨by simp,heap_alloc_new w _⟩⟩
 clear aw B C aX aT ht
 go_enter func16, ntmps16
 go_wp2_with (first|(go_at_call 37;refine(HC.out _).mono ?_;rintro e E ⟨v,rfl,ar,g1⟩;have G1:=dJ (HG.out.trans g1);have aP:Hid (W.heap.size<=E.heap.size):=dJ g1.size;have be:=dJ g1;clear g1;obtain⟨A,c,hv,bI,-,-⟩:=id ar.out;subst hv;obtain⟨b,bC,hA,-,hb,ai⟩:=ar.out.get bo.out;subst hA;rw[Nat.add_zero]at ai)|(go_at_call 38;refine(HH.out _).mono ?_;rintro e M ⟨A0,c0,A2,c2,rfl,aZ,a0,g2⟩;have bh:=dJ aZ;have bi:=dJ a0;have G2:=dJ (G1.out.trans g2);have aO:=dJ (ar.out.gr g2);have al:=dJ g2;clear aZ a0 g2 ai hb))
 obtain⟨W1,X⟩:=xJ (M.alloc (.cells #[.slice A0 p.params.length c0,.int .i64 p.ret,.slice A2 p.slots.length c2,dy] 25));rw[X];have ag:Gr M W1:=by rw[<-X];exact(qj _).alloc _
 have a7:W1.heap.size=M.heap.size+1:=by rw[<-X];simp
 have Y:W1.heap[M.heap.size]?=some (.cells #[.slice A0 p.params.length c0,.int .i64 p.ret,.slice A2 p.slots.length c2,dy] 25 (0,0)):=by rw[<-X];exact heap_alloc_new _ _
 have az:w.heap.size<E.heap.size/\E.heap.size<=M.heap.size:=by have:=aP.out;have:=HR.out.1;have:=al.out.size;omega
 have U:=dJ az;have V:=dJ a7;have an:=dJ ag;have a3:=((bh.out.ti (by have:=N.out;omega)).lower (n₀:=w.heap.size) (by omega)).gr ag;have a4:=((bi.out.ti (by have:=N.out;omega)).lower (n₀:=w.heap.size) (by omega)).gr ag;have aB:Hid (PI w.heap.size W1 W1 M.heap.size p (.slice A0 p.params.length c0) (.slice A2 p.slots.length c2) dy [] W1.heap.size):=dJ (PI.mk0 Y a3 a4 (by omega) N.out.1);have aH:Hid (Tx.parseR s=Tx.linesR (d.drop 1) p):=dJ (by rw[O.out,List.drop_one]);obtain⟨t,-,-⟩:=N.out;have aE:=dJ t;clear X ag a7 Y az a3 a4 t
 go_loopw [6,7,8] (fun s6 _ _ wr=>∃(k:Nat)(f:Fn)(vp vs:Value)(L:Option Addr)(D:Nat)(us:List Value)(B1:Nat),1<=k/\k<=d.length/\s6=.int .i64 k/\f.blocks.length<k/\Hid ((∀l∈f.blocks,l.length<k)/\(∃a n c,vp=.slice a n c)/\∃a n c,vs=.slice a n c)/\Hid (Tx.parseR s=Tx.linesR (d.drop k) f)/\Hid (PI w.heap.size W1 wr M.heap.size f vp vs (.slice L f.blocks.length D) us B1)) (fun i _ _ _=>d.length-(intOf i).toNat)
 case atStart =>
  have e:p.blocks.length=0:=by rw[aE.out];rfl
  exact⟨1,p,_,_,none,0,[],W1.heap.size,pS _,av,rfl,by omega,dJ ⟨by rw[aE.out];intro l Z;(cases Z),⟨_,_,_,rfl⟩,⟨_,_,_,rfl⟩⟩,aH,dJ (by rw[e];exact aB.out)⟩
 case round =>
  clear aB aH;obtain⟨k,f,vp,vs,L,D,us,B1,bK,bL,rfl,bJ,HK,HI,j⟩:=hrel;have Y:=j.out.box;obtain⟨k0,k1,k2,k3⟩:=crw4 Y 0 1 2 3;have bm:Hid (WordsF W.heap.size wr (.slice (some ⟨b,bC,none⟩) d.length c) d):=dJ (aO.out.same (by have:=j.out.fr.size;have:=V.out;omega) fun k q1 q2=>(j.out.fr.block k (by have:=V.out;omega) (by omega)).trans (an.out.heap k q2));have aw:=F.out;clear Y;by_cases ax:k<d.length
  ·have B:=oY ax;obtain⟨z,C⟩:=xJ (d[k]);rw[C]at B;obtain⟨b9,bF,au,-,bH,ai⟩:=bm.out.get B;injection au with au;injection au with e1 e2 _;subst e1;subst e2;have bb:=ad.out z (pa B)
   have hd:d.drop k=z::d.drop (k+1):=by rw[po ax,C]
   have HZ:Hid (Tx.parseR s=if z=[] then Tx.linesR (d.drop (k+1)) f else if z.getLast?=some 58 then Tx.linesR (d.drop (k+1)) ⟨f.params,f.ret,f.slots,f.blocks++[[]]⟩ else if f.blocks=[] then Tx.linesR (d.drop (k+1)) f else Tx.linesR (d.drop (k+1)) ⟨f.params,f.ret,f.slots,Tx.addLast f.blocks (Tx.instR (Tx.cutS 32 z))⟩):=dJ (by rw[HI.out,hd];rfl);have z1:(k:Int)<(d.length:Int):=by omega
   have ao:Hid (∀w3,Calls prog 39 #[.string (bs z)] w3 fun e w'=>oj w3 w' (Tx.instR (Tx.cutS 32 z)) e):=dJ fun w3=>ml z (by omega) w3;obtain⟨u,hu⟩:=xJ (bs z);have HU:=dJ hu;rw[hu]at ai ao;have aa:u.size=z.length:=by rw[<-hu,dv]
   clear B C hd hu HI;by_cases h0:z=[]
   ·have G:Hid (Tx.parseR s=Tx.linesR (d.drop (k+1)) f):=dJ (by rw[HZ.out,pB h0]);have az:u.size=0:=by rw[aa,h0];rfl
    clear HZ h0 aa bb;go_wp2;go_roundw;case rel=>exact⟨k+1,f,vp,vs,L,D,us,B1,by omega,by omega,by go_num,by omega,dJ ⟨fun l Z=>by have:=HK.out.1 l Z;omega,HK.out.2⟩,G,j⟩
    case measure=>simp[intOf]<;>omega
   ·have G:Hid (Tx.parseR s=if z.getLast?=some 58 then Tx.linesR (d.drop (k+1)) ⟨f.params,f.ret,f.slots,f.blocks++[[]]⟩ else if f.blocks=[] then Tx.linesR (d.drop (k+1)) f else Tx.linesR (d.drop (k+1)) ⟨f.params,f.ret,f.slots,Tx.addLast f.blocks (Tx.instR (Tx.cutS 32 z))⟩):=dJ (by rw[HZ.out,pC h0]);obtain⟨q,hq⟩:∃q,u.size=q+1:=⟨u.size-1,by have:=List.length_pos_iff.2 h0;omega⟩;have a5:q<u.size:=by omega
    have bO:q<=80000:=by omega
    have aI:=dJ (lV HU.out hq a5 58);have bP:(0:Int)<=(q:Int):=by omega
    clear HZ h0 aa bb;by_cases I:z.getLast?=some 58
    ·have H:Hid (Tx.parseR s=Tx.linesR (d.drop (k+1)) ⟨f.params,f.ret,f.slots,f.blocks++[[]]⟩):=dJ (by rw[G.out,pB I]);have c1:((u[q].toNat:Int) == 58)=true:=aI.out.trans (by simpa using I);have y3:=pz _ _ 3 _ _ j.out.box;have bg:=dJ j.out.last.len;clear G I;go_wp2_with (at_builtin;refine nN (n:=f.blocks.length) (v:=.slice L f.blocks.length D) underlying23 bz bq br bt rfl (by omega) rfl (.tmp 39) (.tmp 40) rfl bg.out rfl j.out.own rfl rfl (by omega) j.out.fr.size ?_;intro A5 c5 w5 a1 aU aS;have HP:=dJ (j.out.open (qj wr) a1 aU);have y0:=px _ _ 3 _ _ _ HP.out.1;have y1:=pz _ _ 3 _ _ HP.out.1;clear a1 aU aS);go_roundw
     case rel=>exact⟨k+1,⟨f.params,f.ret,f.slots,f.blocks++[[]]⟩,vp,vs,A5,c5,us++[dy],w5.heap.size,by omega,by omega,by go_num,by simp only[pT,List.length_singleton];omega,dJ ⟨fun l Z=>by
       rcases pI.1 Z with Z|Z
       · have:=HK.out.1 l Z;omega
       · rw[List.mem_singleton.1 Z];simp,HK.out.2⟩,H,dJ (by simp only[pT,List.length_singleton];exact HP.out.2)⟩
     case measure=>simp[intOf]<;>omega
    ·have c1:((u[q].toNat:Int) == 58)=false:=aI.out.trans (by simpa using I);have H:Hid (Tx.parseR s=if f.blocks=[] then Tx.linesR (d.drop (k+1)) f else Tx.linesR (d.drop (k+1)) ⟨f.params,f.ret,f.slots,Tx.addLast f.blocks (Tx.instR (Tx.cutS 32 z))⟩):=dJ (by rw[G.out,pC I]);clear G I;by_cases J:f.blocks=[]
     ·have af:Hid (Tx.parseR s=Tx.linesR (d.drop (k+1)) f):=dJ (by rw[H.out,pB J]);have bB:(f.blocks.length:Int)=0:=by rw[J];rfl
      have bE:decide ((0:Int)<(f.blocks.length:Int))=false:=by simp;omega
      clear H J;go_wp2;go_roundw;case rel=>exact⟨k+1,f,vp,vs,L,D,us,B1,by omega,by omega,by go_num,by omega,dJ ⟨fun l Z=>by have:=HK.out.1 l Z;omega,HK.out.2⟩,af,j⟩
      case measure=>simp[intOf]<;>omega
     ·have af:Hid (Tx.parseR s=Tx.linesR (d.drop (k+1)) ⟨f.params,f.ret,f.slots,Tx.addLast f.blocks (Tx.instR (Tx.cutS 32 z))⟩):=dJ (by rw[H.out,pC J]);obtain⟨n,hn⟩:∃n,f.blocks.length=n+1:=⟨f.blocks.length-1,by have:=List.length_pos_iff.2 J;omega⟩;obtain⟨g,Au,cu,l,bp,ah,a9,bx,aW⟩:=j.out.get hn;subst bp;obtain⟨x,hx⟩:=xJ (Tx.instR (Tx.cutS 32 z));rw[hx]at ao af;have F:=dJ (HK.out.1 l (pa ah));have HA:Hid (Tx.addLast f.blocks x=f.blocks.set n (l++[x])):=dJ (pX hn ah x);have aD:Hid (PI w.heap.size W1 wr M.heap.size f vp vs (.slice (some ⟨g,0,none⟩) (n+1) D) us B1):=dJ (by have:=j.out;rwa [hn]at this);have aN:=dJ a9;have aC:=dJ ah;have ae:=dJ hn;have mixed:(prog).follows .mixedOrders=true:=by kernel_rfl
      obtain⟨m,hm⟩:∃m,m=n+1:=⟨_,rfl⟩;rw[hn,<-hm]at k3;have HM:=dJ hm;have bQ:((0:Int)<(m:Int)):=by omega
      have bR:((n:Int)<(m:Int)):=by omega
      have bS:((m:Int)-1)=(n:Int):=by omega
      have bN:n<=100000:=by omega
      have bB:l.length<=100000:=by have:=F.out;omega
      have bM:m<=100001:=by omega
      clear H J hn ah a9 hx hm;have aA:Hid ((Tx.addLast f.blocks x).length=m):=dJ (by rw[HA.out,List.length_set,ae.out,HM.out])
      have bd:Hid (∀q∈Tx.addLast f.blocks x,q.length<k+1):=dJ fun q hq=>by
       rw[HA.out]at hq;rcases List.mem_or_eq_of_mem_set hq with hq|rfl
       ·have:=HK.out.1 q hq;omega
       ·have:=F.out;rw[pT,List.length_singleton];omega
      clear HA;go_wp2
      go_region_law_o (first|(refine jc (n:=l.length) (v:=.slice Au l.length cu) underlying46 bA bu bv bw rfl (by omega) rfl (.tmp 59) (.tmp 65) rfl rfl aM.out (by intro y hy;simp at hy;rcases hy with rfl|rfl|rfl|rfl|rfl|rfl<;>rfl) rfl (by omega) ab.out.b2 ?_;intro A8 c8 w8 a2 aV;have HP:=dJ (PI.add aD.out ae.out aN.out aC.out (by have:=F.out;omega) G9.out aM.out H6.out a2 aV bc.out bk.out);have x0:=HP.out.1.1;have x1:=HP.out.1.2.1;have x2:=px _ _ 3 _ _ _ HP.out.1.2.2;simp only[<-HM.out]at x2;clear a2 aV)|(refine dY rfl (f:=39) (args:=#[.string u]) (by simp[go_sem,Act.eval,Act.put]) ((ao.out _).mono ?_);rintro e9 w9 ⟨A3,c3,A9,c9,rfl,aR,a8,g9⟩;have G9:=dJ ((qj wr).drew.trans g9);have ab:=dJ (aD.out.gr G9.out);have bc:=dJ (aR.lower (n₀:=w.heap.size) (Nat.le_trans (by have:=j.out.fr.size;have:=U.out;have:=V.out;omega) (qj wr).drew.size));have bk:=dJ (a8.lower (n₀:=w.heap.size) (Nat.le_trans (by have:=j.out.fr.size;have:=U.out;have:=V.out;omega) (qj wr).drew.size));obtain⟨bG,a6,aQ⟩:=ab.out.last.last n _ l ae.out.symm aN.out aC.out;have aM:=dJ a6;have H6:=dJ aQ;have q3:=px _ _ 3 _ _ _ ab.out.box;have Q3:=fun o=>px (w9.alloc o) _ 3 _ _ _ (ab.out.gr ((qj _).alloc o)).box;simp only[<-HM.out]at q3 Q3;have qg:=(G9.out.cell _ _ aW).trans bx;have Qg:=fun o=>(((qj w9).alloc o).cell g n (Nat.lt_of_lt_of_le aW G9.out.size)).trans qg;clear aR a8 g9 a6 aQ;refine⟨_,rfl,?_⟩;unfold ef))
      all_goals go_wp2
      all_goals have aL:=HP.out.2
      all_goals rw[<-HM.out,<-aA.out]at aL
      all_goals exact⟨⟨k+1,⟨f.params,f.ret,f.slots,Tx.addLast f.blocks x⟩,vp,vs,some ⟨g,0,none⟩,D,us.set n _,B1,by omega,by omega,by go_num,by show (Tx.addLast f.blocks x).length<_;rw[aA.out];have:=ae.out;have:=HM.out;omega,dJ ⟨bd.out,HK.out.2⟩,af,dJ aL⟩,by simp[intOf]<;>omega⟩
  ·have aY:k=d.length:=by omega
   have hd:decide (k<d.length)=false:=by simpa using ax
   have HF:Hid (Tx.parseR s=f):=dJ (by rw[HI.out,aY,List.drop_length];rfl);have HN:Hid (ia f):=dJ (by have:=aG.out;rw[HF.out]at this;exact this.nice (by omega) (by omega));have bf:Hid (Tx.Im f):=dJ (by have:=aG.out;rw[HF.out]at this;exact this.im);have am:Hid (Gr w wr):=dJ (gN (G2.out.trans an.out) j.out.fr (by rintro k rfl;have:=U.out;omega));have ay:=(j.out.fr.block w.heap.size (by have:=U.out;have:=V.out;omega) (by have:=U.out;omega)).trans (((aP.out |> fun _=>be.out.trans (al.out.trans an.out)).heap _ (by have:=HR.out.1;omega)).trans HR.out.2);have ba:w.heap.size<wr.heap.size:=dh ay;have T:Hid (∀w9,Gr wr w9->w9.heap[w.heap.size]?=some (.cells #[dy,.int .i64 0,dy,dy] 25 (0,0))):=dJ fun w9 g=>(g.heap _ ba).trans ay;obtain⟨v,hv⟩:=xJ (Ref.validate f);have bl:=dJ hv;obtain⟨⟨Ap,np,cp,rfl⟩,⟨As,ns,cs,rfl⟩⟩:=HK.out.2;obtain⟨fb,t⟩:=xJ f.blocks.length;have bD:fb<=100000:=by omega
   have aF:Hid (FnAt wr.heap.size wr (.agg #[.slice Ap np cp,.int .i64 f.ret,.slice As ns cs,.slice L fb D]) f):=dJ (by have:=j.out.fn (by omega);rwa [t]at this);rw[t]at k3;have ak:=dJ t;have HV:Hid (Calls prog 30 #[.agg #[.slice Ap np cp,.int .i64 f.ret,.slice As ns cs,.slice L fb D]] wr (RG (.int .i64 v) wr)):=dJ (by rw[<-hv];exact gA _ f wr aF.out HN.out);have R:Hid (Tx.readR s=if v=0/\Tx.textS f=s then some f else none):=dJ (by rw[bj.out,HF.out,hv])
   have KB:∀(w9:World),Gr wr w9->(w9.cell? ⟨M.heap.size,0,none⟩=some (.slice Ap np cp)/\w9.cell? ⟨M.heap.size,1,none⟩=some (.int .i64 f.ret)/\w9.cell? ⟨M.heap.size,2,none⟩=some (.slice As ns cs)/\w9.cell? ⟨M.heap.size,3,none⟩=some (.slice L fb D)):=fun w9 g =>
    ⟨(g.cell _ _ (dh j.out.box)).trans k0,(g.cell _ _ (dh j.out.box)).trans k1,(g.cell _ _ (dh j.out.box)).trans k2,(g.cell _ _ (dh j.out.box)).trans k3⟩
   have ac:=dJ KB
   have ap:Hid (∀w9,Gr wr w9->(w9.cell? ⟨w.heap.size,0,none⟩=some dy/\w9.cell? ⟨w.heap.size,1,none⟩=some (.int .i64 0)/\w9.cell? ⟨w.heap.size,2,none⟩=some dy/\w9.cell? ⟨w.heap.size,3,none⟩=some dy)/\(w9.frozen? ⟨w.heap.size,0,none⟩=false/\w9.frozen? ⟨w.heap.size,1,none⟩=false/\w9.frozen? ⟨w.heap.size,2,none⟩=false/\w9.frozen? ⟨w.heap.size,3,none⟩=false)):=dJ fun w9 g =>
    have q:=T.out w9 g
    ⟨⟨px _ _ 0 _ _ _ q,px _ _ 1 _ _ _ q,px _ _ 2 _ _ _ q,px _ _ 3 _ _ _ q⟩,⟨pz _ _ 0 _ _ q,pz _ _ 1 _ _ q,pz _ _ 2 _ _ q,pz _ _ 3 _ _ q⟩⟩
   have aK:Hid (∀(w9:World),Gr wr w9->Tx.readR s=none->gL w ((((w9.setCell ⟨w.heap.size,0,none⟩ dy).setCell ⟨w.heap.size,1,none⟩ (.int .i64 0)).setCell ⟨w.heap.size,2,none⟩ dy).setCell ⟨w.heap.size,3,none⟩ dy) (Tx.readR s) (.returned (.tuple #[.agg #[dy,.int .i64 0,dy,dy],.int .i64 2]))):=dJ fun w9 g e=>by
    rw[e];refine⟨_,rfl,nH _ _,?_⟩
    iterate 4 refine Gr.setCell ?_ (by show w.heap.size<=w.heap.size;omega) _
    exact am.out.trans g
   have bn:Hid (∀(w9:World),Gr wr w9->Tx.readR s=some f->gL w ((((w9.setCell ⟨w.heap.size,0,none⟩ (.slice Ap np cp)).setCell ⟨w.heap.size,1,none⟩ (.int .i64 f.ret)).setCell ⟨w.heap.size,2,none⟩ (.slice As ns cs)).setCell ⟨w.heap.size,3,none⟩ (.slice L fb D)) (Tx.readR s) (.returned (.tuple #[.agg #[.slice Ap np cp,.int .i64 f.ret,.slice As ns cs,.slice L fb D],.int .i64 0]))):=dJ fun w9 g e=>by
    rw[e];refine⟨_,rfl,?_,?_⟩
    ·have hq:=T.out w9 g;obtain⟨h0,e0⟩:=xJ (w9.setCell ⟨w.heap.size,0,none⟩ (.slice Ap np cp));have q:=(j.out.gr g).fnK (w9:=(((w9.setCell ⟨w.heap.size,0,none⟩ (.slice Ap np cp)).setCell ⟨w.heap.size,1,none⟩ (.int .i64 f.ret)).setCell ⟨w.heap.size,2,none⟩ (.slice As ns cs)).setCell ⟨w.heap.size,3,none⟩ (.slice L fb D)) (dR hq _ _ _ _ (by decide)) (dR hq _ _ _ _ (by decide)) (dR hq _ _ _ _ (by decide)) (by simp) (by have:=ak.out;omega);rw[ak.out]at q;exact q
    ·iterate 4 refine Gr.setCell ?_ (by show w.heap.size<=w.heap.size;omega) _
     exact am.out.trans g
   clear ay aY t hv ba O HC HH KB;by_cases aj:v=0
   ·have aq:Hid (∀w9,Gr wr w9->Calls prog 31 #[.agg #[.slice Ap np cp,.int .i64 f.ret,.slice As ns cs,.slice L fb D]] w9 (RG (.string (bs (Tx.textS f))) w9)):=dJ fun w9 g=>ja _ f w9 (aF.out.gr g) (by rw[bl.out,aj]) bf.out (HT.out.gr (am.out.trans g));obtain⟨z,B⟩:=xJ (Tx.textS f);rw[B]at aq R;subst aj;clear B;by_cases K:z=s
    ·have Q:Hid (Tx.readR s=some f):=dJ (by rw[R.out,pB ⟨rfl,K⟩]);have e1:=dZ K;clear K
     go_wp2_with (first|(go_at_call 30;refine(HV.out).mono ?_;rintro e w3 ⟨rfl,g3⟩;have G3:=dJ g3;obtain⟨q0,q1,q2,q3⟩:=ac.out w3 g3;clear g3)|(go_at_call 31;refine(aq.out _ G3.out).mono ?_;rintro e w4 ⟨rfl,g4⟩;have G4:=dJ (G3.out.trans g4);obtain⟨p0,p1,p2,p3⟩:=ac.out w4 G4.out;obtain⟨⟨r0,r1,r2,r3⟩,⟨p,f1,f2,f3⟩⟩:=ap.out w4 G4.out;clear g4))
     refine pA (dH _ _ 2 3 _ w.heap.size _ _ _ _ _ _ rfl rfl rfl (dw (T.out _ G4.out) _ _ _ _) ⟨_,_,_,rfl⟩ ⟨_,rfl⟩ ⟨_,_,_,rfl⟩ ⟨_,_,_,rfl⟩) rfl ?_;exact bn.out _ G4.out Q.out
    ·have Q:Hid (Tx.readR s=none):=dJ (by rw[R.out,pC fun q=>K q.2]);have e1:=eW K;clear K
     go_wp2_with (first|(go_at_call 30;refine(HV.out).mono ?_;rintro e w3 ⟨rfl,g3⟩;have G3:=dJ g3;obtain⟨q0,q1,q2,q3⟩:=ac.out w3 g3;clear g3)|(go_at_call 31;refine(aq.out _ G3.out).mono ?_;rintro e w4 ⟨rfl,g4⟩;have G4:=dJ (G3.out.trans g4);obtain⟨p0,p1,p2,p3⟩:=ac.out w4 G4.out;obtain⟨⟨r0,r1,r2,r3⟩,⟨p,f1,f2,f3⟩⟩:=ap.out w4 G4.out;clear g4))
     refine pA (dH _ _ 2 3 _ w.heap.size _ _ _ _ _ _ rfl rfl rfl (dw (T.out _ G4.out) _ _ _ _) ⟨_,_,_,rfl⟩ ⟨_,rfl⟩ ⟨_,_,_,rfl⟩ ⟨_,_,_,rfl⟩) rfl ?_;exact aK.out _ G4.out Q.out
   ·have Q:Hid (Tx.readR s=none):=dJ (by rw[R.out,pC fun q=>aj q.1]);have e1:(v == 0)=false:=by simpa using aj
    clear R;go_wp2_with (go_at_call 30;refine(HV.out).mono ?_;rintro e w3 ⟨rfl,g3⟩;have G3:=dJ g3;obtain⟨⟨r0,r1,r2,r3⟩,⟨p,f1,f2,f3⟩⟩:=ap.out w3 g3;clear g3);refine pA (dH _ _ 2 3 _ w.heap.size _ _ _ _ _ _ rfl rfl rfl (dw (T.out _ G3.out) _ _ _ _) ⟨_,_,_,rfl⟩ ⟨_,rfl⟩ ⟨_,_,_,rfl⟩ ⟨_,_,_,rfl⟩) rfl ?_;exact aK.out _ G3.out Q.out
def WordsX (R:Nat)(w:World)(v:Value)(ws:List (List UInt8)):Prop :=
 ∃A cap,v=.slice A ws.length cap/\ws.length<=cap/\ws.length<=100000/\(0<ws.length->∃b off,A=some ⟨b,off,none⟩/\b≠R/\b<w.heap.size/\∀j l,ws[j]?=some l->w.cell? ⟨b,off+j,none⟩=some (.string (bs l)))
section
variable {R:Nat}{w w':World}{v:Value}{ws:List (List UInt8)}{A:Option Addr}{n c k:Nat}{wr:Bool}
theorem WordsX.words (h:WordsX R w v ws):WordsIn w v ws:=by obtain⟨A,d,rfl,j,r,l⟩:=h;refine⟨A,d,rfl,j,by omega,fun q=>?_⟩;obtain⟨b,g,e,-,p,m⟩:=l q;exact⟨b,g,e,p,m⟩
theorem WordsX.of {n₀:Nat}(h:WordsF n₀ w v ws)(hR:w.heap.size<=R):WordsX R w v ws:=by obtain⟨A,d,rfl,j,l,m⟩:=h;refine⟨A,d,rfl,j,l,fun r=>?_⟩;obtain⟨b,g,e,-,p,q⟩:=m r;exact⟨b,g,e,by omega,p,q⟩
theorem WordsX.fr (h:WordsX R w v ws)(g:FrS (fun k=>k=R) w w'):WordsX R w' v ws:=by obtain⟨A,d,rfl,r,t,u⟩:=h;refine⟨A,d,rfl,r,t,fun B=>?_⟩;obtain⟨b,m,e,q,p,y⟩:=u B;exact⟨b,m,e,q,Nat.lt_of_lt_of_le p g.size,fun j l z=>(eL (g.block b p q) _).trans (y j l z)⟩
theorem WordsX.get (h:WordsX R w (.slice A n c) ws){k:Nat}{z:List UInt8}(hk:ws[k]?=some z):∃b off,A=some ⟨b,off,none⟩/\b≠R/\b<w.heap.size/\w.cell? ⟨b,off+k,none⟩=some (.string (bs z)):=by obtain⟨t,d,e,B,C,l⟩:=h;injection e with j u y;subst j;have p:=(oZ.1 hk).1;obtain⟨b,off,g,q,r,m⟩:=l (by omega);exact⟨b,off,g,q,r,m k z hk⟩
theorem WordsX.drop (h:WordsX R w (.slice A n c) ws){k:Nat}(hk:k<=ws.length):WordsX R w (.slice (dl A k c) (n-k) (c-k)) (ws.drop k):=by
 obtain⟨D,q,e,E,F,g⟩:=h;injection e with r t u;subst r;subst u;subst t;refine⟨_,_,by rw[List.length_drop],by rw[List.length_drop];omega,by rw[List.length_drop];omega,fun y=>?_⟩;rw[List.length_drop]at y;have z:0<ws.length:=by omega
 obtain⟨b,d,rfl,B,C,m⟩:=g z;refine⟨b,d+k,?_,B,C,fun j l p=>?_⟩
 ·unfold dl;rw[pC (show ¬c=k by clear g m;omega)];simp[fV]
 ·rw[List.getElem?_drop]at p;have:=m (k+j) l p;rw[show d+k+j=d+(k+j) by omega];exact this
theorem WordsX.take (h:WordsX R w (.slice A n c) ws){k:Nat}(hk:k<=ws.length):WordsX R w (.slice A k k) (ws.take k):=by
 obtain⟨C,m,e,D,E,t⟩:=h;injection e with p q r;subst p;subst r;subst q;have y:(ws.take k).length=k:=by rw[List.length_take];omega
 refine⟨_,_,by rw[y],by omega,by omega,fun F=>?_⟩;obtain⟨b,g,rfl,z,B,u⟩:=t (by omega);refine⟨b,g,rfl,z,B,fun j l d=>?_⟩;rw[pn]at d;split at d
 ·exact u j l d
 ·cases d
theorem nr (w:World)(A:Option Addr)(n c k:Nat)(hk:k<=c):(Instr.slice 58 (.slice A n c) none (some (.int .i64 (k:Int))) (some (.int .i64 (k:Int)))).run prog w=.ok (.slice A k k) w:=by
 have g:(prog).underlying 58=some (.slice ((prog).elem 58)):=by kernel_rfl
 have j:∀w:World,(sizeOf ((prog).elem 58)).run prog w=.ok 1 w:=fun w=>by kernel_rfl
 rw[run_slice_hm w 58 A n c g .i64 .i64 (k:Int) (k:Int) (by omega) (by omega) (by omega),j];have d:∀a:Addr,a.add 0=a:=fun a=>by obtain⟨b,o,f⟩:=a;rfl
 cases A with
 | none=>simp only[Result.andThen,sliced,pj,Nat.sub_zero,Nat.zero_mul,Option.map_none,ite_self]
 | some a=>simp only[Result.andThen,sliced,pj,Nat.sub_zero,Nat.zero_mul,Option.map_some,d,ite_self]
def RdV (w:World)(R:Nat)(left:Value)(ws:List (List UInt8))(wr:Bool):Prop :=
 w.heap[R]?=some (.cells #[left,.bool wr] 91 (0,0))/\WordsX R w left ws
def RdAt (w:World)(R:Nat)(ws:List (List UInt8))(wr:Bool):Prop:=∃left,RdV w R left ws wr
abbrev FrR (R:Nat)(w w':World):Prop:=FrS (fun k=>k=R) w w'
theorem FrR.set (p:Nat)(u:Value)(h:FrR R w w'):FrR R w (w'.setCell ⟨R,p,none⟩ u):=FrS.setCell h rfl u
theorem RdV.gr {left:Value}(h:RdV w R left ws wr)(g:Gr w w'):RdV w' R left ws wr:=⟨(g.heap _ (dh h.1)).trans h.1,h.2.fr (pU g)⟩
theorem RdV.mv {left:Value}{b:Bool}(h:RdV w R left ws wr)(g:FrR R w w')(hb:w'.heap[R]?=some (.cells #[left,.bool b] 91 (0,0))):RdV w' R left ws b:=⟨hb,h.2.fr g⟩
theorem RdV.setW {left:Value}(h:RdV w R left ws wr)(b:Bool):RdV (w.setCell ⟨R,1,none⟩ (.bool b)) R left ws b:=⟨de (i:=1) (.bool b) h.1,h.2.fr (FrR.set _ _ (FrS.refl _ w))⟩
theorem RdV.setL {left left':Value}(h:RdV w R left ws wr){ws':List (List UInt8)}(h':WordsX R w left' ws'):RdV (w.setCell ⟨R,0,none⟩ left') R left' ws' wr :=
 ⟨de (i:=0) left' h.1,h'.fr (FrR.set _ _ (FrS.refl _ w))⟩
structure RI (w₀ w:World)(R:Nat)(left:Value)(ws:List (List UInt8))(b:Bool):Prop where
 box:w.heap[R]?=some (.cells #[left,.bool b] 91 (0,0))
 words:WordsX R w₀ left ws
 fr:FrR R w₀ w
section
variable {w₀:World}{left left':Value}{b b':Bool}
theorem RI.rd (h:RI w₀ w R left ws b):RdV w R left ws b:=⟨h.box,h.words.fr h.fr⟩
theorem RI.num (h:RI w₀ w R left ws b)(hr:RdV w' R left ws b')(g:FrR R w w'):RI w₀ w' R left ws b':=⟨hr.1,h.words,FrS.trans h.fr g⟩
theorem RI.next (h:RI w₀ w R left ws b)(hq:∀w₀,WordsX R w₀ left ws->WordsX R w₀ left' ws.tail)(hb:w'.heap[R]?=some (.cells #[left',.bool b] 91 (0,0)))(g:FrR R w w'):RI w₀ w' R left' ws.tail b :=
 ⟨hb,hq _ h.words,FrS.trans h.fr g⟩
theorem RI.gr (h:RI w₀ w R left ws b)(g:Gr w w'):RI w₀ w' R left ws b:=⟨(g.heap _ (dh h.box)).trans h.box,h.words,FrS.trans h.fr (pU g)⟩
theorem RI.mv (h:RI w₀ w R left ws b)(hb:w'.heap[R]?=w.heap[R]?)(g:FrR R w₀ w'):RI w₀ w' R left ws b:=⟨hb.trans h.box,h.words,g⟩
theorem RI.set (h:RI w₀ w R left ws b){X i:Nat}(hX:w₀.heap.size<=X)(hR:R≠X)(u:Value):RI w₀ (w.setCell ⟨X,i,none⟩ u) R left ws b :=
 ⟨(Below.heap_setCell _ _ _ _ (by show R≠X;exact hR)).trans h.box,h.words,pV (S:=fun k=>k=R\/k=X) (FrS.setCell (h.fr.mono fun k q=>.inl q) (p:=⟨X,i,none⟩) (.inr rfl) u) fun k hk q=>q.elim id fun q=>by omega⟩
theorem RI.setW (h:RI w₀ w R left ws b)(b':Bool):RI w₀ (w.setCell ⟨R,1,none⟩ (.bool b')) R left ws b':=⟨de (i:=1) (.bool b') h.box,h.words,FrR.set _ _ h.fr⟩
theorem RI.setL (h:RI w₀ w R left ws b){ws':List (List UInt8)}(h':WordsX R w₀ left' ws'):RI w₀ (w.setCell ⟨R,0,none⟩ left') R left' ws' b:=⟨de (i:=0) left' h.box,h',FrR.set _ _ h.fr⟩
end
theorem RdAt.gr (h:RdAt w R ws wr)(g:Gr w w'):RdAt w' R ws wr:=h.elim fun l q=>⟨l,q.gr g⟩
theorem RdAt.lt (h:RdAt w R ws wr):R<w.heap.size:=h.elim fun l q=>dh q.1
end
theorem pY (e:List UInt8):∀ws:List (List UInt8),Tx.untilS e ws=(ws.take (ws.idxOf e),ws.drop (ws.idxOf e+1))
 | []=>by simp[Tx.untilS]
 | a::r=>by
  rw[Tx.untilS,List.idxOf_cons]
  by_cases h:a=e
  ·subst h;simp
  ·have d:(a == e)=false:=by simpa using h
   rw[pC h,pY e r,d];simp
theorem fA (R:Nat)(left:Value)(ws:List (List UInt8))(wr:Bool)(w:World)(h:RdV w R left ws wr) :
  Calls prog 64 #[.pointer (some ⟨R,0,none⟩)] w fun e w'=>e=.returned (.string (bs (ws.headD [])))/\(∃left',Hid (∀w₀,WordsX R w₀ left ws->WordsX R w₀ left' ws.tail)/\Hid (w'.heap[R]?=some (.cells #[left',.bool wr] 91 (0,0))))/\FrR R w w':=by
 cases ws with
 | nil =>
  obtain⟨d,j⟩:=id h;obtain⟨A,c,rfl,-⟩:=j;have u:=dJ d;rw[List.length_nil]at d;have F:=px _ _ 0 _ _ _ d;clear h d
  go_enter func64, ntmps64
  go_wp2;go_ret;exact⟨rfl,⟨_,dJ fun _ q=>q,u⟩,FrS.refl _ _⟩
 | cons z r =>
  obtain⟨d,j⟩:=id h;obtain⟨A,c,rfl,t,C,-⟩:=id j;have u:=dJ d;obtain⟨n,m⟩:=xJ ((z::r).length);have D:0<n:=by rw[<-m];simp
  have G:=dJ m;rw[m]at d j C t ⊢;obtain⟨b,g,rfl,-,-,E⟩:=j.get (k:=0) rfl;rw[Nat.add_zero]at E;have F:=px _ _ 0 _ _ _ d;have H:=pz _ _ 0 _ _ d;have I:((n:Int) == 0)=false:=by simp;omega
  have J:(0:Int)<(n:Int):=by omega
  have hd:∀w:World,(Instr.slice 58 (.slice (some ⟨b,g,none⟩) n c) (some (.int .i64 1)) none none).run prog w=.ok (.slice (dl (some ⟨b,g,none⟩) 1 c) (n-1) (c-1)) w:=fun w=>fD w _ n c 1 (by omega);have y:Hid (∀w₀,WordsX R w₀ (.slice (some ⟨b,g,none⟩) n c) (z::r)->WordsX R w₀ (.slice (dl (some ⟨b,g,none⟩) 1 c) (n-1) (c-1)) r):=dJ fun w₀ q=>q.drop (k:=1) (by simp);have p:=dJ d;obtain⟨B,l⟩:=xJ (dl (some ⟨b,g,none⟩) 1 c);rw[l]at hd y;clear h d j l m
  go_enter func64, ntmps64
  go_wp2;go_ret;exact⟨rfl,⟨_,y,dJ (de (i:=0) (.slice B (n-1) (c-1)) p.out)⟩,FrR.set _ _ (FrS.refl _ w)⟩
theorem er (R:Nat)(left:Value)(ws:List (List UInt8))(wr:Bool)(s:List UInt8)(hs:s.length<=90000)(w:World)(ht:TabW w)(h:RdV w R left ws wr) :
  Calls prog 108 #[.pointer (some ⟨R,0,none⟩),.string (bs s)] w fun e w'=>e=.returned (.int .u32 (Tx.numP s).1)/\RdV w' R left ws (wr || (Tx.numP s).2)/\FrR R w w':=by
 have u:=dJ h;have d:=dJ (ox s hs w ht);have l:=Tx.numP_ok s;obtain⟨z,t⟩:=xJ ((Tx.numP s).1);obtain⟨q,y⟩:=xJ ((Tx.numP s).2);rw[t]at l;have z0:0<=z:=l.1;have D:z<4294967296:=l.2;rw[t,y]at d ⊢;clear h l t y ht
 cases q with
 | false =>
  have m:Hid (Calls prog 135 #[.string (bs s),.int .i64 10,.int .i64 32] w fun e w'=>e=.returned (.tuple #[.int .u64 z,.nilIface])/\Gr w w'):=dJ (d.out.mono fun e w' ⟨q,g⟩=>by
    rcases q.out with ⟨_,q⟩|⟨q,_⟩
    · exact⟨q,g⟩
    · cases q)
  clear d
  go_enter func108, ntmps108
  go_wp2_with (go_at_call 135;refine(m.out).mono ?_;rintro e A ⟨rfl,g1⟩);go_ret;exact⟨rfl,by rw[Bool.or_false];exact u.out.gr g1,pU g1⟩
 | true =>
  have m:Hid (Calls prog 135 #[.string (bs s),.int .i64 10,.int .i64 32] w fun e w'=>(∃tp p,e=.returned (.tuple #[.int .u64 z,.iface tp p]))/\Gr w w'):=dJ (d.out.mono fun e w' ⟨q,g⟩=>by
    rcases q.out with ⟨q,_⟩|⟨_,q⟩
    · cases q
    · exact⟨q,g⟩)
  clear d
  go_enter func108, ntmps108
  go_wp2_with (go_at_call 135;refine(m.out).mono ?_;rintro e A ⟨⟨tp,p,rfl⟩,g1⟩;have j:=dJ (u.out.gr g1);have r:=j.out.1;have B:=pz _ _ 1 _ _ r;have C:=px _ _ 1 _ _ _ r;clear r);go_ret;exact⟨rfl,by rw[Bool.or_true];exact j.out.setW true,FrR.set _ _ (pU g1)⟩
theorem ix (nm:List UInt8)(w:World):Calls prog 19 #[.string (bs nm)] w (RG (.tuple #[.int .i64 (Tx.opOf nm).1,.int .i64 (ew nm)]) w):=by
 have A:Hid (WordsIn (w.alloc (.cells eh 9)) (.slice (some ⟨w.heap.size,0,none⟩) 33 33) Tx.names):=dJ (by
   refine⟨_,33,rfl,by decide,by decide,fun _=>⟨w.heap.size,0,rfl,by simp,fun j l hj=>?_⟩⟩
   have d:j<33:=(oZ.1 hj).1
   rw[Nat.zero_add,dK d w,pb,hj]
   rfl)
 have m:=dJ (iP _ Tx.names nm _ A.out);have B:Hid (Tx.names.length=33):=dJ rfl
 have z:Hid ((Tx.idxI Tx.names nm<0/\(Tx.opOf nm).1=0/\ew nm=4)\/(0<=Tx.idxI Tx.names nm/\(Tx.opOf nm).1=Tx.idxI Tx.names nm/\ew nm=0)):=dJ (by
   have h:=lY nm
   rw[iv]at h
   unfold Tx.idxI
   split at h
   · next q=>rw[pB q];injection h with g p;right;exact⟨by omega,by rw[<-g,Nat.zero_add],p.symm⟩
   · next q=>rw[pC q];injection h with g p;left;exact⟨by decide,g.symm,p.symm⟩)
 obtain⟨i,u⟩:=xJ (Tx.idxI Tx.names nm);obtain⟨a,r⟩:=xJ ((Tx.opOf nm).1);obtain⟨b,t⟩:=xJ (ew nm);rw[u,r,t]at z;rw[u]at m;rw[r,t];have d:=fun q=>dK (n:=0) q w;clear u r t d;rcases z.out with ⟨g,rfl,rfl⟩|⟨g,rfl,rfl⟩
 ·go_enter func19, ntmps19
  go_wp2_with (first|(go_at_call 40;refine(eC _).mono ?_;rintro e y ⟨rfl,rfl⟩)|(go_at_call 42;refine(m.out).mono ?_;rintro e y ⟨rfl,rfl⟩))
  go_ret2;exact⟨rfl,(qj w).alloc _⟩
 ·go_enter func19, ntmps19
  go_wp2_with (first|(go_at_call 40;refine(eC _).mono ?_;rintro e y ⟨rfl,rfl⟩)|(go_at_call 42;refine(m.out).mono ?_;rintro e y ⟨rfl,rfl⟩))
  go_ret2;exact⟨rfl,(qj w).alloc _⟩
theorem gY (R:Nat)(ws:List (List UInt8))(wr:Bool)(x:List UInt8)(w:World)(h:RdAt w R ws wr)(hl:ws.length<=90001) :
  Calls prog 66 #[.pointer (some ⟨R,0,none⟩),.string (bs x)] w fun e w'=>∃A c,e=.returned (.slice A (Tx.untilS x ws).1.length c)/\Hid (WordsX R w' (.slice A (Tx.untilS x ws).1.length c) (Tx.untilS x ws).1)/\Hid (RdAt w' R (Tx.untilS x ws).2 wr)/\FrR R w w':=by
 obtain⟨left,B,z⟩:=h;obtain⟨A,c,rfl,D,-⟩:=id z;have g:Hid (RdV w R _ _ wr):=dJ ⟨B,z⟩;have t:=dJ (iP _ ws x w z.words);have L:=dJ (pY x ws);rw[L.out];have E:=List.idxOf_le_length (a:=x) (l:=ws);obtain⟨k,j⟩:=xJ (ws.idxOf x);have u:Hid (Tx.idxI ws x=if k<ws.length then (k:Int) else -1):=dJ (by unfold Tx.idxI;rw[j]);rw[j]at E ⊢;have K:=dJ (z.take E);have C:Hid ((ws.take k).length=k):=dJ (by rw[List.length_take];omega);rw[C.out];have T:=px _ _ 0 _ _ _ B;have V:=pz _ _ 0 _ _ B;obtain⟨n,I⟩:=xJ ws.length;have r:=dJ I;rw[I]at E D hl T u t;have mixed:(prog).follows .mixedOrders=true:=by kernel_rfl
 have Q:∀w:World,(Instr.slice 58 (.slice A n c) none (some (.int .i64 (k:Int))) (some (.int .i64 (k:Int)))).run prog w=.ok (.slice A k k) w:=fun w=>nr w A n c k (by omega);clear B z j I L;by_cases p:k<n
 ·have y:Tx.idxI ws x=(k:Int):=by rw[u.out,pB p]
  rw[y]at t;obtain⟨m,G⟩:∃m,m=k+1:=⟨_,rfl⟩;have J:IntKind.i64.wrap (m:Int)=(m:Int):=IntKind.wrap_i64 _ |>.trans (by omega);have H:min (m:Int) (n:Int)=(m:Int):=by omega
  have N:(k:Int)+1=(m:Int):=by omega
  have O:(m:Int)<=(n:Int):=by omega
  have hd:∀w:World,(Instr.slice 58 (.slice A n c) (some (.int .i64 (m:Int))) none none).run prog w=.ok (.slice (dl A m c) (n-m) (c-m)) w:=fun w=>fD w _ n c m (by omega);have q:Hid (WordsX R w (.slice (dl A m c) (n-m) (c-m)) (ws.drop (k+1))):=dJ (by have:=g.out.2.drop (k:=k+1) (by rw[r.out];omega);rw[r.out,<-G]at this;rw[<-G];exact this);obtain⟨M,d⟩:=xJ (dl A m c);rw[d]at hd q;clear d y G u
  go_enter func66, ntmps66
  go_wp2_with (go_at_call 42;refine(t.out).mono ?_;rintro e U ⟨rfl,rfl⟩)
  go_region_law_o (fail)
  all_goals go_wp2
  all_goals go_ret
  all_goals exact⟨_,_,rfl,dJ (K.out.fr (FrR.set _ _ (FrS.drew (FrS.refl _ w)))),dJ ⟨_,((g.out.gr (qj w).drew).setL (q.out.fr (FrS.drew (FrS.refl _ w))))⟩,FrR.set _ _ (FrS.drew (FrS.refl _ w))⟩
 ·have y:Tx.idxI ws x=-1:=by rw[u.out,pC p]
  rw[y]at t;have F:k=n:=by omega
  subst F;have J:IntKind.i64.wrap ((k:Int)+1)=(k:Int)+1:=IntKind.wrap_i64 _ |>.trans (by omega);have H:min ((k:Int)+1) (k:Int)=(k:Int):=by omega
  have hd:∀w:World,(Instr.slice 58 (.slice A k c) (some (.int .i64 (k:Int))) none none).run prog w=.ok (.slice (dl A k c) (k-k) (c-k)) w:=fun w=>fD w _ k c k (pS _)
  have q:Hid (WordsX R w (.slice (dl A k c) (k-k) (c-k)) (ws.drop (k+1))):=dJ (by
    have:=g.out.2.drop (k:=k) (by rw[r.out];omega)
    rw[r.out]at this
    rw[pt (by have:=r.out;omega)]
    rw[pt (by have:=r.out;omega)]at this
    exact this)
  obtain⟨M,d⟩:=xJ (dl A k c);rw[d]at hd q;rw[Nat.sub_self]at q;clear d y u p
  go_enter func66, ntmps66
  go_wp2_with (go_at_call 42;refine(t.out).mono ?_;rintro e U ⟨rfl,rfl⟩)
  go_region_law_o (fail)
  all_goals go_wp2
  all_goals go_ret
  all_goals exact⟨_,_,rfl,dJ (K.out.fr (FrR.set _ _ (FrS.drew (FrS.refl _ w)))),dJ ⟨_,((g.out.gr (qj w).drew).setL (q.out.fr (FrS.drew (FrS.refl _ w))))⟩,FrR.set _ _ (FrS.drew (FrS.refl _ w))⟩
theorem pZ {l:List (List UInt8)}{k:Nat}{z:List UInt8}(h:l[k]?=some z):Tx.wrongs (l.take (k+1))=(Tx.wrongs (l.take k) || (Tx.numP z).2):=by unfold Tx.wrongs;rw[List.take_add_one,h,List.any_append];simp
theorem Tx.numsP_take {l:List (List UInt8)}{k:Nat}{z:List UInt8}(h:l[k]?=some z):Tx.numsP (l.take (k+1))=Tx.numsP (l.take k)++[(Tx.numP z).1]:=by unfold Tx.numsP;rw[List.take_add_one,h,List.map_append];simp
theorem eU (R:Nat)(left:Value)(ws:List (List UInt8))(bw:Bool)(v:Value)(l:List (List UInt8))(w:World)(ht:∀w',FrR R w w'->TabW w')(h:RdV w R left ws bw)(hv:WordsX R w v l)(hl:∀z∈l,z.length<=90000) :
  Calls prog 65 #[.pointer (some ⟨R,0,none⟩),v] w fun e w'=>∃A c,e=.returned (.slice A l.length c)/\Hid (Own1 w.heap.size 3 w' (.slice A l.length c) (dF (Tx.numsP l)))/\Hid (RdV w' R left ws (bw || Tx.wrongs l))/\FrR R w w':=by
 obtain⟨i0,hi,Z,aa,ab⟩:=info_parts lL;obtain⟨A,c,rfl,U,W,-⟩:=id hv;have HT:=dJ ht;have O:=dJ h;have HV:=dJ hv;have HL:=dJ hl;obtain⟨n,X⟩:=xJ l.length;rw[X]at U W HV ⊢;have I:=dJ X;clear ht h hv hl X
 go_enter func65, ntmps65
 go_wp2
 go_loopw [5,10] (fun s5 s10 wr=>∃(k:Nat)(G:Option Addr)(J:Nat),k<=n/\s10=.int .i64 k/\s5=.slice G k J/\Hid (Own1 w.heap.size 3 wr (.slice G k J) (dF (Tx.numsP (l.take k))))/\Hid (FrR R w wr)/\Hid (RdV wr R left ws (bw || Tx.wrongs (l.take k)))) (fun _ i _=>n-(intOf i).toNat)
 case atStart=>exact⟨0,none,0,pR _,rfl,rfl,dJ (Own1.nil _ _ _),dJ (FrS.refl _ _),dJ (by rw[List.take_zero,show Tx.wrongs []=false from rfl,Bool.or_false];exact O.out)⟩
 case round =>
  obtain⟨k,G,J,hk,rfl,rfl,r,H,g⟩:=hrel;by_cases u:k<n
  ·have D:=oY (l:=l) (i:=k) (by rw[I.out];exact u);obtain⟨z,E⟩:=xJ (l[k]'(by rw[I.out];exact u));rw[E]at D;obtain⟨b,ad,rfl,-,hb,ac⟩:=(HV.out.fr H.out).get D;have HZ:=dJ D
   have p:Hid (∀F,wr=F->Calls prog 108 #[.pointer (some ⟨R,0,none⟩),.string (bs z)] F fun e w'=>e=.returned (.int .u32 (Tx.numP z).1)/\RdV w' R left ws ((bw || Tx.wrongs (l.take k)) || (Tx.numP z).2)/\FrR R F w'):=dJ fun F e=>by subst e;exact er R left ws _ z (HL.out z (pa D)) _ (HT.out _ H.out) g.out
   have K:=Tx.numP_ok z;obtain⟨y,Y⟩:=xJ ((Tx.numP z).1);rw[Y]at p K;have HY:=dJ Y;have y0:0<=y:=K.1;have y1:y<4294967296:=K.2;have M:Hid ((dF (Tx.numsP (l.take k))).length=k):=dJ (by rw[dM];unfold Tx.numsP;rw[pv,List.length_take,I.out];omega);clear D E K Y
   go_wp2_with (first|(go_at_call 108;refine(p.out _ rfl).mono ?_;rintro e F ⟨rfl,C,g1⟩;have Q:=dJ C;have G1:=dJ (FrS.trans H.out g1);have d:=dJ (el r.out fun q e=>g1.block q (dE r.out e).2.1 (by have:=(dE r.out e).1;have:=dh O.out.1;show ¬q=R;omega));clear C g1)|(at_builtin;refine nN (n:=k) (v:=.slice G k J) underlying22 hi Z aa ab rfl (by omega) rfl (.tmp 14) (.tmp 19) rfl M.out rfl d.out rfl rfl (by omega) G1.out.size ?_;intro A8 c8 w8 B j t;have N:=dJ B;have m:=dJ (FrS.grown (FrS.alloc G1.out _) j fun q e=>.inr (dE d.out e).1);have L:=dJ (dC (T:=91) d.out j (by decide));clear B j t))
   go_roundw;case rel=>exact⟨k+1,A8,c8,by omega,by go_num,rfl,dJ (by rw[Tx.numsP_take HZ.out,HY.out];unfold dF at *;rw[List.map_append];exact N.out),m,dJ (by rw[pZ HZ.out,<-Bool.or_assoc];exact O.out.mv m.out (L.out _ _ Q.out.1))⟩
   case measure=>simp[intOf]<;>omega
  ·have V:k=n:=by omega
   subst V;have e1:l.take k=l:=pq (by rw[I.out];exact pS _);rw[e1]at r g;clear e1;go_wp2;go_ret;exact⟨_,_,rfl,r,g,H.out⟩
end

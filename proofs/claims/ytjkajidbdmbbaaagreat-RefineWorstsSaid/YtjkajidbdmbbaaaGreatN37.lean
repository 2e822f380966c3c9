import Derived.Test.YtjkajidbdmbbaaaGreatN36
set_option linter.unusedSimpArgs false
set_option linter.unusedVariables false
set_option maxRecDepth 100000
set_option maxHeartbeats 16000000
open Go.Proofs.Tryz
namespace Go.Proofs.YtjkajidbdmbbaaaGreat
open Ref Rn Wd Ir Rf
variable {a:Act}{cur:Array Value}{c:Cfg}{Q:Exit->Act->World->Prop}{f:Fn}{x:Ins}{frm n z:Int}{mem:List (List Int)}{p ws zs:List Int}{l:List Oper}{vms vms' xs:List Value}{B Bg b id j k r u u':Nat}{D D' S:Nat->Prop}{tmp:Obj}{A:Option Addr}{P:Program}{e:TypeId}{om' v v' vp vw:Value}{W w w' w2 w9:World}
section
open Go.RowKit
theorem kI {n c:Nat}(h:Own1 B e w (.slice A n c) xs)(hk:k<=xs.length):Own1 B e w (.slice A k c) (xs.take k):=by
 obtain⟨D,r⟩:=h;have hl:(xs.take k).length=k:=by rw[List.length_take];omega
 refine⟨by omega,?_⟩;rcases r with ⟨hv,C⟩|⟨g,p,d,hv,t,u,E,y,z,m⟩
 ·injection hv with j q l;subst j;subst l;exact .inl ⟨by rw[show k=0 by omega],by rw[hl];omega⟩
 ·injection hv with j q l;subst j;subst l;refine .inr ⟨g,c,d,by rw[hl],t,u,by rw[hl];omega,y,z,?_⟩;rw[Nat.mul_one]at m;have e:xs.take k=(d.toList.take xs.length).take k:=by rw[m]
  rw[hl,Nat.mul_one,e,List.take_take,Nat.min_eq_left hk]
theorem rL {n c:Nat}(h:Own1 B e w (.slice (some ⟨b,0,none⟩) n c) xs)(hj:j<xs.length)(y:Value):Own1 B e (w.setCell ⟨b,j,none⟩ y) (.slice (some ⟨b,0,none⟩) n c) (xs.set j y):=by
 obtain⟨F,u⟩:=h;refine⟨by rw[List.length_set];omega,?_⟩;rcases u with ⟨hv,E⟩|⟨g,q,d,hv,z,A,G,C,D,p⟩
 ·cases hv
 ·injection hv with l r t;have m:b=g:=by injection l with l;injection l
  subst m;subst t;refine .inr ⟨b,c,d.setIfInBounds j y,by rw[List.length_set,<-r],z,cX y A,by rw[List.length_set];omega,C,by simpa using D,?_⟩;rw[Nat.mul_one]at p;have e:xs.set j y=(d.toList.take xs.length).set j y:=by rw[p]
  rw[List.length_set,Nat.mul_one,Array.toList_setIfInBounds,e,List.take_set]
namespace Rn
theorem KL (p:List Int)(k:Nat)(h:k<p.length):(p.set k (p.getD k 0+1)).take (k+1)=FM p k:=by
 unfold FM;rw[List.take_set,List.take_add_one,xR h];have e:(p.take k).length=k:=by rw[List.length_take];omega
 rw[List.set_append];rw[yt (by omega),e,Nat.sub_self];rfl
end Rn
theorem oT (h:ExAt B Bg w p ws u vp vw)(hl:ws.length=p.length)(hp:p.length<=1000000)(hw:∀z∈ws,zi z)(hr:∀z∈p,0<=z/\z<4294967296)
  {R:Option Nat} (hR:DG p ws p.length=R) :
  Calls prog 84 #[.pointer (some ⟨Bg,0,none⟩)] w fun e w'=>e=.returned (.bool R.isSome)/\FrS (exO Bg vp vw) w w' /\
   (R=none->ExAt B Bg w' p ws 0 vp vw)/\∀k,R=some k->∃vp' vw',ExAt B Bg w' (FM p k) (ws.take (k+1)) 0 vp' vw'/\∀k,exO Bg vp' vw' k->exO Bg vp vw k:=by
 have ao:=h.pth.form;obtain⟨A,c,rfl⟩:=ao;have ar:=h.wid.form;obtain⟨A',D,rfl⟩:=ar;rw[yl]at h;rw[yl]at h;rw[yl,yl];have f2:w.frozen? ⟨Bg,2,none⟩=false:=yp _ _ 2 _ _ h.st;have g2:w.cell? ⟨Bg,2,none⟩=some (.int .i64 u):=yo _ _ 2 _ _ _ h.st;obtain⟨W,hW⟩:=xJ (w.setCell ⟨Bg,2,none⟩ (.int .i64 0));have hF:FrS (fun k=>k=Bg) w W:=by rw[<-hW];exact(FrS.refl (fun k=>k=Bg) w).setCell (p:=⟨Bg,2,none⟩) rfl _
 have h0:ExAt B Bg W p ws 0 (.slice A p.length c) (.slice A' ws.length D):=by rw[<-hW];exact h.used 0
 have c0:W.cell? ⟨Bg,0,none⟩=some (.slice A p.length c):=yo _ _ 0 _ _ _ h0.st;have c1:W.cell? ⟨Bg,1,none⟩=some (.slice A' p.length D):=by rw[<-hl];exact yo _ _ 1 _ _ _ h0.st
 have l:=dJ h0;have HF:=dJ hF;have HL:=dJ hl;have ac:=dJ hw;have ab:=dJ hr;have HR:=dJ hR;clear h h0 hF hl hw hr hR
 go_enter func84, ntmps84
 go_wp2
 go_loop [3] (fun s3=>∃(n:Nat)(z:Int),n<=p.length/\z+1=n/\s3=.int .i64 z/\Hid (DG p ws n=R)) (fun s3=>(intOf s3+1).toNat)
 case atStart=>exact⟨p.length,(p.length:Int)-1,yJ _,by omega,rfl,HR⟩
 case round =>
  obtain⟨n,z,hn,hz,rfl,t⟩:=hrel;rcases Nat.eq_zero_or_pos n with rfl|aB
  ·obtain rfl:z=-1:=by omega
   have H:Hid (R=none):=by show _=_;rw[<-t.out];rfl
   clear t;go_wp2;go_ret;refine⟨cZ (by rw[H.out];rfl),HF.out.mono fun k d=>.inl d,fun _=>l.out,fun k d=>by rw[H.out]at d;cases d⟩
  ·obtain⟨j,rfl⟩:∃j,n=j+1:=⟨n-1,by omega⟩;obtain rfl:z=(j:Int):=by omega
   clear hz;obtain⟨x,M⟩:∃x,p[j]?=some x:=⟨_,xR (by omega)⟩;obtain⟨y,hy⟩:∃y,ws[j]?=some y:=⟨_,xR (by have:=HL.out;omega)⟩;obtain⟨b,cc,ev,q1,-,q3,q4,q5⟩:=fs l.out.pth (j:=j) (x:=.int .u32 x) (by rw[yc,M];rfl);injection ev with af ag ah;clear ag;subst af;subst ah;obtain⟨r,aC,ae,aa,-,aF,aG,aH⟩:=fs l.out.wid (j:=j) (x:=.int .i64 y) (by rw[yc,hy];rfl);injection ae with Q S T;clear S;subst Q;subst T;rw[yl]at q1 aa;have L:=ac.out y (xT hy);obtain⟨x0,x1⟩:=ab.out x (xT M);have CM:=dJ (lf y W L);have aq:=C4 L;have ap:=BC y;have X:j<p.length:=by omega
   have ai:b≠Bg:=by obtain⟨-,-,ad,q⟩:=di l.out.pth (k:=b) rfl;exact de q l.out.st (by decide)
   have aD:b≠r:=by obtain⟨-,-,ad,q⟩:=di l.out.pth (k:=b) rfl;obtain⟨-,-,O,q'⟩:=di l.out.wid (k:=r) rfl;exact de q q' (by decide)
   have E:DG p ws (j+1)=if x+1<m9 y then some j else DG p ws j:=by rw[DG,xU,M,xU,hy];rfl
   have J:=dJ E;have aj:=HL.out;have aE:p.length<=D:=by omega
   have gx:p.getD j 0=x:=by rw[xU,M];rfl
   obtain⟨m,Z⟩:=xJ (m9 y);rw[Z]at CM aq ap J;have HY:=dJ hy;have HX:=dJ M;have HG:=dJ gx;clear M hy L E Z gx aj aa;by_cases Y:x+1<m
   ·have H:Hid (R=some j):=by show _=_;rw[<-t.out,J.out,yr Y]
    have au:x<m-1:=by omega
    have f0:W.frozen? ⟨Bg,0,none⟩=false:=yp _ _ 0 _ _ l.out.st;have f1:W.frozen? ⟨Bg,1,none⟩=false:=yp _ _ 1 _ _ l.out.st;obtain⟨C,U⟩:=xJ (W.setCell ⟨b,j,none⟩ (.int .u32 (x+1)));have G:FrS (fun k=>k=b) W C:=by rw[<-U];exact(FrS.refl (fun k=>k=b) W).setCell (p:=⟨b,j,none⟩) rfl _
    have g:C.heap[Bg]?=some (.cells #[.slice (some ⟨b,0,none⟩) p.length c,.slice (some ⟨r,0,none⟩) ws.length D,.int .i64 (0:Nat)] 101 (0,0)):=(G.block Bg (cY l.out.st) (fun e=>ai e.symm)).trans l.out.st;have av:=dJ g
    have I:Own1 B 22 C (.slice (some ⟨b,0,none⟩) p.length c) ((p.set j (x+1)).map (Value.int .u32)):=by rw[<-U,List.map_set];have:=rL l.out.pth (j:=j) (by rw[yl];exact X) (.int .u32 (x+1));exact this
    have F:Own1 B 3 C (.slice (some ⟨r,0,none⟩) ws.length D) (ws.map (Value.int .i64)):=dm l.out.wid fun k d=>G.block k (di l.out.wid d).2.1 (fun e=>by
      have:k=r:=by simp[Value.ownBlock]at d;exact d.symm
      omega)
    have d0:C.cell? ⟨Bg,0,none⟩=some (.slice (some ⟨b,0,none⟩) p.length c):=yo _ _ 0 _ _ _ g;have d1:C.cell? ⟨Bg,1,none⟩=some (.slice (some ⟨r,0,none⟩) p.length D):=by rw[<-HL.out];exact yo _ _ 1 _ _ _ g
    have z0:C.frozen? ⟨Bg,0,none⟩=false:=yp _ _ 0 _ _ g;have z1:C.frozen? ⟨Bg,1,none⟩=false:=yp _ _ 1 _ _ g;have am:j+1<=ws.length:=by have:=HL.out;omega
    have aw:(j:Int)+1<=(c:Int):=by omega
    have ax:(j:Int)+1<=(D:Int):=by omega
    have ay:IntKind.i64.wrap ((j:Int)+1)=(j:Int)+1:=IntWalk.i64_in _ (by omega);have az:(0:Int)<=(j:Int)+1:=by omega
    have aA:((j:Int)+1).toNat=j+1:=by omega
    have N:Hid (∀w9,w9=((C.setCell ⟨Bg,0,none⟩ (.slice (some ⟨b,0,none⟩) (j+1) c)).setCell ⟨Bg,1,none⟩ (.slice (some ⟨r,0,none⟩) (j+1) D)).drew ->
        FrS (exO Bg (.slice (some ⟨b,0,none⟩) p.length c) (.slice (some ⟨r,0,none⟩) ws.length D)) w w9/\∃vp' vw',ExAt B Bg w9 (FM p j) (ws.take (j+1)) 0 vp' vw'/\∀k,exO Bg vp' vw' k->exO Bg (.slice (some ⟨b,0,none⟩) p.length c) (.slice (some ⟨r,0,none⟩) ws.length D) k):=by
     rintro w9 rfl;have f9:FrS (fun k=>k=Bg) C (((C.setCell ⟨Bg,0,none⟩ (.slice (some ⟨b,0,none⟩) (j+1) c)).setCell ⟨Bg,1,none⟩ (.slice (some ⟨r,0,none⟩) (j+1) D)).drew):=(((FrS.refl (fun k=>k=Bg) C).setCell (p:=⟨Bg,0,none⟩) rfl _).setCell (p:=⟨Bg,1,none⟩) rfl _).drew;refine⟨((HF.out.mono fun k d=>.inl d).trans (G.mono fun k d=>.inr (.inl (by rw[d];rfl)))).trans (f9.mono fun k d=>.inl d),.slice (some ⟨b,0,none⟩) (j+1) c,.slice (some ⟨r,0,none⟩) (j+1) D,⟨cX (i:=1) _ (cX (i:=0) _ g),?_,?_,l.out.ge⟩,fun k d=>d⟩
     ·have K:=kI I (k:=j+1) (by rw[yl,List.length_set];omega);rw[<-List.map_take,<-HG.out,KL p j X]at K
      exact dm K fun k d=>f9.block k (di K d).2.1 (fun e=>by
        have:k=b:=by simp[Value.ownBlock]at d;exact d.symm
        omega)
     ·have K:=kI F (k:=j+1) (by rw[yl];omega);rw[<-List.map_take]at K;obtain⟨-,-,O,q'⟩:=di F (k:=r) rfl
      exact dm K fun k d=>f9.block k (di K d).2.1 (fun e=>by
        have an:k=r:=by simp[Value.ownBlock]at d;exact d.symm
        subst an
        exact de q' g (by decide) e)
    clear G I F g t am;go_wp2_with (go_at_call 116;refine CM.out.mono ?_;rintro e w1 ⟨rfl,rfl⟩)
    go_region_with (fail)
    all_goals go_wp2
    all_goals go_ret
    all_goals
     obtain⟨e1,e2⟩:=N.out _ rfl;refine⟨cZ (by rw[H.out];rfl),e1,?_,?_⟩
     ·intro q;rw[H.out]at q;cases q
     ·intro k d;rw[H.out]at d;injection d with d;subst d;exact e2
   ·have H:Hid (DG p ws j=R):=by show _=_;rw[<-t.out,J.out,yt Y]
    have au:¬x<m-1:=by omega
    clear t;go_wp2_with (go_at_call 116;refine CM.out.mono ?_;rintro e w1 ⟨rfl,rfl⟩);go_round
    case rel =>
     have ak:j<=p.length:=by omega
     have al:(j:Int)-1+1=(j:Int):=by omega
     exact⟨j,(j:Int)-1,ak,al,rfl,H⟩
    case measure=>first|(simp[intOf];done)|(simp[intOf];omega)
theorem U32At.frs (h:U32At B w v zs)(hB:B<=w.heap.size)(hF:FrS S w w')(hS:∀k,S k->B<=k):U32At B w' v zs :=
 SlAt.imp h fun b off l d j z g=>by rw[<-d j z g];exact yE (hF.block b (by omega) (fun q=>by have:=hS b q;omega))
namespace Rn
theorem LJ {n:Nat}(h:p.length<=n):AW p n++[0]=AW p (n+1):=by unfold AW;rw[List.append_assoc,show n+1-p.length=(n-p.length)+1 by omega,List.replicate_succ']
theorem IW (p:List Int):AW p p.length=p:=by unfold AW;simp
theorem MV {fin:List Int}(h:ws++[n] <+: fin):fin.take ws.length++[n]=fin.take (ws.length+1)/\fin.getD ws.length 0=n:=by
 obtain⟨t,rfl⟩:=h;constructor
 ·simp[List.take_append,List.take_add_one]
 ·simp[xU]
end Rn
theorem xr (p:Addr)(w:World):(method 360 99 (.pointer (some p)) "backstay/run.choose").run prog w=.ok (263,.pointer (some p)) w:=by kernel_rfl
theorem xq (p:Value)(n:Int)(w:World):(callFunc 263 #[p,.int .i64 n]).run prog w=.ok (.enter 263 #[p,.int .i64 n]) w:=by kernel_rfl
def uN (B Bg:Nat)(p0 fin:List Int)(w:World)(ws:List Int)(vp vw:Value):Prop :=
 ExAt B Bg w (AW p0 (max p0.length ws.length)) (fin.take (max p0.length ws.length)) ws.length vp vw
def oU (c:Cfg)(B Bg:Nat)(p0:List Int)(fin:List Int)(hch:c.ch=.iface 99 (.pointer (some ⟨Bg,0,none⟩)))(hB:c.n₀<=B)(hp:p0.length<=fin.length)(hgood:∀j:Nat,j<p0.length->0<=p0.getD j 0/\p0.getD j 0<m9 (fin.getD j 0))(hfin:fin.length<=1000000) :
  eP c (zo p0) fin where
 ty:=99
 ptr:=.pointer (some ⟨Bg,0,none⟩)
 fnum:=263
 ech:=hch
 inv:=fun w=>xr _ w
 ent:=fun n w=>xq _ n w
 At:=fun w ws O=>(∃vp vw,uN B Bg p0 fin w ws vp vw/\O=exO Bg vp vw)/\(∀k,yT c k->k<w.heap.size)/\∀k,O k->¬yT c k
 apart:=fun {w ws O} h k hk=>by
  obtain⟨⟨vp,vw,h1,rfl⟩,h2,h3⟩:=h;refine⟨?_,?_,h3 k hk⟩
  ·rcases hk with rfl|hk|hk
   ·have:=h1.ge;omega
   ·have:=(di h1.pth hk).1;omega
   ·have:=(di h1.wid hk).1;omega
  ·rcases hk with rfl|hk|hk
   ·exact cY h1.st
   ·exact(di h1.pth hk).2.1
   ·exact(di h1.wid hk).2.1
 keep:=fun {w w' ws O S} h hF hS=>by obtain⟨⟨vp,vw,h1,rfl⟩,h2,h3⟩:=h;exact⟨⟨vp,vw,h1.frs hF (fun k hk q=>(hS k q).2 hk),rfl⟩,fun k hk=>by have:=h2 k hk;have:=hF.size;omega,h3⟩
 call:=fun {w ws O} n h hn hpre=>by
  obtain⟨⟨vp,vw,h1,rfl⟩,h2,h3⟩:=h;have hl:=hpre.length_le;rw[yK,List.length_singleton]at hl;obtain⟨t1,t2⟩:=MV hpre;rcases yw ws.length p0.length with hk|hk
  ·have hm:max p0.length ws.length=p0.length:=by omega
   have h1':ExAt B Bg w p0 (fin.take p0.length) ws.length vp vw:=by have:=h1;unfold uN at this;rwa [hm,IW]at this
   refine(mM h1' hk (by omega) n).mono fun e w' h=>⟨?_,h.2.2.mono fun k hk=>.inl hk,exO Bg vp vw,⟨⟨vp,vw,?_,rfl⟩,fun k hk=>by have:=h2 k hk;have:=h.2.2.size;omega,h3⟩,fun k hk=>.inl hk⟩
   ·rw[h.1];have hg:=hgood ws.length hk;unfold zo;rw[yr hk,Int.emod_eq_of_lt hg.1 (by rw[<-t2];exact hg.2)]
   ·unfold uN;rw[yK,List.length_singleton,show max p0.length (ws.length+1)=p0.length by omega,IW];exact h.2.1
  ·have hm:max p0.length ws.length=ws.length:=by omega
   have hpl:(AW p0 ws.length).length=ws.length:=FX hk;have h1':ExAt B Bg w (AW p0 ws.length) (fin.take ws.length) (AW p0 ws.length).length vp vw:=by have:=h1;unfold uN at this;rw[hm]at this;rw[hpl];exact this
   refine(lB h1' (by rw[hpl,List.length_take];omega) (by omega) n).mono fun e w' h=>⟨?_,?_⟩
   ·rw[h.1,MR hk]
   ·obtain⟨-,vp',vw',q1,q2,q3⟩:=h;refine⟨q2,exO Bg vp' vw',⟨⟨vp',vw',?_,rfl⟩,fun k hk=>by have:=h2 k hk;have:=q2.size;omega,fun k hk hK=>?_⟩,q3⟩
    ·unfold uN;rw[yK,List.length_singleton,show max p0.length (ws.length+1)=ws.length+1 by omega,<-LJ hk,<-t1];rw[hpl]at q1;exact q1
    ·rcases q3 k hk with q|q
     ·exact h3 k q hK
     ·have:=h2 k hK;omega
def Dc (c:Cfg)(k:Nat):Prop:=(0<c.us.length/\k=c.Bm)\/∃j cp:Nat,c.us[j]?=some (k,cp)
theorem Dc.kept (h:Dc c k):yT c k:=by
 rcases h with ⟨-,h⟩|⟨j,d,h⟩
 ·exact .inr (.inr h)
 ·exact .inl (.inr (.inr (.inr ⟨j,d,h⟩)))
theorem rU {size n:Nat}(h:w.ownsRow B e size v n xs)(hw:∀k,v.ownBlock=some k->w'.heap[k]?=w.heap[k]?):w'.ownsRow B e size v n xs:=by
 obtain⟨l,j⟩:=h;refine⟨l,?_⟩;rcases j with j|⟨k,d,g,hv,m,p,r⟩
 ·exact .inl j
 ·exact .inr ⟨k,d,g,hv,m,(hw k (by rw[hv];rfl)).trans p,r⟩
theorem nB (hf:FB f)(hsl:mem.map (fun r=>(r.length:Int))=f.s):mem.length<=1000/\∀l∈mem,l.length<=8:=by
 have j:mem.length=f.s.length:=by rw[<-hsl,yl]
 have m:=hf.size;refine⟨by omega,fun l hl=>?_⟩;have g:(l.length:Int)∈f.s:=by rw[<-hsl];exact List.mem_map_of_mem hl
 have d:=ym.1 hf.head.2 _ g;unfold BH at d;simp at d;omega
theorem lN (hM:uP c w mem)(hS:mq c w)(hlt:∀k,Dc c k->k<w.heap.size)(hBm:c.Bm<w.heap.size)(hf:FB c.f)(hsl:mem.map (fun r=>(r.length:Int))=c.f.s):Keeps (Dc c) w c.mv mem:=by
 have m:=hM.1;obtain⟨S,Q⟩:=nB hf hsl;refine⟨hlt,⟨c.Am,c.cm,by rw[m];rfl⟩,fun w' C N=>?_⟩;obtain⟨P,R,K⟩:=hS;refine⟨?_,c.Am,c.cm,by rw[yl,m];rfl,by rw[yl,m];exact P,fun q=>?_⟩
 rotate_left
 ·rw[yl]at q;obtain⟨e,A,E,F⟩:=K (by omega);refine⟨c.Bm,A,e,.inl ⟨by omega,rfl⟩,(C c.Bm (.inl ⟨by omega,rfl⟩)).trans E,fun j n B=>?_⟩;rw[yc,Option.map_eq_some_iff]at B;obtain⟨l,hl,rfl⟩:=B;have B:=(xS.1 hl).1;obtain⟨⟨d,g⟩,y⟩:∃u,c.us[j]?=some u:=⟨_,xR (by omega)⟩;have H:c.f.s[j]?=some (l.length:Int):=by rw[<-hsl,yc,hl];rfl
  obtain⟨I,O,p,D,J⟩:=hM.2 j d g l y hl;exact⟨d,g,p,F j d g l.length y H,I,.inr ⟨j,g,y⟩,(C d (.inr ⟨j,g,y⟩)).trans D,fun i M=>⟨l[i],J i _ (xR M)⟩⟩
 refine⟨c.Am,c.cm,by rw[m];rfl,by omega,by omega,fun q=>?_⟩;obtain⟨e,A,E,F⟩:=K (by omega);have G:c.Bm<w'.heap.size:=by omega
 refine⟨c.Bm,0,e,G,fun j l hl=>?_⟩;have B:=(xS.1 hl).1;obtain⟨⟨d,g⟩,y⟩:∃u,c.us[j]?=some u:=⟨_,xR (by omega)⟩;have H:c.f.s[j]?=some (l.length:Int):=by rw[<-hsl,yc,hl];rfl
 obtain⟨I,O,p,D,J⟩:=hM.2 j d g l y hl;have L:d<w.heap.size:=cY D;refine⟨.slice (some ⟨d,0,none⟩) l.length g,?_,?_⟩
 ·rw[yo _ _ _ _ _ _ ((C c.Bm (.inl ⟨by omega,rfl⟩)).trans E),Nat.zero_add];exact F j d g l.length y H
 ·have:=Q l (xT hl);refine⟨some ⟨d,0,none⟩,g,rfl,I,by omega,fun _=>⟨d,0,rfl,by omega,fun t z hz=>?_⟩⟩;rw[yo _ _ _ _ _ _ ((C d (.inr ⟨j,g,y⟩)).trans D),Nat.zero_add];exact J t z hz
theorem PS.keeps {s:AN}{b:Int}{vt:Value}(h:PS c w s b frm vt)(hBm:c.Bm<w.heap.size)(hf:FB c.f)(hsl:s.mem.map (fun r=>(r.length:Int))=c.f.s):Keeps (Dc c) w c.mv s.mem:=lN h.mem h.s (fun k d=>h.kept_lt hBm d.kept) hBm hf hsl
theorem jb (D:Nat->Prop)(w:World)(h:∀k,D k->k<w.heap.size):Keeps D w (.slice none 0 0) [] :=
 ⟨h,⟨none,0,rfl⟩,fun w' _ _=>⟨⟨none,0,rfl,yJ _,by decide,fun h=>absurd h (by decide)⟩,none,0,rfl,yJ _,fun h=>absurd h (by decide)⟩⟩
def wZ (c:Cfg)(o:zO):Value:=if o.kind=0 then c.mv else .slice none 0 0
theorem rK {s:AN}{b:Int}{vt:Value}(h:PS c w s b frm vt)(hBm:c.Bm<w.heap.size)(hf:FB c.f)(hI:Rn.Inv c.f s){o:zO}(ho:LF c.f s o):Keeps (Dc c) w (wZ c o) o.mem:=by
 unfold wZ;rcases ho with ⟨g,j,-⟩|rfl|rfl
 ·rw[yr g,j];exact h.keeps hBm hf hI.mem
 ·exact jb _ _ fun k d=>h.kept_lt hBm d.kept
 ·exact jb _ _ fun k d=>h.kept_lt hBm d.kept
structure Rd (D:Nat->Prop)(B Bg:Nat)(w:World)(v vp vw:Value)(vms:List Value)(p ws:List Int)(u:Nat)(outs:List zO):Prop where
 ex:ExAt B Bg w p ws u vp vw
 at_:OutsAt D B w v outs vms
 dlt:∀k,D k->B<=k/\k<w.heap.size/\¬exO Bg vp vw k/\v.ownBlock≠some k
 vo:∀k,v.ownBlock=some k->¬exO Bg vp vw k
section
variable {D:Nat->Prop}{B Bg u:Nat}{w w':World}{v vp vw:Value}{vms:List Value}{p ws:List Int}{outs:List zO}
theorem OutsAt.frs (h:OutsAt D B w v outs vms)(hF:FrS S w w')(hD:∀k,D k->¬S k)(hv:∀k,v.ownBlock=some k->¬S k):OutsAt D B w' v outs vms where
 len:=h.len
 own:=rU h.own fun k d=>hF.block k (dt h.own k d).2 (hv k d)
 at_:=fun j o vm g l=>(h.at_ j o vm g l).frs hF hD
theorem OutsAt.more (h:OutsAt D B w v outs vms)(hD:∀k,D k->D' k)(hD':∀k,D' k->k<w.heap.size):OutsAt D' B w v outs vms where
 len:=h.len
 own:=h.own
 at_:=fun j o vm d g=>(h.at_ j o vm d g).more hD hD'
theorem lA (h:ExAt B Bg w p ws u vp vw)(hk:exO Bg vp vw k):B<=k/\k<w.heap.size:=by
 rcases hk with rfl|hk|hk
 ·exact⟨h.ge,cY h.st⟩
 ·have:=di h.pth hk;exact⟨this.1,this.2.1⟩
 ·have:=di h.wid hk;exact⟨this.1,this.2.1⟩
theorem Rd.gr (h:Rd D B Bg w v vp vw vms p ws u outs)(g:Gr w w'):Rd D B Bg w' v vp vw vms p ws u outs where
 ex:=h.ex.frs (FrS.of_gr (S:=fun _=>False) g) (fun _ _ q=>q)
 at_:=h.at_.frs (FrS.of_gr (S:=fun _=>False) g) (fun _ _ q=>q) (fun _ _ q=>q)
 dlt:=fun k d=>by obtain⟨h1,h2,h3⟩:=h.dlt k d;exact⟨h1,by have:=g.size;omega,h3⟩
 vo:=h.vo
theorem Rd.insert (h:Rd D B Bg w v vp vw vms p ws u outs){outs':List zO}(ho:OutsAt D B w' v' outs' vms')(hF:FrS (fun k=>v.ownBlock=some k) w w')(hv:∀k,v'.ownBlock=some k->v.ownBlock=some k\/w.heap.size<=k) :
  Rd D B Bg w' v' vp vw vms' p ws u outs' where
 ex:=h.ex.frs hF fun k d q=>h.vo k q d
 at_:=ho
 dlt:=fun k d=>by
  obtain⟨g,m,j,l⟩:=h.dlt k d;refine⟨g,by have:=hF.size;omega,j,fun q=>?_⟩;rcases hv k q with q|q
  ·exact l q
  ·omega
 vo:=fun k d q=>by
  rcases hv k d with r|r
  ·exact h.vo k r q
  ·have:=(lA h.ex q).2;omega
theorem Rd.next (h:Rd D B Bg w v vp vw vms p ws u outs){vp' vw':Value}{p' ws':List Int}(he:ExAt B Bg w' p' ws' u' vp' vw')(hF:FrS (exO Bg vp vw) w w')(hO:∀k,exO Bg vp' vw' k->exO Bg vp vw k):Rd D B Bg w' v vp' vw' vms p' ws' u' outs where
 ex:=he
 at_:=h.at_.frs hF (fun k d q=>(h.dlt k d).2.2.1 q) (fun k d q=>h.vo k d q)
 dlt:=fun k d=>by obtain⟨g,m,j,l⟩:=h.dlt k d;exact⟨g,by have:=hF.size;omega,fun q=>j (hO k q),l⟩
 vo:=fun k d q=>h.vo k d (hO k q)
end
theorem ud {i:CG}{w0:World}{outs:List zO}(h:Rd D B Bg w0 v vp vw vms p ((Bq f i p).take p.length) 0 outs)(hg:IP f i p)
  (hRA:Gv) (hf:VFn f) (hin:AB f i=0) (ha:∀a∈i.args,0<=a) (g:Gr w0 w)  (cn:c.n₀=B) (cf:c.f=f) (cch:c.ch=.iface 99 (.pointer (some ⟨Bg,0,none⟩))) (hp:PS c w (BN f i) 0 (-1) (.slice none 0 0)) (hK:∀k,yT c k->w0.heap.size<=k) (hBm:c.Bm<w.heap.size) :
  Calls prog 80 #[.pointer (some ⟨c.Bs,0,none⟩)] w fun e w'=>∃vx,e=.returned (eW (DC f (zo p) i).1 vx)/\∃(D':Nat->Prop)(vp' vw':Value),Rd D' B Bg w' v vp' vw' vms (AW p (Bq f i p).length) (Bq f i p) (Bq f i p).length outs/\Keeps D' w' vx (DC f (zo p) i).1.mem/\FrS (fun k=>B<=k) w w':=by
 subst cn;subst cf;obtain⟨Z,q2,R,S⟩:=IK hRA hf.val hf.im hin ha p;obtain⟨l,hl,Q⟩:=JH hRA hin ha;have H:=h.gr g;have y:∀k,exO Bg vp vw k->k<w0.heap.size:=fun k d=>(lA h.ex d).2
 let ch:=oU c c.n₀ Bg p (Bq c.f i p) cch (yJ _) hg.1 hg.2 (by omega)
 have N:ch.At w (BN c.f i).z (exO Bg vp vw):=by refine⟨⟨vp,vw,?_,rfl⟩,fun k d=>hp.kept_lt hBm d,fun k d q=>by have:=y k d;have:=hK k q;omega⟩;unfold uN;rw[show (BN c.f i).z=[] from rfl,List.length_nil,Nat.max_eq_left (yI _),IW];exact H.ex
 refine(lZ (pick:=zo p) (fin:=Bq c.f i p) (b:=0) hp hBm hf hRA hl Q (Jj p) ch N (yI _) (List.prefix_refl _)).mono ?_;rintro e w' ⟨rfl,b,L,vq,Y,G,T,U,A,W⟩;obtain⟨⟨vp',vw',C,rfl⟩,r7,X⟩:=T;have z:C5 c.f (zo p) 401 0 (-1) (BN c.f i)=DC c.f (zo p) i:=rfl;rw[z]at G U C ⊢
 have O:ExAt c.n₀ Bg w' (AW p (Bq c.f i p).length) (Bq c.f i p) (Bq c.f i p).length vp' vw':=by have J:(DC c.f (zo p) i).2.1.z=Bq c.f i p:=rfl;have K:max p.length (Bq c.f i p).length=(Bq c.f i p).length:=Nat.max_eq_right hg.1;unfold uN at C;rw[J,K,yv]at C;exact C
 have r:c.Bm<w'.heap.size:=by have:=A.size;omega
 have t:=rK G r hf.val R S
 have E:∀k,D k->¬(Mut c k\/exO Bg vp vw k):=fun k d q=>by
  obtain⟨d1,d2,d3,d4⟩:=h.dlt k d;rcases q with q|q
  ·have:=hK k (.inl q);omega
  ·exact d3 q
 have F:∀k,v.ownBlock=some k->¬(Mut c k\/exO Bg vp vw k):=fun k d q=>by
  rcases q with q|q
  ·have:=hK k (.inl q);have:=(dt h.at_.own k d).2;omega
  ·exact h.vo k d q
 have u:∀k,k<w0.heap.size->¬exO Bg vp vw k->¬exO Bg vp' vw' k:=fun k M h2 q=>by
  rcases W k q with q|q
  ·exact h2 q
  ·have:=g.size;omega
 have m:∀k,D k\/Dc c k->k<w'.heap.size:=fun k d=>by
  rcases d with d|d
  ·have:=(h.dlt k d).2.1;have:=g.size;have:=A.size;omega
  ·exact G.kept_lt r d.kept
 refine⟨wZ c _,rfl,(fun k=>D k\/Dc c k),vp',vw',⟨O,(H.at_.frs A E F).more (fun k d=>.inl d) m,fun k d=>?_,fun k d=>?_⟩,t.more (fun k d=>.inr d) m,A.mono fun k d=>?_⟩
 ·rcases d with d|d
  ·obtain⟨d1,d2,d3,d4⟩:=h.dlt k d;exact⟨d1,m k (.inl d),u k d2 d3,d4⟩
  ·have M:=hK k d.kept;refine⟨?_,m k (.inr d),fun q=>X k q d.kept,fun q=>?_⟩
   ·have:=hp.n₀;rcases d with ⟨-,rfl⟩|⟨j,I,d⟩
    ·exact hp.old.2.2.2.2.1
    ·exact(hp.old.2.2.2.2.2 j k I d).1
   ·have:=(dt h.at_.own k q).2;omega
 ·exact u k (dt h.at_.own k d).2 (h.vo k d)
 ·rcases d with d|d
  ·exact hp.mut d
  ·exact(lA h.ex d).1
def uU (c:Cfg)(n k:Nat)(o:zO)(om wv bv:Value):Array Value :=
 #[c.vp,.int .i64 c.f.ret,c.vs,c.vb,c.mv,c.ch,.int .i64 o.kind,.bool o.ret.p,.int .i64 o.ret.s,.int .u32 o.ret.n,om,wv,bv,.int .i64 k,.slice (some ⟨c.Bv,0,none⟩) n n,.slice (some ⟨c.Bh,0,none⟩) n n]
structure DS (c:Cfg)(pk:List Int)(w:World)(s1:AN)(bl:List Int)(o:zO)(om wv bv:Value):Prop where
 st:w.heap[c.Bs]?=some (.cells (uU c s1.v.length s1.t o om wv bv) 158 (0,0))
 v:w.heap[c.Bv]?=some (.cells (dB s1.v).toArray 24 (0,0))
 had:w.heap[c.Bh]?=some (.cells (s1.had.map Value.bool).toArray 4 (0,0))
 hlen:s1.had.length=s1.v.length
 mem:uP c w s1.mem
 s:mq c w
 fn:FnAt c.n₀ w (.agg #[c.vp,.int .i64 c.f.ret,c.vs,c.vb]) c.f
 picks:U32At c.n₀ w c.ch pk
 wid:Own1 c.n₀ 3 w wv (s1.z.map (Value.int .i64))
 blk:Own1 c.n₀ 3 w bv (bl.map (Value.int .i64))
 old:c.n₀<=c.Bs/\c.n₀<=c.Bv/\c.n₀<=c.Bh/\c.n₀<=c.Bm/\∀(j b cp:Nat),c.us[j]?=some (b,cp)->c.n₀<=b
 apart:(c.us.map (·.1)).Nodup
 farW:∀k,wv.ownBlock=some k->bv.ownBlock≠some k/\∀j cp:Nat,c.us[j]?≠some (k,cp)
 farB:∀k,bv.ownBlock=some k->∀j cp:Nat,c.us[j]?≠some (k,cp)
def DO (c:Cfg)(wv bv:Value)(k:Nat):Prop:=Mut c k\/wv.ownBlock=some k\/bv.ownBlock=some k
section
variable {c:Cfg}{pk bl:List Int}{w w' w'':World}{s:AN}{o:zO}{om wv bv:Value}{S:Nat->Prop}
theorem U32At.frsD (h:U32At B w v zs)(hb:Below B w w'):U32At B w' v zs :=
 SlAt.imp h fun b off d g j z l=>(hb.cell (p:=⟨b,off+j,none⟩) d).trans (g j z l)
theorem DS.cell (h:DS c pk w s bl o om wv bv)(i:Nat):w.cell? ⟨c.Bs,i,none⟩=(uU c s.v.length s.t o om wv bv)[i]?:=yo _ _ i _ _ _ h.st
theorem DS.n₀ (h:DS c pk w s bl o om wv bv):c.n₀<=w.heap.size:=by have:=cY h.st;have:=h.old.1;omega
theorem DS.dlt (h:DS c pk w s bl o om wv bv)(hk:DO c wv bv k):c.n₀<=k:=by
 obtain⟨l,m,p,r,q⟩:=h.old;rcases hk with (rfl|rfl|rfl|⟨j,d,g⟩)|hk|hk
 ·exact l
 ·exact m
 ·exact p
 ·exact q j k d g
 ·exact(di h.wid hk).1
 ·exact(di h.blk hk).1
theorem DS.away (h:DS c pk w s bl o om wv bv)(hF:FrS S w w')(hS:∀k,S k->c.n₀<=k/\¬DO c wv bv k/\k≠c.Bm):DS c pk w' s bl o om wv bv:=by
 have keep:∀{k:Nat} {o:Obj},w.heap[k]?=some o->(DO c wv bv k\/k=c.Bm)->w'.heap[k]?=some o:=fun d hK=>(hF.block _ (cY d) (fun q=>hK.elim (hS _ q).2.1 (hS _ q).2.2)).trans d
 exact {
   st:=keep h.st (.inl (.inl (.inl rfl)))
   v:=keep h.v (.inl (.inl (.inr (.inl rfl))))
   had:=keep h.had (.inl (.inl (.inr (.inr (.inl rfl)))))
   hlen:=h.hlen
   mem:=⟨h.mem.1,fun j y t m u z=>by
     obtain⟨l,p,g,r,B⟩:=h.mem.2 j y t m u z
     exact⟨l,p,g,keep r (.inl (.inl (.inr (.inr (.inr ⟨j,t,u⟩))))),B⟩⟩
   s:=⟨h.s.1,h.s.2.1,fun A=>by
     obtain⟨l,g,p,r⟩:=h.s.2.2 A
     exact⟨l,g,keep p (.inr rfl),r⟩⟩
   fn:=h.fn.below (hF.below (fun k d=>(hS k d).1) h.n₀)
   picks:=h.picks.frsD (hF.below (fun k d=>(hS k d).1) h.n₀)
   wid:=dm h.wid fun k d=>hF.block k (di h.wid d).2.1 (fun q=>(hS k q).2.1 (.inr (.inl d)))
   blk:=dm h.blk fun k d=>hF.block k (di h.blk d).2.1 (fun q=>(hS k q).2.1 (.inr (.inr d)))
   old:=h.old
   apart:=h.apart
   farW:=h.farW
   farB:=h.farB}
theorem DS.gr (h:DS c pk w s bl o om wv bv)(g:Gr w w'):DS c pk w' s bl o om wv bv:=h.away (S:=fun _=>False) (FrS.of_gr g) (fun k hk=>hk.elim)
theorem DS.row (h:DS c pk w s bl o om wv bv){o':zO}(hF:FrS (·=c.Bs) w w')(hst:w'.heap[c.Bs]?=some (.cells (uU c s.v.length k o' om' wv bv) 158 (0,0))):DS c pk w' {s with t:=k} bl o' om' wv bv:=by
 have keep:∀{k:Nat} {d:Array Value} {t:TypeId} {fr:Nat × Nat},w.heap[k]?=some (.cells d t fr)->t≠158->w'.heap[k]?=some (.cells d t fr):=fun g l =>
  (hF.block _ (cY g) (fun e=>by rw[e]at g;exact de g h.st l rfl)).trans g
 have y:=hF.below (n:=c.n₀) (fun k g=>by rw[g];exact h.old.1) h.n₀
 exact {
   st:=hst
   v:=keep h.v (by decide)
   had:=keep h.had (by decide)
   hlen:=h.hlen
   mem:=⟨h.mem.1,fun j z A m l B=>by
     obtain⟨p,r,d,u,D⟩:=h.mem.2 j z A m l B
     exact⟨p,r,d,keep u (by decide),D⟩⟩
   s:=⟨h.s.1,h.s.2.1,fun C=>by
     obtain⟨p,d,r,u⟩:=h.s.2.2 C
     exact⟨p,d,keep r (by decide),u⟩⟩
   fn:=h.fn.below y
   picks:=h.picks.frsD y
   wid:=dm h.wid fun k g=>by obtain⟨-,-,d,q⟩:=di h.wid g;exact(keep q (by decide)).trans q.symm
   blk:=dm h.blk fun k g=>by obtain⟨-,-,d,q⟩:=di h.blk g;exact(keep q (by decide)).trans q.symm
   old:=h.old
   apart:=h.apart
   farW:=h.farW
   farB:=h.farB}
theorem DS.setVal (h:DS c pk w s bl o om wv bv){v:Nat}{x:Rn.V}(hF:FrS (fun k=>k=c.Bv\/k=c.Bh) w w')(hv:w'.heap[c.Bv]?=some (.cells (dB (s.v.set v x)).toArray 24 (0,0)))
  (hh:w'.heap[c.Bh]?=some (.cells ((s.had.set v true).map Value.bool).toArray 4 (0,0))):DS c pk w' (s.set v x) bl o om wv bv:=by
 obtain⟨G,D,E,H,I⟩:=h.old
 have keep:∀{k:Nat} {d:Array Value} {t:TypeId} {fr:Nat × Nat},w.heap[k]?=some (.cells d t fr)->t≠24->t≠4->w'.heap[k]?=some (.cells d t fr):=fun g l p =>
  (hF.block _ (cY g) (by
    rintro (rfl|rfl)
    · exact de g h.v l rfl
    · exact de g h.had p rfl)).trans g
 have z:=hF.below (n:=c.n₀) (fun k g=>g.elim (fun e=>by rw[e];exact D) (fun e=>by rw[e];exact E)) h.n₀
 exact {
   st:=by
     have:=keep h.st (by decide) (by decide)
     show w'.heap[c.Bs]?=some (.cells (uU c (s.v.set v x).length s.t o om wv bv) _ _)
     rw[List.length_set];exact this
   v:=hv
   had:=hh
   hlen:=by show (s.had.set v true).length=(s.v.set v x).length;rw[List.length_set,List.length_set];exact h.hlen
   mem:=⟨h.mem.1,fun j A B m l p=>by
     obtain⟨r,u,d,y,F⟩:=h.mem.2 j A B m l p
     exact⟨r,u,d,keep y (by decide) (by decide),F⟩⟩
   s:=⟨h.s.1,h.s.2.1,fun C=>by
     obtain⟨r,d,u,y⟩:=h.s.2.2 C
     exact⟨r,d,keep u (by decide) (by decide),y⟩⟩
   fn:=h.fn.below z
   picks:=h.picks.frsD z
   wid:=dm h.wid fun k g=>by obtain⟨-,-,d,q⟩:=di h.wid g;exact(keep q (by decide) (by decide)).trans q.symm
   blk:=dm h.blk fun k g=>by obtain⟨-,-,d,q⟩:=di h.blk g;exact(keep q (by decide) (by decide)).trans q.symm
   old:=h.old
   apart:=h.apart
   farW:=h.farW
   farB:=h.farB}
theorem DS.memSet (h:DS c pk w s bl o om wv bv){bj cp:Nat}{l l':List Int}(hus:c.us[j]?=some (bj,cp))(hl:s.mem[j]?=some l)(hll:l'.length=l.length)(hF:FrS (·=bj) w w')(hb:w'.heap[bj]?=some (.cells cur 3 (0,0)))
  (hc:∀(i:Nat)(z:Int),l'[i]?=some z->cur[i]?=some (.int .i64 z)):DS c pk w' {s with mem:=s.mem.set j l' } bl o om wv bv:=by
 obtain⟨X,Q,G,y,Y⟩:=h.mem.2 j bj cp l hus hl;have L:=de h.st y (by decide);have M:=de h.v y (by decide);have N:=de h.had y (by decide);obtain⟨S,T,U,W,O⟩:=h.old;have P:=O j bj cp hus;have t:=hF.below (n:=c.n₀) (fun k p=>by rw[p];exact P) h.n₀
 exact {
   st:=(hF.block _ (cY h.st) L).trans h.st
   v:=(hF.block _ (cY h.v) M).trans h.v
   had:=(hF.block _ (cY h.had) N).trans h.had
   hlen:=h.hlen
   mem:=⟨by rw[List.length_set];exact h.mem.1,fun H F B m g r=>by
     by_cases e:j=H
     · subst e
       rw[hus]at g
       injection g with g
       injection g with g J
       subst g;subst J
       have C:=(xS.1 hl).1
       rw[yC C]at r
       injection r with r
       subst r
       exact⟨by omega,Q,cur,hb,hc⟩
     · rw[List.getElem?_set_ne e]at r
       obtain⟨E,u,d,A,R⟩:=h.mem.2 H F B m g r
       have D:F≠bj:=by
         intro I;subst I
         rcases Nat.lt_or_gt_of_ne e with q|q
         · exact gs h.apart q hus g
         · exact gs h.apart q g hus
       exact⟨E,u,d,(hF.block _ (cY A) D).trans A,R⟩⟩
   s:=⟨h.s.1,h.s.2.1,fun K=>by
     obtain⟨E,d,u,A⟩:=h.s.2.2 K
     exact⟨E,d,(hF.block _ (cY u) (de u y (by decide))).trans u,A⟩⟩
   fn:=h.fn.below t
   picks:=h.picks.frsD t
   wid:=dm h.wid fun k p=>hF.block k (di h.wid p).2.1 (fun e=>(h.farW k p).2 j cp (by rw[e];exact hus))
   blk:=dm h.blk fun k p=>hF.block k (di h.blk p).2.1 (fun e=>h.farB k p j cp (by rw[e];exact hus))
   old:=h.old
   apart:=h.apart
   farW:=h.farW
   farB:=h.farB}
theorem DS.lt (h:DS c pk w s bl o om wv bv)(hk:DO c wv bv k):k<w.heap.size:=by
 rcases hk with (rfl|rfl|rfl|⟨j,g,d⟩)|hk|hk
 ·exact cY h.st
 ·exact cY h.v
 ·exact cY h.had
 ·have p:=h.mem.1;obtain⟨l,hl⟩:∃l,s.mem[j]?=some l:=⟨_,xR (by rw[p];exact(xS.1 d).1)⟩;obtain⟨-,-,m,q,-⟩:=h.mem.2 j k g l d hl;exact cY q
 ·exact(di h.wid hk).2.1
 ·exact(di h.blk hk).2.1
theorem DS.pushW (h:DS c pk w s bl o om wv bv)(hg:(w.alloc tmp).grownBy w2 wv.ownBlock)(ho:Own1 c.n₀ 3 w2 v' (s.z.map (Value.int .i64)++[.int .i64 n]))(hat:∀k,v'.ownBlock=some k->wv.ownBlock=some k\/w.heap.size<=k) :
  w2.heap[c.Bs]?=some (.cells (uU c s.v.length s.t o om wv bv) 158 (0,0))/\DS c pk (w2.setCell ⟨c.Bs,11,none⟩ v') (s.chose n) bl o om v' bv/\FrS (DO c wv bv) w (w2.setCell ⟨c.Bs,11,none⟩ v')/\∀k,DO c v' bv k->DO c wv bv k\/w.heap.size<=k:=by
 have u:FrS (fun k=>wv.ownBlock=some k) w w2:=((FrS.refl _ w).alloc tmp).grown hg (fun k d=>.inl d);have E:¬wv.ownBlock=some c.Bs:=fun e=>by obtain⟨-,-,g,q⟩:=di h.wid e;exact de q h.st (by decide) rfl
 have l:=(u.block _ (cY h.st) E).trans h.st;have r:FrS (fun k=>wv.ownBlock=some k\/k=c.Bs) w (w2.setCell ⟨c.Bs,11,none⟩ v'):=(u.mono (fun k d=>.inl d)).setCell (p:=⟨c.Bs,11,none⟩) (.inr rfl) _;have D:∀k,v'.ownBlock=some k->DO c wv bv k\/w.heap.size<=k:=fun k d=>(hat k d).elim (fun q=>.inl (.inr (.inl q))) .inr;have keep:∀{k:Nat} {o:Obj},w.heap[k]?=some o->k≠c.Bs->¬wv.ownBlock=some k->(w2.setCell ⟨c.Bs,11,none⟩ v').heap[k]?=some o:=fun d A C=>(r.block _ (cY d) (fun q=>q.elim C A)).trans d;have F:∀{k:Nat} {g:Array Value} {t:TypeId} {fr:Nat × Nat},w.heap[k]?=some (.cells g t fr)->t≠3->¬wv.ownBlock=some k:=fun d ht e=>by obtain⟨-,-,g,q⟩:=di h.wid e;exact de d q ht rfl
 have I:=r.below (n:=c.n₀) (fun k d=>d.elim (fun e=>(di h.wid e).1) (fun e=>by rw[e];exact h.old.1)) h.n₀;refine⟨l,?_,r.mono (fun k d=>d.elim (fun e=>.inr (.inl e)) (fun e=>.inl (.inl e))),fun k d=>?_⟩
 ·exact {
     st:=cX (i:=11) v' l
     v:=keep h.v (de h.v h.st (by decide)) (F h.v (by decide))
     had:=keep h.had (de h.had h.st (by decide)) (F h.had (by decide))
     hlen:=h.hlen
     mem:=⟨h.mem.1,fun j H z m A C=>by
       obtain⟨G,y,g,B,K⟩:=h.mem.2 j H z m A C
       exact⟨G,y,g,keep B (de B h.st (by decide)) (fun e=>(h.farW H e).2 j z A),K⟩⟩
     s:=⟨h.s.1,h.s.2.1,fun J=>by
       obtain⟨G,g,y,B⟩:=h.s.2.2 J
       exact⟨G,g,keep y (de y h.st (by decide)) (F y (by decide)),B⟩⟩
     fn:=h.fn.below I
     picks:=h.picks.frsD I
     wid:=by
       have:=dm (w':=w2.setCell ⟨c.Bs,11,none⟩ v') ho fun k d=>yy _ _ _ _ (by obtain⟨-,-,g,q⟩:=di ho d;exact de q l (by decide))
       show Own1 c.n₀ _ _ v' ((s.z++[n]).map (Value.int .i64))
       rw[List.map_append];exact this
     blk:=dm h.blk fun k d=>by
       obtain⟨-,-,g,q⟩:=di h.blk d
       exact r.block k (cY q) (fun e=>e.elim (fun e=>(h.farW k e).1 d) (fun e=>by rw[e]at q;exact de q h.st (by decide) rfl))
     old:=h.old
     apart:=h.apart
     farW:=fun k d=>by
       rcases hat k d with q|q
       · exact h.farW k q
       · refine⟨fun e=>?_,fun j z e=>?_⟩
         · have:=(di h.blk e).2.1;omega
         · have:=h.lt (.inl (.inr (.inr (.inr ⟨j,z,e⟩))));omega
     farB:=h.farB}
 ·rcases d with d|d|d
  ·exact .inl (.inl d)
  ·exact D k d
  ·exact .inl (.inr (.inr d))
theorem DS.pushB (h:DS c pk w s bl o om wv bv)(hg:(w.alloc tmp).grownBy w2 bv.ownBlock)(ho:Own1 c.n₀ 3 w2 v' (bl.map (Value.int .i64)++[.int .i64 n]))(hat:∀k,v'.ownBlock=some k->bv.ownBlock=some k\/w.heap.size<=k) :
  w2.heap[c.Bs]?=some (.cells (uU c s.v.length s.t o om wv bv) 158 (0,0))/\DS c pk (w2.setCell ⟨c.Bs,12,none⟩ v') s (bl++[n]) o om wv v'/\FrS (DO c wv bv) w (w2.setCell ⟨c.Bs,12,none⟩ v')/\∀k,DO c wv v' k->DO c wv bv k\/w.heap.size<=k:=by
 have u:FrS (fun k=>bv.ownBlock=some k) w w2:=((FrS.refl _ w).alloc tmp).grown hg (fun k d=>.inl d);have D:¬bv.ownBlock=some c.Bs:=fun e=>by obtain⟨-,-,g,q⟩:=di h.blk e;exact de q h.st (by decide) rfl
 have l:=(u.block _ (cY h.st) D).trans h.st;have r:FrS (fun k=>bv.ownBlock=some k\/k=c.Bs) w (w2.setCell ⟨c.Bs,12,none⟩ v'):=(u.mono (fun k d=>.inl d)).setCell (p:=⟨c.Bs,12,none⟩) (.inr rfl) _;have keep:∀{k:Nat} {o:Obj},w.heap[k]?=some o->k≠c.Bs->¬bv.ownBlock=some k->(w2.setCell ⟨c.Bs,12,none⟩ v').heap[k]?=some o:=fun d A C=>(r.block _ (cY d) (fun q=>q.elim C A)).trans d;have E:∀{k:Nat} {g:Array Value} {t:TypeId} {fr:Nat × Nat},w.heap[k]?=some (.cells g t fr)->t≠3->¬bv.ownBlock=some k:=fun d ht e=>by obtain⟨-,-,g,q⟩:=di h.blk e;exact de d q ht rfl
 have H:=r.below (n:=c.n₀) (fun k d=>d.elim (fun e=>(di h.blk e).1) (fun e=>by rw[e];exact h.old.1)) h.n₀;refine⟨l,?_,r.mono (fun k d=>d.elim (fun e=>.inr (.inr e)) (fun e=>.inl (.inl e))),fun k d=>?_⟩
 ·exact {
     st:=cX (i:=12) v' l
     v:=keep h.v (de h.v h.st (by decide)) (E h.v (by decide))
     had:=keep h.had (de h.had h.st (by decide)) (E h.had (by decide))
     hlen:=h.hlen
     mem:=⟨h.mem.1,fun j G z m A C=>by
       obtain⟨F,y,g,B,J⟩:=h.mem.2 j G z m A C
       exact⟨F,y,g,keep B (de B h.st (by decide)) (fun e=>h.farB G e j z A),J⟩⟩
     s:=⟨h.s.1,h.s.2.1,fun I=>by
       obtain⟨F,g,y,B⟩:=h.s.2.2 I
       exact⟨F,g,keep y (de y h.st (by decide)) (E y (by decide)),B⟩⟩
     fn:=h.fn.below H
     picks:=h.picks.frsD H
     wid:=dm h.wid fun k d=>by
       obtain⟨-,-,g,q⟩:=di h.wid d
       exact r.block k (cY q) (fun e=>e.elim (fun e=>(h.farW k d).1 e) (fun e=>by rw[e]at q;exact de q h.st (by decide) rfl))
     blk:=by
       have:=dm (w':=w2.setCell ⟨c.Bs,12,none⟩ v') ho fun k d=>yy _ _ _ _ (by obtain⟨-,-,g,q⟩:=di ho d;exact de q l (by decide))
       rw[List.map_append];exact this
     old:=h.old
     apart:=h.apart
     farW:=fun k d=>by
       refine⟨fun e=>?_,(h.farW k d).2⟩
       rcases hat k e with q|q
       · exact(h.farW k d).1 q
       · have:=(di h.wid d).2.1;omega
     farB:=fun k d=>by
       rcases hat k d with q|q
       · exact h.farB k q
       · intro j z e
         have:=h.lt (.inl (.inr (.inr (.inr ⟨j,z,e⟩))));omega}
 ·rcases d with d|d|d
  ·exact .inl (.inl d)
  ·exact .inl (.inr (.inl d))
  ·rcases hat k d with q|q
   ·exact .inl (.inr (.inr q))
   ·exact .inr q
end
def DLeft (c:Cfg)(pk:List Int)(w:World)(wv bv:Value)(s':AN)(bl':List Int)(o':zO)(om':Value)(w':World):Prop :=
 ∃wv' bv',DS c pk w' s' bl' o' om' wv' bv'/\FrS (DO c wv bv) w w'/\∀k,DO c wv' bv' k->DO c wv bv k\/w.heap.size<=k
section
variable {c:Cfg}{pk bl bl':List Int}{w w' w'':World}{s s':AN}{o o':zO}{om om' wv bv wv' bv':Value}
theorem dR (hF:FrS (DO c wv bv) w w')(hO:∀k,DO c wv' bv' k->DO c wv bv k\/w.heap.size<=k)(h:DLeft c pk w' wv' bv' s' bl' o' om' w''):DLeft c pk w wv bv s' bl' o' om' w'':=by
 obtain⟨j,l,p,f,q⟩:=h;refine⟨j,l,p,⟨f.os.trans hF.os,f.tape.trans hF.tape,f.output.trans hF.output,Nat.le_trans hF.size f.size,fun k d g=>?_⟩,fun k d=>?_⟩
 ·refine(f.block k (by have:=hF.size;omega) fun q=>?_).trans (hF.block k d g);rcases hO k q with q|q
  ·exact g q
  ·omega
 ·rcases q k d with q|q
  ·exact hO k q
  ·exact .inr (by have:=hF.size;omega)
theorem DS.left (h:DS c pk w' s bl o om wv bv)(hF:FrS (DO c wv bv) w w'):DLeft c pk w wv bv s bl o om w':=⟨wv,bv,h,hF,fun k d=>.inl d⟩
theorem DLeft.gr (h:DLeft c pk w wv bv s' bl' o' om' w')(g:Gr w' w''):DLeft c pk w wv bv s' bl' o' om' w'':=by obtain⟨d,j,p,f,q⟩:=h;exact dR f q ((p.gr g).left (FrS.of_gr g))
end
theorem uw (h:U32At B w v zs)(hz:zs[k]?=some z):∃b o c,v=.slice (some ⟨b,o,none⟩) zs.length c/\b<B/\w.cell? ⟨b,o+k,none⟩=some (.int .u32 z):=by obtain⟨A,c,rfl,-,-,d⟩:=h;obtain⟨b,o,rfl,j,g⟩:=d (by have:=(xS.1 hz).1;omega);exact⟨b,o,c,rfl,j,g k z hz⟩
theorem gc {o:Nat}(g:Gr w W)(hb:b<w.heap.size)(h:w.cell? ⟨b,o,none⟩=some v)(u:GrW W):u.val.cell? ⟨b,o,none⟩=some v:=((g.trans u.gr).cell _ _ hb).trans h
theorem gr_frs' {a b:World}(g:Gr w a)(h:FrS S a b)(hS:∀k,S k->w.heap.size<=k):Gr w b :=
 ⟨h.os.trans g.os,h.tape.trans g.tape,h.output.trans g.output,Nat.le_trans g.size h.size,fun k d=>(h.block k (by have:=g.size;omega) (fun q=>by have:=hS k q;omega)).trans (g.heap k d)⟩
def fR (w:World):World:=w.alloc (.cells #[.bool false,.int .i64 0,.int .u32 0] 24)
def dy (w:World)(r:Nat)(x:Rn.V):World:=((w.setCell ⟨r,0,none⟩ (.bool x.p)).setCell ⟨r,1,none⟩ (.int .i64 x.s)).setCell ⟨r,2,none⟩ (.int .u32 x.n)
theorem el {a b d:Value}(h:w.heap[r]?=some (.cells #[a,b,d] 24 (0,0)))(x:Rn.V) :
  (dy w r x).cell? ⟨r,0,none⟩=some (.bool x.p)/\(dy w r x).cell? ⟨r,1,none⟩=some (.int .i64 x.s)/\(dy w r x).cell? ⟨r,2,none⟩=some (.int .u32 x.n):=by
 have g:=cX (i:=2) (.int .u32 x.n) (cX (i:=1) (.int .i64 x.s) (cX (i:=0) (.bool x.p) h));exact⟨yo _ _ 0 _ _ _ g,yo _ _ 1 _ _ _ g,yo _ _ 2 _ _ _ g⟩
theorem ef (w:World)(r:Nat)(x:Rn.V):FrS (·=r) w (dy w r x) :=
 (((FrS.refl (fun k=>k=r) w).setCell (p:=⟨r,0,none⟩) rfl _).setCell (p:=⟨r,1,none⟩) rfl _).setCell (p:=⟨r,2,none⟩) rfl _
theorem dh (g:Gr W w)(hm:P.follows .mixedOrders=true)(hB:Region.lexB .any l.toArray=true)
  (h:wpQuiet P l.toArray (fun w'=>∃u:GrW W,w'=u.val) (fun a'=>∀w',(∃u:GrW W,w'=u.val)->Q .normal a' w') l a):(Code.region id l.toArray true).wp P Q a w :=
 wp_region_quiet (C:=fun w'=>∃u:GrW W,w'=u.val) hm hB ⟨⟨w.drew,g.drew⟩,rfl⟩ (by simpa using h)
theorem dQ (n:Nat)(g:Gr W w)(hm:P.follows .mixedOrders=true)(hB:ou l n=true)
  (h:wpQuiet P (l.take n).toArray (fun w'=>∃u:GrW W,w'=u.val) (fun a'=>∀w',(∃u:GrW W,w'=u.val)->wpList P l.toArray Q (l.drop n) a' w') (l.take n) a):(Code.region id l.toArray true).wp P Q a w :=
 eJ (C:=fun w'=>∃u:GrW W,w'=u.val) n hm hB ⟨⟨w.drew,g.drew⟩,rfl⟩ h
structure RB (w W:World)(r:Nat):Prop where
 row:W.heap[r]?=some (.cells #[.bool false,.int .i64 0,.int .u32 0] 24 (0,0))
 ge:w.heap.size<=r
 gr:Gr w W
theorem RB.ret (h:RB w W r)(g:Gr W w9)(v:Rn.V):Gr w (dy w9 r v)/\((dy w9 r v).cell? ⟨r,0,none⟩=some (.bool v.p)/\(dy w9 r v).cell? ⟨r,1,none⟩=some (.int .i64 v.s)/\(dy w9 r v).cell? ⟨r,2,none⟩=some (.int .u32 v.n)) :=
 ⟨gr_frs' (h.gr.trans g) (ef _ _ v) (fun k d=>by rw[d];exact h.ge),el ((g.heap _ (cY h.row)).trans h.row) v⟩
theorem RB.cells (h:RB w W r)(u:GrW W):u.val.cell? ⟨r,0,none⟩=some (.bool false)/\u.val.cell? ⟨r,1,none⟩=some (.int .i64 0)/\u.val.cell? ⟨r,2,none⟩=some (.int .u32 0)/\u.val.frozen? ⟨r,0,none⟩=false/\u.val.frozen? ⟨r,1,none⟩=false/\u.val.frozen? ⟨r,2,none⟩=false:=by have e:=(u.gr.heap _ (cY h.row)).trans h.row;exact⟨yo _ _ 0 _ _ _ e,yo _ _ 1 _ _ _ e,yo _ _ 2 _ _ _ e,yp _ _ 0 _ _ e,yp _ _ 1 _ _ e,yp _ _ 2 _ _ e⟩
theorem qa {W0:World}{va vt:Value}(h0:dW w x va vt=W0)(h1:fR W0=W):Gr w W0/\Gr W0 W/\RB w W (w.heap.size+1):=by
 subst h0;subst h1;have d:Gr w (dW w x va vt):=(yO w).alloc _;have g:Gr (dW w x va vt) (fR (dW w x va vt)):=(yO _).alloc _;have j:(dW w x va vt).heap.size=w.heap.size+1:=by unfold dW;simp
 refine⟨d,g,?_,by omega,d.trans g⟩;rw[<-j];exact heap_alloc_new _ _
section
variable {c:Cfg}{pk bl bl':List Int}{w w' w'':World}{s s':AN}{o o':zO}{om om' wv bv wv' bv':Value}
theorem ll {m:Nat}(p:DS c pk w' s' bl' o' om' wv' bv')(f:FrS (DO c wv bv) w w')(q:∀k,DO c wv' bv' k->DO c wv bv k\/m<=k)(hr:w.heap.size<=r)(hrm:r<m)(hn:c.n₀<=r)(hB:c.Bm≠r)(hD:¬DO c wv bv r)(x:Rn.V):DLeft c pk w wv bv s' bl' o' om' (dy w' r x):=by have j:=ef w' r x;refine⟨wv',bv',p.away j (fun k d=>by rw[d];exact⟨hn,fun e=>(q r e).elim hD (fun e=>by omega),fun e=>hB e.symm⟩),?_,fun k d=>(q k d).imp (fun e=>e) (fun e=>by omega)⟩;have g:=(f.mono (S':=fun k=>DO c wv bv k\/w.heap.size<=k) (fun k d=>.inl d)).trans (j.mono (fun k d=>.inr (by rw[d];exact hr)));exact⟨g.os,g.tape,g.output,g.size,fun k d hn=>g.block k d (fun q=>q.elim hn (fun q=>by omega))⟩
end
theorem iM {pk bl:List Int}{s:AN}{o:zO}{om wv bv:Value}(h:DS c pk w s bl o om wv bv)(hBm:c.Bm<w.heap.size)(hpk:∀z∈pk,0<=z/\z<4294967296)(hpl:pk.length<=1000)(n:Int)(hn:zi n)(hw:s.z.length<=1000) :
  Calls prog 177 #[.pointer (some ⟨c.Bs,0,none⟩),.int .i64 n] w fun e w'=>e=.returned (vv (DD (zo pk) s n))/\DLeft c pk w wv bv (s.chose n) bl o om w':=by
 obtain⟨i0,hi,ao,ap,aq⟩:=info_parts dK;obtain⟨A,m,rfl⟩:=h.wid.form;rw[yl]at h;rw[yl];obtain⟨W,hW⟩:=xJ (fR w);have g0:Gr w W:=by rw[<-hW];exact(yO w).alloc _
 have ai:W.heap.size=w.heap.size+1:=by rw[<-hW];unfold fR;simp
 have X:=h.gr g0;obtain⟨Ap,cp,E,p1,p2,p3⟩:=h.picks;obtain⟨N,hN⟩:=xJ s.z.length;have HN:=dJ hN;have aA:W.cell? ⟨c.Bs,11,none⟩=some (.slice A s.z.length m):=X.cell 11;have aI:W.frozen? ⟨c.Bs,11,none⟩=false:=yp _ _ 11 _ _ X.st;have U:=dJ X;have aa:Hid (c.n₀<=W.heap.size):=X.n₀;obtain⟨R,hR⟩:=xJ (zo pk s.z.length n);have af:Hid (¬s.z.length<pk.length->R=0):=fun q=>by rw[<-hR];unfold zo;rw[yt q]
 have ae:Hid (s.z.length<pk.length->∃x,pk[s.z.length]?=some x/\R=x%m9 n/\0<=x/\x<4294967296):=fun q=>by obtain⟨x,Y⟩:∃x,pk[s.z.length]?=some x:=⟨_,xR q⟩;exact⟨x,Y,by rw[<-hR];unfold zo;rw[yr q,xU,Y];rfl,hpk x (xT Y)⟩
 have au:Hid (DD (zo pk) s n=⟨false,0,R⟩):=by show _=_;unfold DD Ae;rw[hR]
 have ag:=dJ ai;have aj:¬DO c (.slice A N m) bv w.heap.size:=fun q=>by have:=h.lt (by rw[hN];exact q);omega
 have I:=dJ aj;have ar:=dJ hBm;have ab:Hid (c.n₀<=w.heap.size):=h.n₀;have av:=dJ fun(x:Int)(Z:World)(h0:0<=x)(X:x<4294967296)=>nJ n x Z hn (by omega) (by omega);have ac:=dJ E;have y:W.heap[w.heap.size]?=some (.cells #[.bool false,.int .i64 0,.int .u32 0] 24 (0,0)):=by rw[<-hW];exact heap_alloc_new w _
 have H:=dJ y;have ax:=dJ g0;have az:=dJ h.picks;rw[hN]at aA hw U af ae ⊢
 have G:Hid (∀(g:World)(C:Option Addr)(D:Nat)(x:Rn.V),DS c pk g (s.chose n) bl o om (.slice C (N+1) D) bv->FrS (DO c (.slice A N m) bv) W g->(∀k,DO c (.slice C (N+1) D) bv k->DO c (.slice A N m) bv k\/W.heap.size<=k)->DLeft c pk w (.slice A N m) bv (s.chose n) bl o om (dy g w.heap.size x)):=fun g C D x p f q =>
  ll p ((FrS.of_gr g0).trans f) q (yJ _) (by omega) ab.out (by have:=ar.out;omega) I.out x
 clear h X g0 hR hN ai hpk hBm hn aj p3 y;rw[au.out];unfold fR at hW;by_cases K:N<pk.length
 ·obtain⟨x,Y,ah,aB,aC⟩:=ae.out K;obtain⟨bp,op,aF,al,aG,ak⟩:=uw az.out Y;rw[E]at al;injection al with am _ an;subst am;subst an
  have ay:Hid (∀g,FrS (DO c (.slice A N m) bv) W g->(∀k,DO c (.slice A N m) bv k->c.n₀<=k)->g.cell? ⟨bp,op+N,none⟩=some (.int .u32 x)):=fun g f hd=>by have hb:=(FrS.of_gr (S:=DO c (.slice A N m) bv) ax.out).trans f;exact(yE (a:=⟨bp,op+N,none⟩) (hb.block bp (by have:=ab.out;omega) (fun q=>by have:=hd bp q;omega))).trans ak
  have aw:Hid (∀Z,Calls prog 197 #[.int .i64 n,.int .i64 x] Z (RS (.tuple #[.int .u32 R,.int .i64 0]) Z)):=fun Z=>by rw[ah];exact av.out x Z aB aC
  have aE:Hid (N<pk.length):=K;clear Y ah ak E
  go_enter func177, ntmps177
  go_wp2_with (first
    | (at_builtin;refine kZ (n:=N) (v:=.slice A N m) underlying33 hi ao ap aq rfl (by omega) rfl (.tmp 19) (.tmp 21) rfl (by rw[yl];exact HN.out) rfl U.out.wid rfl rfl (by omega) aa.out ?_;intro C D T u t j;
        obtain⟨Q,F,B,r3⟩:=U.out.pushW t u j;have aD:T.cell? ⟨c.Bs,11,none⟩=some (.slice A N m):=yo _ _ 11 _ _ _ Q;have y0:T.frozen? ⟨c.Bs,11,none⟩=false:=yp _ _ 11 _ _ Q;
        obtain⟨g,J⟩:=xJ (T.setCell ⟨c.Bs,11,none⟩ (.slice C (N+1) D));rw[J]at F B;have H3:=dJ F;have F3:=dJ B;have O3:=dJ r3;
        have e5:g.cell? ⟨c.Bs,5,none⟩=some c.ch:=yo _ _ 5 _ _ _ F.st;rw[ac.out]at e5;
        have d:=(B.block _ (by have:=ag.out;omega) I.out).trans H.out;have ad:=dJ d;
        have aH:=ay.out g B (fun k hk=>U.out.dlt hk);
        have e0:=yo _ _ 0 _ _ _ d;obtain⟨e1,e2⟩:=crw2 d 1 2;obtain⟨z0,z1⟩:=frw2 d 0 1;have z2:=yp _ _ 2 _ _ d;
        clear Q F B r3 u t j d)
    | (go_at_call 197;refine(aw.out _).mono ?_;rintro e w7 ⟨rfl,rfl⟩;
        obtain⟨L,M,O⟩:=el ad.out ⟨false,0,R⟩;have r:=dJ (G.out g C D ⟨false,0,R⟩ H3.out F3.out O3.out);
        obtain⟨W9,l⟩:=xJ (dy g w.heap.size ⟨false,0,R⟩);rw[l]at L M O r;unfold dy at l;dsimp only at l L M O))
  refine yq (v:=vv ⟨false,0,R⟩) (by simp[results,results177,go_sem,L,M,O];rfl) rfl ?_;exact⟨rfl,r.out⟩
 ·have HE:=dJ (af.out K);clear E
  go_enter func177, ntmps177
  go_wp2_with (first
    | (at_builtin;refine kZ (n:=N) (v:=.slice A N m) underlying33 hi ao ap aq rfl (by omega) rfl (.tmp 19) (.tmp 21) rfl (by rw[yl];exact HN.out) rfl U.out.wid rfl rfl (by omega) aa.out ?_;intro C D T u t j;
        obtain⟨Q,F,B,r3⟩:=U.out.pushW t u j;have aD:T.cell? ⟨c.Bs,11,none⟩=some (.slice A N m):=yo _ _ 11 _ _ _ Q;have y0:T.frozen? ⟨c.Bs,11,none⟩=false:=yp _ _ 11 _ _ Q;
        obtain⟨g,J⟩:=xJ (T.setCell ⟨c.Bs,11,none⟩ (.slice C (N+1) D));rw[J]at F B;have H3:=dJ F;have F3:=dJ B;have O3:=dJ r3;
        have e5:g.cell? ⟨c.Bs,5,none⟩=some c.ch:=yo _ _ 5 _ _ _ F.st;rw[ac.out]at e5;
        have d:=(B.block _ (by have:=ag.out;omega) I.out).trans H.out;have ad:=dJ d;
        have e0:=yo _ _ 0 _ _ _ d;obtain⟨e1,e2⟩:=crw2 d 1 2;obtain⟨z0,z1⟩:=frw2 d 0 1;have z2:=yp _ _ 2 _ _ d;
        obtain⟨L,M,O⟩:=el d Rn.zero;have r:=dJ (G.out g C D Rn.zero H3.out F3.out O3.out);
        obtain⟨W9,l⟩:=xJ (dy g w.heap.size Rn.zero);rw[l]at L M O r;unfold dy at l;dsimp only[Rn.zero]at l L M O;
        clear Q F B r3 u t j d))
  refine yq (v:=vv Rn.zero) (by simp[results,results177,go_sem,L,M,O];rfl) rfl ?_;exact⟨by rw[HE.out];rfl,r.out⟩
theorem fe (x y:Int)(w:World):Calls prog 184 #[.int .i64 x,.int .i64 y] w (RT (.int .i64 (CU x y)) w):=by
 have m:∀z,((x<y/\z=-1)\/(¬x<y/\y<x/\z=1)\/(¬x<y/\¬y<x/\z=0))->z=CU x y:=by
  intro z h;unfold CU;rcases h with ⟨g,d⟩|⟨g,d,l⟩|⟨g,d,l⟩
  ·rw[yr g];exact d
  ·rw[yt g,yr d];exact l
  ·rw[yt g,yt d];exact l
 have j:=dJ m;clear m;rcases Int.lt_trichotomy x y with h|h|h
 ·go_enter func184, ntmps184
  go_wp2;go_ret;exact⟨dg (j.out _ (.inl ⟨h,rfl⟩)),rfl⟩
 ·subst h
  go_enter func184, ntmps184
  go_wp2;go_ret;exact⟨dg (j.out _ (.inr (.inr ⟨by omega,by omega,rfl⟩))),rfl⟩
 ·have d:¬x<y:=by omega
  go_enter func184, ntmps184
  go_wp2;go_ret;exact⟨dg (j.out _ (.inr (.inl ⟨d,h,rfl⟩))),rfl⟩
theorem rR (b:Bool)(w:World):Calls prog 183 #[.bool b] w (RT (.int .i64 (Gm b)) w):=by
 cases b
 all_goals
  go_enter func183, ntmps183
  go_wp2;go_ret;exact⟨dg (by decide),rfl⟩
namespace Rn
theorem JS {a b:List Int}(ha:k<=a.length)(hb:k<=b.length)(h:k=a.length\/k=b.length):AL (a.drop k) (b.drop k)=CU a.length b.length:=by
 rcases h with rfl|rfl
 ·rw[yj (yJ a.length)];rcases yw a.length b.length with q|q
  ·rw[yg q,AL];unfold CU;rw[yr (by omega)]
  ·rw[yj q,AL];unfold CU;rw[yt (by omega),yt (by omega)]
 ·rw[yj (yJ b.length)];rcases yw b.length a.length with q|q
  ·rw[yg q,AL];unfold CU;rw[yt (by omega),yr (by omega)]
  ·rw[yj q,AL];unfold CU;rw[yt (by omega),yt (by omega)]
theorem Ku {a b:List (List Int)}(ha:k<=a.length)(hb:k<=b.length)(h:k=a.length\/k=b.length):Da (a.drop k) (b.drop k)=CU a.length b.length:=by
 rcases h with rfl|rfl
 ·rw[yj (yJ a.length)];rcases yw a.length b.length with q|q
  ·rw[yg q,Da];unfold CU;rw[yr (by omega)]
  ·rw[yj q,Da];unfold CU;rw[yt (by omega),yt (by omega)]
 ·rw[yj (yJ b.length)];rcases yw b.length a.length with q|q
  ·rw[yg q,Da];unfold CU;rw[yt (by omega),yr (by omega)]
  ·rw[yj q,Da];unfold CU;rw[yt (by omega),yt (by omega)]
end Rn
theorem jZ {a b:List Int}(hv:IntsAt B w v a)(hv':IntsAt B w v' b)(hB:B<=w.heap.size) :
  Calls prog 182 #[v,v'] w (RG (.int .i64 (AL a b)) w):=by
 obtain⟨A,ca,rfl,a1,a2,a3⟩:=hv;obtain⟨W,cb,rfl,b1,b2,O⟩:=hv';obtain⟨R,J⟩:=xJ (AL a b);have X:=dJ J
 have Y:Hid (∀wr,Gr w wr->∀k x,a[k]?=some x->∃j m,A=some ⟨j,m,none⟩/\∀u:GrW wr,u.val.cell? ⟨j,m+k,none⟩=some (.int .i64 x)):=fun wr g k x l=>by obtain⟨j,m,e,hb,a4⟩:=a3 (by have:=(xS.1 l).1;omega);exact⟨j,m,e,fun u=>((g.trans u.gr).cell _ _ (by omega)).trans (a4 k x l)⟩
 have Z:Hid (∀wr,Gr w wr->∀k x,b[k]?=some x->∃j m,W=some ⟨j,m,none⟩/\∀u:GrW wr,u.val.cell? ⟨j,m+k,none⟩=some (.int .i64 x)):=fun wr g k x l=>by obtain⟨j,m,e,hb,b4⟩:=O (by have:=(xS.1 l).1;omega);exact⟨j,m,e,fun u=>((g.trans u.gr).cell _ _ (by omega)).trans (b4 k x l)⟩
 rw[J];clear J a3 O
 go_enter func182, ntmps182
 go_wp2
 go_loopw [5] (fun K wr=>∃k:Nat,k<=a.length/\k<=b.length/\K=.int .i64 (k:Int)/\Hid (AL (a.drop k) (b.drop k)=R)/\Hid (Gr w wr)) (fun K _=>a.length-(intOf K).toNat)
 case atStart=>exact⟨0,yI _,yI _,rfl,X,yO w⟩
 case round =>
  obtain⟨k,E,F,rfl,C,z⟩:=hrel;by_cases r:k<a.length
  ·by_cases q:k<b.length
   ·obtain⟨x,l⟩:∃x,a[k]?=some x:=⟨_,xR r⟩;obtain⟨y,G⟩:∃y,b[k]?=some y:=⟨_,xR q⟩;obtain⟨j,m,rfl,M⟩:=Y.out wr z.out k x l;obtain⟨bb,ob,rfl,N⟩:=Z.out wr z.out k y G;have Q:a.drop k=x::a.drop (k+1):=by rw[yg r];congr 1;rw[xR r]at l;injection l
    have S:b.drop k=y::b.drop (k+1):=by rw[yg q];congr 1;rw[xR q]at G;injection G
    have p:=dJ fun(u:GrW wr)=>dZ (fe x y u.val)
    have I:Hid ((if CU x y=0 then AL (a.drop (k+1)) (b.drop (k+1)) else CU x y)=R):=by show _=_;have:=C.out;rw[Q,S,AL]at this;exact this
    obtain⟨d,U⟩:=xJ (CU x y);rw[U]at p I;clear l G Q S U C;by_cases T:d=0
    ·subst T;go_wp2;refine dc (by kernel_rfl) (by kernel_rfl) ?_;repeat (go_big_quiet_step ((rename_i u;go_at_call 184;exact dk u (p.out u))))
     refine wpQuiet_nil ?_;intro w9 t;obtain⟨L,rfl⟩:=t;have H:=dJ (z.out.trans L.gr);clear M N;go_wp2;go_roundw;case rel=>exact⟨k+1,by omega,by omega,by go_num,by (show _=_);have:=I.out;simpa using this,H.out⟩
     case measure=>simp[intOf];omega
    ·have D:Hid (R=d):=by show _=_;have:=I.out;rw[yt T]at this;exact this.symm
     go_wp2;refine dc (by kernel_rfl) (by kernel_rfl) ?_;repeat (go_big_quiet_step ((rename_i u;go_at_call 184;exact dk u (p.out u))))
     refine wpQuiet_nil ?_;intro w9 t;obtain⟨L,rfl⟩:=t;have H:=dJ (z.out.trans L.gr);clear M N;go_wp2;go_ret;exact⟨dg D.out.symm,H.out⟩
   ·obtain rfl:k=b.length:=by omega
    have D:Hid (R=CU a.length b.length):=by show _=_;rw[<-C.out];exact JS E F (.inr rfl)
    have p:=dJ (fe a.length b.length wr);clear C;go_wp2_with (go_at_call 184;refine p.out.mono ?_;rintro e w1 ⟨rfl,rfl⟩);go_ret;exact⟨dg D.out.symm,z.out⟩
  ·obtain rfl:k=a.length:=by omega
   have D:Hid (R=CU a.length b.length):=by show _=_;rw[<-C.out];exact JS E F (.inl rfl)
   have p:=dJ (fe a.length b.length wr);clear C;go_wp2_with (go_at_call 184;refine p.out.mono ?_;rintro e w1 ⟨rfl,rfl⟩);go_ret;exact⟨dg D.out.symm,z.out⟩
end

/- Parts. -/
import Derived.Test.YthfhamagopbgcaaGreatL36
set_option linter.unusedSimpArgs false
set_option linter.unusedVariables false
set_option maxRecDepth 100000
set_option maxHeartbeats 16000000
open Go.Proofs.Tryz
namespace Go.Proofs.YthfhamagopbgcaaGreat
section
open Go.RowKit
theorem mT {B:Nat}{e:TypeId}{w:World}{A:Option Addr}{n c k:Nat}{xs:List Value}(h:Own1 B e w (.slice A n c) xs)(hk:k<=xs.length):Own1 B e w (.slice A k c) (xs.take k):=by
 obtain⟨D,r⟩:=h;have hl:(xs.take k).length=k:=by rw[List.length_take];omega
 refine⟨by omega,?_⟩;rcases r with ⟨hv,C⟩|⟨g,p,d,hv,t,u,E,y,z,m⟩
 ·injection hv with j q l;subst j;subst l;exact .inl ⟨by rw[show k=0 by omega],by rw[hl];omega⟩
 ·injection hv with j q l;subst j;subst l;refine .inr ⟨g,c,d,by rw[hl],t,u,by rw[hl];omega,y,z,?_⟩;rw[Nat.mul_one]at m;have e:xs.take k=(d.toList.take xs.length).take k:=by rw[m]
  rw[hl,Nat.mul_one,e,List.take_take,Nat.min_eq_left hk]
theorem tC {B:Nat}{e:TypeId}{w:World}{b n c j:Nat}{xs:List Value}(h:Own1 B e w (.slice (some ⟨b,0,none⟩) n c) xs)(hj:j<xs.length)(y:Value):Own1 B e (w.setCell ⟨b,j,none⟩ y) (.slice (some ⟨b,0,none⟩) n c) (xs.set j y):=by
 obtain⟨F,u⟩:=h;refine⟨by rw[List.length_set];omega,?_⟩;rcases u with ⟨hv,E⟩|⟨g,q,d,hv,z,A,G,C,D,p⟩
 ·cases hv
 ·injection hv with l r t;have m:b=g:=by injection l with l;injection l
  subst m;subst t;refine .inr ⟨b,c,d.setIfInBounds j y,by rw[List.length_set,<-r],z,cX y A,by rw[List.length_set];omega,C,by simpa using D,?_⟩;rw[Nat.mul_one]at p;have e:xs.set j y=(d.toList.take xs.length).set j y:=by rw[p]
  rw[List.length_set,Nat.mul_one,Array.toList_setIfInBounds,e,List.take_set]
namespace Rn
theorem bump_take (p:List Int)(k:Nat)(h:k<p.length):(p.set k (p.getD k 0+1)).take (k+1)=bump p k:=by
 unfold bump;rw[List.take_set,List.take_add_one,vu h];have e:(p.take k).length=k:=by rw[List.length_take];omega
 rw[List.set_append];rw[yD (by omega),e,Nat.sub_self];rfl
end Rn
theorem nI {B Bg:Nat}{w:World}{p ws:List Int}{u:Nat}{vp vw:Value}(h:ExAt B Bg w p ws u vp vw)(hl:ws.length=p.length)(hp:p.length<=1000000)(hw:∀z∈ws,Wd.Wid z)(hr:∀z∈p,0<=z/\z<4294967296)
  {R:Option Nat} (hR:Rn.nextK p ws p.length=R) :
  Calls prog 52 #[.pointer (some ⟨Bg,0,none⟩)] w fun e w'=>e=.returned (.bool R.isSome)/\FrS (exO Bg vp vw) w w' /\
   (R=none->ExAt B Bg w' p ws 0 vp vw)/\∀k,R=some k->∃vp' vw',ExAt B Bg w' (Rn.bump p k) (ws.take (k+1)) 0 vp' vw'/\∀k,exO Bg vp' vw' k->exO Bg vp vw k:=by
 have ao:=h.pth.form;obtain⟨A,c,rfl⟩:=ao;have ar:=h.wid.form;obtain⟨A',D,rfl⟩:=ar;rw[vS]at h;rw[vS]at h;rw[vS,vS];have f2:w.frozen? ⟨Bg,2,none⟩=false:=vY _ _ 2 _ _ h.st;have g2:w.cell? ⟨Bg,2,none⟩=some (.int .i64 u):=vX _ _ 2 _ _ _ h.st;obtain⟨W,hW⟩:=xJ (w.setCell ⟨Bg,2,none⟩ (.int .i64 0));have hF:FrS (fun k=>k=Bg) w W:=by rw[<-hW];exact(FrS.refl (fun k=>k=Bg) w).setCell (p:=⟨Bg,2,none⟩) rfl _
 have h0:ExAt B Bg W p ws 0 (.slice A p.length c) (.slice A' ws.length D):=by rw[<-hW];exact h.used 0
 have c0:W.cell? ⟨Bg,0,none⟩=some (.slice A p.length c):=vX _ _ 0 _ _ _ h0.st;have c1:W.cell? ⟨Bg,1,none⟩=some (.slice A' p.length D):=by rw[<-hl];exact vX _ _ 1 _ _ _ h0.st
 have l:=dJ h0;have HF:=dJ hF;have HL:=dJ hl;have ac:=dJ hw;have ab:=dJ hr;have HR:=dJ hR;clear h h0 hF hl hw hr hR
 go_enter func52, ntmps52
 go_wp2
 go_loop [3] (fun s3=>∃(n:Nat)(z:Int),n<=p.length/\z+1=n/\s3=.int .i64 z/\Hid (Rn.nextK p ws n=R)) (fun s3=>(intOf s3+1).toNat)
 case atStart=>exact⟨p.length,(p.length:Int)-1,vV _,by omega,rfl,HR⟩
 case round =>
  obtain⟨n,z,hn,hz,rfl,t⟩:=hrel;rcases Nat.eq_zero_or_pos n with rfl|aB
  ·obtain rfl:z=-1:=by omega
   have H:Hid (R=none):=by show _=_;rw[<-t.out];rfl
   clear t;go_wp2;go_ret;refine⟨cZ (by rw[H.out];rfl),HF.out.mono fun k d=>.inl d,fun _=>l.out,fun k d=>by rw[H.out]at d;cases d⟩
  ·obtain⟨j,rfl⟩:∃j,n=j+1:=⟨n-1,by omega⟩;obtain rfl:z=(j:Int):=by omega
   clear hz;obtain⟨x,L⟩:∃x,p[j]?=some x:=⟨_,vu (by omega)⟩;obtain⟨y,Z⟩:∃y,ws[j]?=some y:=⟨_,vu (by have:=HL.out;omega)⟩;obtain⟨b,cc,ev,q1,-,q3,q4,q5⟩:=sq l.out.pth (j:=j) (x:=.int .u32 x) (by rw[vH,L];rfl);injection ev with af ag ah;clear ag;subst af;subst ah;obtain⟨r,aC,ae,aa,-,aF,aG,aH⟩:=sq l.out.wid (j:=j) (x:=.int .i64 y) (by rw[vH,Z];rfl);injection ae with O Q S;clear Q;subst O;subst S;rw[vS]at q1 aa;have K:=ac.out y (vz Z);obtain⟨x0,x1⟩:=ab.out x (vz L);have CM:=dJ (kn y W K);have aq:=Wd.sz_32 K;have ap:=Wd.sz_pos y;have U:j<p.length:=by omega
   have ai:b≠Bg:=by obtain⟨-,-,ad,q⟩:=dg l.out.pth (k:=b) rfl;exact dn q l.out.st (by decide)
   have aD:b≠r:=by obtain⟨-,-,ad,q⟩:=dg l.out.pth (k:=b) rfl;obtain⟨-,-,N,q'⟩:=dg l.out.wid (k:=r) rfl;exact dn q q' (by decide)
   have E:Rn.nextK p ws (j+1)=if x+1<Wd.sz y then some j else Rn.nextK p ws j:=by rw[Rn.nextK,vA,L,vA,Z];rfl
   have I:=dJ E;have aj:=HL.out;have aE:p.length<=D:=by omega
   have gx:p.getD j 0=x:=by rw[vA,L];rfl
   obtain⟨m,Y⟩:=xJ (Wd.sz y);rw[Y]at CM aq ap I;have HY:=dJ Z;have HX:=dJ L;have HG:=dJ gx;clear L Z K E Y gx aj aa;by_cases X:x+1<m
   ·have H:Hid (R=some j):=by show _=_;rw[<-t.out,I.out,wa X]
    have au:x<m-1:=by omega
    have f0:W.frozen? ⟨Bg,0,none⟩=false:=vY _ _ 0 _ _ l.out.st;have f1:W.frozen? ⟨Bg,1,none⟩=false:=vY _ _ 1 _ _ l.out.st;obtain⟨C,T⟩:=xJ (W.setCell ⟨b,j,none⟩ (.int .u32 (x+1)));have G:FrS (fun k=>k=b) W C:=by rw[<-T];exact(FrS.refl (fun k=>k=b) W).setCell (p:=⟨b,j,none⟩) rfl _
    have g:C.heap[Bg]?=some (.cells #[.slice (some ⟨b,0,none⟩) p.length c,.slice (some ⟨r,0,none⟩) ws.length D,.int .i64 (0:Nat)] 86 (0,0)):=(G.block Bg (cY l.out.st) (fun e=>ai e.symm)).trans l.out.st;have av:=dJ g
    have own3:Own1 B 35 C (.slice (some ⟨b,0,none⟩) p.length c) ((p.set j (x+1)).map (Value.int .u32)):=by rw[<-T,List.map_set];have:=tC l.out.pth (j:=j) (by rw[vS];exact U) (.int .u32 (x+1));exact this
    have F:Own1 B 3 C (.slice (some ⟨r,0,none⟩) ws.length D) (ws.map (Value.int .i64)):=dr l.out.wid fun k d=>G.block k (dg l.out.wid d).2.1 (fun e=>by
      have:k=r:=by simp[Value.ownBlock]at d;exact d.symm
      omega)
    have d0:C.cell? ⟨Bg,0,none⟩=some (.slice (some ⟨b,0,none⟩) p.length c):=vX _ _ 0 _ _ _ g;have d1:C.cell? ⟨Bg,1,none⟩=some (.slice (some ⟨r,0,none⟩) p.length D):=by rw[<-HL.out];exact vX _ _ 1 _ _ _ g
    have z0:C.frozen? ⟨Bg,0,none⟩=false:=vY _ _ 0 _ _ g;have z1:C.frozen? ⟨Bg,1,none⟩=false:=vY _ _ 1 _ _ g;have am:j+1<=ws.length:=by have:=HL.out;omega
    have aw:(j:Int)+1<=(c:Int):=by omega
    have ax:(j:Int)+1<=(D:Int):=by omega
    have ay:IntKind.i64.wrap ((j:Int)+1)=(j:Int)+1:=IntWalk.i64_in _ (by omega);have az:(0:Int)<=(j:Int)+1:=by omega
    have aA:((j:Int)+1).toNat=j+1:=by omega
    have M:Hid (∀w9,w9=((C.setCell ⟨Bg,0,none⟩ (.slice (some ⟨b,0,none⟩) (j+1) c)).setCell ⟨Bg,1,none⟩ (.slice (some ⟨r,0,none⟩) (j+1) D)).drew ->
        FrS (exO Bg (.slice (some ⟨b,0,none⟩) p.length c) (.slice (some ⟨r,0,none⟩) ws.length D)) w w9/\∃vp' vw',ExAt B Bg w9 (Rn.bump p j) (ws.take (j+1)) 0 vp' vw'/\∀k,exO Bg vp' vw' k->exO Bg (.slice (some ⟨b,0,none⟩) p.length c) (.slice (some ⟨r,0,none⟩) ws.length D) k):=by
     rintro w9 rfl;have f9:FrS (fun k=>k=Bg) C (((C.setCell ⟨Bg,0,none⟩ (.slice (some ⟨b,0,none⟩) (j+1) c)).setCell ⟨Bg,1,none⟩ (.slice (some ⟨r,0,none⟩) (j+1) D)).drew):=(((FrS.refl (fun k=>k=Bg) C).setCell (p:=⟨Bg,0,none⟩) rfl _).setCell (p:=⟨Bg,1,none⟩) rfl _).drew;refine⟨((HF.out.mono fun k d=>.inl d).trans (G.mono fun k d=>.inr (.inl (by rw[d];rfl)))).trans (f9.mono fun k d=>.inl d),.slice (some ⟨b,0,none⟩) (j+1) c,.slice (some ⟨r,0,none⟩) (j+1) D,⟨cX (i:=1) _ (cX (i:=0) _ g),?_,?_,l.out.ge⟩,fun k d=>d⟩
     ·have J:=mT own3 (k:=j+1) (by rw[vS,List.length_set];omega);rw[<-List.map_take,<-HG.out,Rn.bump_take p j U]at J
      exact dr J fun k d=>f9.block k (dg J d).2.1 (fun e=>by
        have:k=b:=by simp[Value.ownBlock]at d;exact d.symm
        omega)
     ·have J:=mT F (k:=j+1) (by rw[vS];omega);rw[<-List.map_take]at J;obtain⟨-,-,N,q'⟩:=dg F (k:=r) rfl
      exact dr J fun k d=>f9.block k (dg J d).2.1 (fun e=>by
        have an:k=r:=by simp[Value.ownBlock]at d;exact d.symm
        subst an
        exact dn q' g (by decide) e)
    clear G own3 F g t am;go_wp2_with (go_at_call 39;refine CM.out.mono ?_;rintro e w1 ⟨rfl,rfl⟩)
    go_region_with (fail)
    all_goals go_wp2
    all_goals go_ret
    all_goals
     obtain⟨e1,e2⟩:=M.out _ rfl;refine⟨cZ (by rw[H.out];rfl),e1,?_,?_⟩
     ·intro q;rw[H.out]at q;cases q
     ·intro k d;rw[H.out]at d;injection d with d;subst d;exact e2
   ·have H:Hid (Rn.nextK p ws j=R):=by show _=_;rw[<-t.out,I.out,yD X]
    have au:¬x<m-1:=by omega
    clear t;go_wp2_with (go_at_call 39;refine CM.out.mono ?_;rintro e w1 ⟨rfl,rfl⟩);go_round
    case rel =>
     have ak:j<=p.length:=by omega
     have al:(j:Int)-1+1=(j:Int):=by omega
     exact⟨j,(j:Int)-1,ak,al,rfl,H⟩
    case measure=>first|(simp[intOf];done)|(simp[intOf];omega)
theorem lV {Bg B k:Nat}{vp:Value}{picks:List Int}{w:World}(hb:w.heap[Bg]?=some (.cells #[vp,.int .i64 k] 120 (0,0)))(hv:U32At B w vp picks)(hBg:B<=Bg)(n:Int)(hn:Wd.Wid n)(hk:k<=1000000)(hr:∀z∈picks,0<=z/\z<4294967296) :
  Calls prog 265 #[.pointer (some ⟨Bg,0,none⟩),.int .i64 n] w fun e w'=>e=.returned (.int .u32 (Rn.given picks k n))/\w'.heap[Bg]?=some (.cells #[vp,.int .i64 (k+1:Nat)] 120 (0,0))/\FrS (·=Bg) w w':=by
 have F:w.cell? ⟨Bg,0,none⟩=some vp:=vX _ _ 0 _ _ _ hb;have G:w.cell? ⟨Bg,1,none⟩=some (.int .i64 k):=vX _ _ 1 _ _ _ hb;have J:w.frozen? ⟨Bg,1,none⟩=false:=vY _ _ 1 _ _ hb;obtain⟨W,C⟩:=xJ (w.setCell ⟨Bg,1,none⟩ (.int .i64 ((k:Int)+1)))
 have g:W.heap[Bg]?=some (.cells #[vp,.int .i64 (k+1:Nat)] 120 (0,0)):=by have:=cX (i:=1) (.int .i64 ((k:Int)+1)) hb;rw[C]at this;exact this
 have t:FrS (·=Bg) w W:=by rw[<-C];exact(FrS.refl (·=Bg) w).setCell (p:=⟨Bg,1,none⟩) rfl _
 have H:W.cell? ⟨Bg,0,none⟩=some vp:=vX _ _ 0 _ _ _ g;obtain⟨A,c,rfl,K,L,v3⟩:=hv;have d:=dJ (And.intro g t);by_cases j:k<picks.length
 ·obtain⟨z,l⟩:∃z,picks[k]?=some z:=⟨_,vu j⟩;obtain⟨u,op,rfl,E,v4⟩:=v3 (by omega)
  have I:W.cell? ⟨u,op+k,none⟩=some (.int .u32 z):=by
   rw[<-v4 k z l]
   exact wA (t.block u (by
     have:=v4 k z l
     rcases wh u w.heap.size with q|q
     · exact q
     · simp[World.cell?,Array.getElem?_eq_none q]at this) (by omega))
  obtain⟨z0,N⟩:=hr z (vz l);have y:=dJ (sO n z W hn)
  have r:Hid (Rn.given picks k n=z%Wd.sz n):=by show _=_;unfold Rn.given;rw[wa j,vA,l];rfl
  obtain⟨m,D⟩:=xJ (z%Wd.sz n);rw[D]at y r;clear v3 v4 l hr hb g t hn D
  go_enter func265, ntmps265
  go_wp2_with (go_at_call 266;refine y.out.mono ?_;rintro e M ⟨rfl,rfl⟩);go_ret;exact⟨de r.out.symm,d.out.1,d.out.2⟩
 ·have r:Hid (Rn.given picks k n=0):=by show _=_;exact Rn.given_out (by omega) n
  clear v3 hr hb g t hn
  go_enter func265, ntmps265
  go_wp2;go_ret;exact⟨de r.out.symm,d.out.1,d.out.2⟩
theorem uF (p:Addr)(w:World):(method 377 118 (.pointer (some p)) "backstay/run.choose").run prog w=.ok (265,.pointer (some p)) w:=by kernel_rfl
theorem uE (p:Value)(n:Int)(w:World):(callFunc 265 #[p,.int .i64 n]).run prog w=.ok (.enter 265 #[p,.int .i64 n]) w:=by kernel_rfl
theorem U32At.frs {B:Nat}{w w':World}{v:Value}{zs:List Int}{S:Nat->Prop}(h:U32At B w v zs)(hB:B<=w.heap.size)(hF:FrS S w w')(hS:∀k,S k->B<=k):U32At B w' v zs :=
 SlAt.imp h fun b off l d j z g=>by rw[<-d j z g];exact wA (hF.block b (by omega) (fun q=>by have:=hS b q;omega))
def sX (c:Cfg)(Bg:Nat)(vp:Value)(picks:List Int)(fin:List Int)(hch:c.ch=.iface 118 (.pointer (some ⟨Bg,0,none⟩)))(hr:∀z∈picks,0<=z/\z<4294967296)(hBg:c.n₀<=Bg/\¬Kept c Bg)(hfin:fin.length<=1000000):eD c (Rn.given picks) fin where
 ty:=118
 ptr:=.pointer (some ⟨Bg,0,none⟩)
 fnum:=265
 ech:=hch
 inv:=fun w=>uF _ w
 ent:=fun n w=>uE _ n w
 At:=fun w ws O=>w.heap[Bg]?=some (.cells #[vp,.int .i64 ws.length] 120 (0,0))/\U32At c.n₀ w vp picks/\O=(fun k=>k=Bg)
 apart:=fun {w ws O} h k hk=>by obtain⟨h1,-,rfl⟩:=h;subst hk;exact⟨hBg.1,cY h1,hBg.2⟩
 keep:=fun {w w' ws O S} h hF hS=>by obtain⟨h1,h2,rfl⟩:=h;have hlt:=cY h1;exact⟨(hF.block Bg hlt (fun q=>(hS Bg q).2 rfl)).trans h1,h2.frs (by omega) hF (fun k hk=>(hS k hk).1),rfl⟩
 call:=fun {w ws O} n h hn hp=>by obtain⟨h1,h2,rfl⟩:=h;have hl:=hp.length_le;rw[vW,List.length_singleton]at hl;have hlt:=cY h1;refine(lV h1 h2 hBg.1 n hn (by omega) hr).mono fun e w' h=>⟨h.1,h.2.2,_,⟨?_,h2.frs (by omega) h.2.2 (fun k hk=>by rw[hk];exact hBg.1),rfl⟩,fun k hk=>.inl hk⟩;rw[vW,List.length_singleton];exact h.2.1
namespace Rn
theorem padded_snoc {p:List Int}{n:Nat}(h:p.length<=n):padded p n++[0]=padded p (n+1):=by unfold padded;rw[List.append_assoc,show n+1-p.length=(n-p.length)+1 by omega,List.replicate_succ']
theorem padded_self (p:List Int):padded p p.length=p:=by unfold padded;simp
theorem take_snoc {ws fin:List Int}{n:Int}(h:ws++[n] <+: fin):fin.take ws.length++[n]=fin.take (ws.length+1)/\fin.getD ws.length 0=n:=by
 obtain⟨t,rfl⟩:=h;constructor
 ·simp[List.take_append,List.take_add_one]
 ·simp[vA]
end Rn
theorem uD (p:Addr)(w:World):(method 377 84 (.pointer (some p)) "backstay/run.choose").run prog w=.ok (264,.pointer (some p)) w:=by kernel_rfl
theorem uC (p:Value)(n:Int)(w:World):(callFunc 264 #[p,.int .i64 n]).run prog w=.ok (.enter 264 #[p,.int .i64 n]) w:=by kernel_rfl
def sJ (B Bg:Nat)(p0 fin:List Int)(w:World)(ws:List Int)(vp vw:Value):Prop :=
 ExAt B Bg w (Rn.padded p0 (max p0.length ws.length)) (fin.take (max p0.length ws.length)) ws.length vp vw
def nJ (c:Cfg)(B Bg:Nat)(p0:List Int)(fin:List Int)(hch:c.ch=.iface 84 (.pointer (some ⟨Bg,0,none⟩)))(hB:c.n₀<=B)(hp:p0.length<=fin.length)(hgood:∀j:Nat,j<p0.length->0<=p0.getD j 0/\p0.getD j 0<Wd.sz (fin.getD j 0))(hfin:fin.length<=1000000) :
  eD c (Rn.given p0) fin where
 ty:=84
 ptr:=.pointer (some ⟨Bg,0,none⟩)
 fnum:=264
 ech:=hch
 inv:=fun w=>uD _ w
 ent:=fun n w=>uC _ n w
 At:=fun w ws O=>(∃vp vw,sJ B Bg p0 fin w ws vp vw/\O=exO Bg vp vw)/\(∀k,Kept c k->k<w.heap.size)/\∀k,O k->¬Kept c k
 apart:=fun {w ws O} h k hk=>by
  obtain⟨⟨vp,vw,h1,rfl⟩,h2,h3⟩:=h;refine⟨?_,?_,h3 k hk⟩
  ·rcases hk with rfl|hk|hk
   ·have:=h1.ge;omega
   ·have:=(dg h1.pth hk).1;omega
   ·have:=(dg h1.wid hk).1;omega
  ·rcases hk with rfl|hk|hk
   ·exact cY h1.st
   ·exact(dg h1.pth hk).2.1
   ·exact(dg h1.wid hk).2.1
 keep:=fun {w w' ws O S} h hF hS=>by obtain⟨⟨vp,vw,h1,rfl⟩,h2,h3⟩:=h;exact⟨⟨vp,vw,h1.frs hF (fun k hk q=>(hS k q).2 hk),rfl⟩,fun k hk=>by have:=h2 k hk;have:=hF.size;omega,h3⟩
 call:=fun {w ws O} n h hn hpre=>by
  obtain⟨⟨vp,vw,h1,rfl⟩,h2,h3⟩:=h;have hl:=hpre.length_le;rw[vW,List.length_singleton]at hl;obtain⟨t1,t2⟩:=Rn.take_snoc hpre;rcases wh ws.length p0.length with hk|hk
  ·have hm:max p0.length ws.length=p0.length:=by omega
   have h1':ExAt B Bg w p0 (fin.take p0.length) ws.length vp vw:=by have:=h1;unfold sJ at this;rwa [hm,Rn.padded_self]at this
   refine(lS h1' hk (by omega) n).mono fun e w' h=>⟨?_,h.2.2.mono fun k hk=>.inl hk,exO Bg vp vw,⟨⟨vp,vw,?_,rfl⟩,fun k hk=>by have:=h2 k hk;have:=h.2.2.size;omega,h3⟩,fun k hk=>.inl hk⟩
   ·rw[h.1];have hg:=hgood ws.length hk;unfold Rn.given;rw[wa hk,Int.emod_eq_of_lt hg.1 (by rw[<-t2];exact hg.2)]
   ·unfold sJ;rw[vW,List.length_singleton,show max p0.length (ws.length+1)=p0.length by omega,Rn.padded_self];exact h.2.1
  ·have hm:max p0.length ws.length=ws.length:=by omega
   have hpl:(Rn.padded p0 ws.length).length=ws.length:=Rn.padded_len hk;have h1':ExAt B Bg w (Rn.padded p0 ws.length) (fin.take ws.length) (Rn.padded p0 ws.length).length vp vw:=by have:=h1;unfold sJ at this;rw[hm]at this;rw[hpl];exact this
   refine(kI h1' (by rw[hpl,List.length_take];omega) (by omega) n).mono fun e w' h=>⟨?_,?_⟩
   ·rw[h.1,Rn.given_out hk]
   ·obtain⟨-,vp',vw',q1,q2,q3⟩:=h;refine⟨q2,exO Bg vp' vw',⟨⟨vp',vw',?_,rfl⟩,fun k hk=>by have:=h2 k hk;have:=q2.size;omega,fun k hk hK=>?_⟩,q3⟩
    ·unfold sJ;rw[vW,List.length_singleton,show max p0.length (ws.length+1)=ws.length+1 by omega,<-Rn.padded_snoc hk,<-t1];rw[hpl]at q1;exact q1
    ·rcases q3 k hk with q|q
     ·exact h3 k q hK
     ·have:=h2 k hK;omega
def Dc (c:Cfg)(k:Nat):Prop:=(0<c.us.length/\k=c.Bm)\/∃j cp:Nat,c.us[j]?=some (k,cp)
theorem Dc.kept {c:Cfg}{k:Nat}(h:Dc c k):Kept c k:=by
 rcases h with ⟨-,h⟩|⟨j,d,h⟩
 ·exact .inr (.inr h)
 ·exact .inl (.inr (.inr (.inr ⟨j,d,h⟩)))
theorem qr {B size n:Nat}{e:TypeId}{w w':World}{v:Value}{xs:List Value}(h:w.ownsRow B e size v n xs)(hw:∀k,v.ownBlock=some k->w'.heap[k]?=w.heap[k]?):w'.ownsRow B e size v n xs:=by
 obtain⟨l,j⟩:=h;refine⟨l,?_⟩;rcases j with j|⟨k,d,g,hv,m,p,r⟩
 ·exact .inl j
 ·exact .inr ⟨k,d,g,hv,m,(hw k (by rw[hv];rfl)).trans p,r⟩
theorem mA {f:Fn}(hf:Ref.Val f){mem:List (List Int)}(hsl:mem.map (fun r=>(r.length:Int))=f.slots):mem.length<=1000/\∀l∈mem,l.length<=8:=by
 have j:mem.length=f.slots.length:=by rw[<-hsl,vS]
 have m:=hf.size;refine⟨by omega,fun l hl=>?_⟩;have g:(l.length:Int)∈f.slots:=by rw[<-hsl];exact List.mem_map_of_mem hl
 have d:=vT.1 hf.head.2 _ g;unfold Ref.isSlot at d;simp at d;omega
theorem wS {c:Cfg}{w:World}{mem:List (List Int)}(hM:tP c w mem)(hS:oV c w)(hlt:∀k,Dc c k->k<w.heap.size)(hBm:c.Bm<w.heap.size)(hf:Ref.Val c.f)(hsl:mem.map (fun r=>(r.length:Int))=c.f.slots):Keeps (Dc c) w c.mv mem:=by
 have m:=hM.1;obtain⟨P,O⟩:=mA hf hsl;refine⟨hlt,⟨c.Am,c.cm,by rw[m];rfl⟩,fun w' C M=>?_⟩;obtain⟨s1,s2,s3⟩:=hS;refine⟨?_,c.Am,c.cm,by rw[vS,m];rfl,by rw[vS,m];exact s1,fun q=>?_⟩
 rotate_left
 ·rw[vS]at q;obtain⟨e,A,E,F⟩:=s3 (by omega);refine⟨c.Bm,A,e,.inl ⟨by omega,rfl⟩,(C c.Bm (.inl ⟨by omega,rfl⟩)).trans E,fun j n B=>?_⟩;rw[vH,Option.map_eq_some_iff]at B;obtain⟨l,hl,rfl⟩:=B;have B:=(yC.1 hl).1;obtain⟨⟨d,g⟩,y⟩:∃u,c.us[j]?=some u:=⟨_,vu (by omega)⟩;have H:c.f.slots[j]?=some (l.length:Int):=by rw[<-hsl,vH,hl];rfl
  obtain⟨I,N,p,D,J⟩:=hM.2 j d g l y hl;exact⟨d,g,p,F j d g l.length y H,I,.inr ⟨j,g,y⟩,(C d (.inr ⟨j,g,y⟩)).trans D,fun i L=>⟨l[i],J i _ (vu L)⟩⟩
 refine⟨c.Am,c.cm,by rw[m];rfl,by omega,by omega,fun q=>?_⟩;obtain⟨e,A,E,F⟩:=s3 (by omega);have G:c.Bm<w'.heap.size:=by omega
 refine⟨c.Bm,0,e,G,fun j l hl=>?_⟩;have B:=(yC.1 hl).1;obtain⟨⟨d,g⟩,y⟩:∃u,c.us[j]?=some u:=⟨_,vu (by omega)⟩;have H:c.f.slots[j]?=some (l.length:Int):=by rw[<-hsl,vH,hl];rfl
 obtain⟨I,N,p,D,J⟩:=hM.2 j d g l y hl;have K:d<w.heap.size:=cY D;refine⟨.slice (some ⟨d,0,none⟩) l.length g,?_,?_⟩
 ·rw[vX _ _ _ _ _ _ ((C c.Bm (.inl ⟨by omega,rfl⟩)).trans E),Nat.zero_add];exact F j d g l.length y H
 ·have:=O l (vz hl);refine⟨some ⟨d,0,none⟩,g,rfl,I,by omega,fun _=>⟨d,0,rfl,by omega,fun t z hz=>?_⟩⟩;rw[vX _ _ _ _ _ _ ((C d (.inr ⟨j,g,y⟩)).trans D),Nat.zero_add];exact J t z hz
theorem PS.keeps {c:Cfg}{w:World}{s:Rn.St}{b frm:Int}{vt:Value}(h:PS c w s b frm vt)(hBm:c.Bm<w.heap.size)(hf:Ref.Val c.f)(hsl:s.mem.map (fun r=>(r.length:Int))=c.f.slots):Keeps (Dc c) w c.mv s.mem:=wS h.mem h.slots (fun k d=>h.kept_lt hBm d.kept) hBm hf hsl
theorem kS (D:Nat->Prop)(w:World)(h:∀k,D k->k<w.heap.size):Keeps D w (.slice none 0 0) [] :=
 ⟨h,⟨none,0,rfl⟩,fun w' _ _=>⟨⟨none,0,rfl,vV _,by decide,fun h=>absurd h (by decide)⟩,none,0,rfl,vV _,fun h=>absurd h (by decide)⟩⟩
def uf (c:Cfg)(o:Rn.Out):Value:=if o.kind=0 then c.mv else .slice none 0 0
theorem lf {c:Cfg}{w:World}{s:Rn.St}{b frm:Int}{vt:Value}(h:PS c w s b frm vt)(hBm:c.Bm<w.heap.size)(hf:Ref.Val c.f)(hI:Rn.Inv c.f s){o:Rn.Out}(ho:Rn.OutOf c.f s o):Keeps (Dc c) w (uf c o) o.mem:=by
 unfold uf;rcases ho with ⟨g,j,-⟩|rfl|rfl
 ·rw[wa g,j];exact h.keeps hBm hf hI.mem
 ·exact kS _ _ fun k d=>h.kept_lt hBm d.kept
 ·exact kS _ _ fun k d=>h.kept_lt hBm d.kept
structure Rd (D:Nat->Prop)(B Bg:Nat)(w:World)(v vp vw:Value)(vms:List Value)(p ws:List Int)(u:Nat)(outs:List Rn.Out):Prop where
 ex:ExAt B Bg w p ws u vp vw
 at_:OutsAt D B w v outs vms
 dlt:∀k,D k->B<=k/\k<w.heap.size/\¬exO Bg vp vw k/\v.ownBlock≠some k
 vo:∀k,v.ownBlock=some k->¬exO Bg vp vw k
section
variable {D:Nat->Prop}{B Bg u:Nat}{w w':World}{v vp vw:Value}{vms:List Value}{p ws:List Int}{outs:List Rn.Out}
theorem OutsAt.frs {S:Nat->Prop}(h:OutsAt D B w v outs vms)(hF:FrS S w w')(hD:∀k,D k->¬S k)(hv:∀k,v.ownBlock=some k->¬S k):OutsAt D B w' v outs vms where
 len:=h.len
 own:=qr h.own fun k d=>hF.block k (dx h.own k d).2 (hv k d)
 at_:=fun j o vm g l=>(h.at_ j o vm g l).frs hF hD
theorem OutsAt.more {D':Nat->Prop}(h:OutsAt D B w v outs vms)(hD:∀k,D k->D' k)(hD':∀k,D' k->k<w.heap.size):OutsAt D' B w v outs vms where
 len:=h.len
 own:=h.own
 at_:=fun j o vm d g=>(h.at_ j o vm d g).more hD hD'
theorem kH (h:ExAt B Bg w p ws u vp vw){k:Nat}(hk:exO Bg vp vw k):B<=k/\k<w.heap.size:=by
 rcases hk with rfl|hk|hk
 ·exact⟨h.ge,cY h.st⟩
 ·have:=dg h.pth hk;exact⟨this.1,this.2.1⟩
 ·have:=dg h.wid hk;exact⟨this.1,this.2.1⟩
theorem Rd.gr (h:Rd D B Bg w v vp vw vms p ws u outs)(g:Gr w w'):Rd D B Bg w' v vp vw vms p ws u outs where
 ex:=h.ex.frs (FrS.of_gr (S:=fun _=>False) g) (fun _ _ q=>q)
 at_:=h.at_.frs (FrS.of_gr (S:=fun _=>False) g) (fun _ _ q=>q) (fun _ _ q=>q)
 dlt:=fun k d=>by obtain⟨h1,h2,h3⟩:=h.dlt k d;exact⟨h1,by have:=g.size;omega,h3⟩
 vo:=h.vo
theorem Rd.insert (h:Rd D B Bg w v vp vw vms p ws u outs){v':Value}{outs':List Rn.Out}{vms':List Value}(ho:OutsAt D B w' v' outs' vms')(hF:FrS (fun k=>v.ownBlock=some k) w w')(hv:∀k,v'.ownBlock=some k->v.ownBlock=some k\/w.heap.size<=k) :
  Rd D B Bg w' v' vp vw vms' p ws u outs' where
 ex:=h.ex.frs hF fun k d q=>h.vo k q d
 at_:=ho
 dlt:=fun k d=>by
  obtain⟨g,m,j,l⟩:=h.dlt k d;refine⟨g,by have:=hF.size;omega,j,fun q=>?_⟩;rcases hv k q with q|q
  ·exact l q
  ·omega
 vo:=fun k d q=>by
  rcases hv k d with r|r
  ·exact h.vo k r q
  ·have:=(kH h.ex q).2;omega
theorem Rd.next (h:Rd D B Bg w v vp vw vms p ws u outs){vp' vw':Value}{p' ws':List Int}{u':Nat}(he:ExAt B Bg w' p' ws' u' vp' vw')(hF:FrS (exO Bg vp vw) w w')(hO:∀k,exO Bg vp' vw' k->exO Bg vp vw k):Rd D B Bg w' v vp' vw' vms p' ws' u' outs where
 ex:=he
 at_:=h.at_.frs hF (fun k d q=>(h.dlt k d).2.2.1 q) (fun k d q=>h.vo k d q)
 dlt:=fun k d=>by obtain⟨g,m,j,l⟩:=h.dlt k d;exact⟨g,by have:=hF.size;omega,fun q=>j (hO k q),l⟩
 vo:=fun k d q=>h.vo k d (hO k q)
end
theorem rV {D:Nat->Prop}{B Bg:Nat}{f:Fn}{i:Rn.Inp}{w0 w:World}{v vp vw:Value}{vms:List Value}{p:List Int}{outs:List Rn.Out}(h:Rd D B Bg w0 v vp vw vms p ((Rn.wids f i p).take p.length) 0 outs)(hg:Rn.Good f i p)
  (hRA:Ref.RcAll) (hf:VFn f) (hin:Rn.validInput f i=0) (ha:∀a∈i.args,0<=a) (g:Gr w0 w) {c:Cfg} (cn:c.n₀=B) (cf:c.f=f) (cch:c.ch=.iface 84 (.pointer (some ⟨Bg,0,none⟩))) (hp:PS c w (Rn.start f i) 0 (-1) (.slice none 0 0)) (hK:∀k,Kept c k->w0.heap.size<=k) (hBm:c.Bm<w.heap.size) :
  Calls prog 48 #[.pointer (some ⟨c.Bs,0,none⟩)] w fun e w'=>∃vx,e=.returned (gS (Rn.run f (Rn.given p) i).1 vx)/\∃(D':Nat->Prop)(vp' vw':Value),Rd D' B Bg w' v vp' vw' vms (Rn.padded p (Rn.wids f i p).length) (Rn.wids f i p) (Rn.wids f i p).length outs/\Keeps D' w' vx (Rn.run f (Rn.given p) i).1.mem/\FrS (fun k=>B<=k) w w':=by
 subst cn;subst cf;obtain⟨Z,q2,R,S⟩:=Rn.run_ok hRA hf.val hf.im hin ha p;obtain⟨l,hl,Q⟩:=Rn.start_ent hRA hin ha;have H:=h.gr g;have y:∀k,exO Bg vp vw k->k<w0.heap.size:=fun k d=>(kH h.ex d).2
 let ch:=nJ c c.n₀ Bg p (Rn.wids c.f i p) cch (vV _) hg.1 hg.2 (by omega)
 have N:ch.At w (Rn.start c.f i).widths (exO Bg vp vw):=by refine⟨⟨vp,vw,?_,rfl⟩,fun k d=>hp.kept_lt hBm d,fun k d q=>by have:=y k d;have:=hK k q;omega⟩;unfold sJ;rw[show (Rn.start c.f i).widths=[] from rfl,List.length_nil,Nat.max_eq_left (vU _),Rn.padded_self];exact H.ex
 refine(gP (pick:=Rn.given p) (fin:=Rn.wids c.f i p) (b:=0) hp hBm hf hRA hl Q (Rn.given_ok p) ch N (vU _) (List.prefix_refl _)).mono ?_;rintro e w' ⟨rfl,b,L,vq,Y,G,T,U,A,W⟩;obtain⟨⟨vp',vw',C,rfl⟩,r7,X⟩:=T;have z:Rn.from_ c.f (Rn.given p) 401 0 (-1) (Rn.start c.f i)=Rn.run c.f (Rn.given p) i:=rfl;rw[z]at G U C ⊢
 have O:ExAt c.n₀ Bg w' (Rn.padded p (Rn.wids c.f i p).length) (Rn.wids c.f i p) (Rn.wids c.f i p).length vp' vw':=by have J:(Rn.run c.f (Rn.given p) i).2.1.widths=Rn.wids c.f i p:=rfl;have K:max p.length (Rn.wids c.f i p).length=(Rn.wids c.f i p).length:=Nat.max_eq_right hg.1;unfold sJ at C;rw[J,K,wg]at C;exact C
 have r:c.Bm<w'.heap.size:=by have:=A.size;omega
 have t:=lf G r hf.val R S
 have E:∀k,D k->¬(Mut c k\/exO Bg vp vw k):=fun k d q=>by
  obtain⟨d1,d2,d3,d4⟩:=h.dlt k d;rcases q with q|q
  ·have:=hK k (.inl q);omega
  ·exact d3 q
 have F:∀k,v.ownBlock=some k->¬(Mut c k\/exO Bg vp vw k):=fun k d q=>by
  rcases q with q|q
  ·have:=hK k (.inl q);have:=(dx h.at_.own k d).2;omega
  ·exact h.vo k d q
 have u:∀k,k<w0.heap.size->¬exO Bg vp vw k->¬exO Bg vp' vw' k:=fun k M h2 q=>by
  rcases W k q with q|q
  ·exact h2 q
  ·have:=g.size;omega
 have m:∀k,D k\/Dc c k->k<w'.heap.size:=fun k d=>by
  rcases d with d|d
  ·have:=(h.dlt k d).2.1;have:=g.size;have:=A.size;omega
  ·exact G.kept_lt r d.kept
 refine⟨uf c _,rfl,(fun k=>D k\/Dc c k),vp',vw',⟨O,(H.at_.frs A E F).more (fun k d=>.inl d) m,fun k d=>?_,fun k d=>?_⟩,t.more (fun k d=>.inr d) m,A.mono fun k d=>?_⟩
 ·rcases d with d|d
  ·obtain⟨d1,d2,d3,d4⟩:=h.dlt k d;exact⟨d1,m k (.inl d),u k d2 d3,d4⟩
  ·have M:=hK k d.kept;refine⟨?_,m k (.inr d),fun q=>X k q d.kept,fun q=>?_⟩
   ·have:=hp.n₀;rcases d with ⟨-,rfl⟩|⟨j,I,d⟩
    ·exact hp.old.2.2.2.2.1
    ·exact(hp.old.2.2.2.2.2 j k I d).1
   ·have:=(dx h.at_.own k q).2;omega
 ·exact u k (dx h.at_.own k d).2 (h.vo k d)
 ·rcases d with d|d
  ·exact hp.mut d
  ·exact(kH h.ex d).1
def sQ (c:Cfg)(n k:Nat)(o:Rn.Out)(om wv bv:Value):Array Value :=
 #[c.vp,.int .i64 c.f.ret,c.vs,c.vb,c.mv,c.ch,.int .i64 o.kind,.bool o.ret.p,.int .i64 o.ret.s,.int .u32 o.ret.n,om,wv,bv,.int .i64 k,.slice (some ⟨c.Bv,0,none⟩) n n,.slice (some ⟨c.Bh,0,none⟩) n n]
structure DS (c:Cfg)(pk:List Int)(w:World)(s:Rn.St)(bl:List Int)(o:Rn.Out)(om wv bv:Value):Prop where
 st:w.heap[c.Bs]?=some (.cells (sQ c s.vals.length s.steps o om wv bv) 122 (0,0))
 vals:w.heap[c.Bv]?=some (.cells (dy s.vals).toArray 37 (0,0))
 had:w.heap[c.Bh]?=some (.cells (s.had.map Value.bool).toArray 4 (0,0))
 hlen:s.had.length=s.vals.length
 mem:tP c w s.mem
 slots:oV c w
 fn:FnAt c.n₀ w (.agg #[c.vp,.int .i64 c.f.ret,c.vs,c.vb]) c.f
 picks:U32At c.n₀ w c.ch pk
 wid:Own1 c.n₀ 3 w wv (s.widths.map (Value.int .i64))
 blk:Own1 c.n₀ 3 w bv (bl.map (Value.int .i64))
 old:c.n₀<=c.Bs/\c.n₀<=c.Bv/\c.n₀<=c.Bh/\c.n₀<=c.Bm/\∀(j b cp:Nat),c.us[j]?=some (b,cp)->c.n₀<=b
 apart:(c.us.map (·.1)).Nodup
 farW:∀k,wv.ownBlock=some k->bv.ownBlock≠some k/\∀j cp:Nat,c.us[j]?≠some (k,cp)
 farB:∀k,bv.ownBlock=some k->∀j cp:Nat,c.us[j]?≠some (k,cp)
def DO (c:Cfg)(wv bv:Value)(k:Nat):Prop:=Mut c k\/wv.ownBlock=some k\/bv.ownBlock=some k
section
variable {c:Cfg}{pk bl:List Int}{w w' w'':World}{s:Rn.St}{o:Rn.Out}{om wv bv:Value}{S:Nat->Prop}
theorem U32At.frsD {B:Nat}{w w':World}{v:Value}{zs:List Int}(h:U32At B w v zs)(hb:Below B w w'):U32At B w' v zs :=
 SlAt.imp h fun b off d g j z l=>(hb.cell (p:=⟨b,off+j,none⟩) d).trans (g j z l)
theorem DS.cell (h:DS c pk w s bl o om wv bv)(i:Nat):w.cell? ⟨c.Bs,i,none⟩=(sQ c s.vals.length s.steps o om wv bv)[i]?:=vX _ _ i _ _ _ h.st
theorem DS.n₀ (h:DS c pk w s bl o om wv bv):c.n₀<=w.heap.size:=by have:=cY h.st;have:=h.old.1;omega
theorem DS.dlt (h:DS c pk w s bl o om wv bv){k:Nat}(hk:DO c wv bv k):c.n₀<=k:=by
 obtain⟨l,m,p,r,q⟩:=h.old;rcases hk with (rfl|rfl|rfl|⟨j,d,g⟩)|hk|hk
 ·exact l
 ·exact m
 ·exact p
 ·exact q j k d g
 ·exact(dg h.wid hk).1
 ·exact(dg h.blk hk).1
theorem DS.away (h:DS c pk w s bl o om wv bv)(hF:FrS S w w')(hS:∀k,S k->c.n₀<=k/\¬DO c wv bv k/\k≠c.Bm):DS c pk w' s bl o om wv bv:=by
 have keep:∀{k:Nat} {o:Obj},w.heap[k]?=some o->(DO c wv bv k\/k=c.Bm)->w'.heap[k]?=some o:=fun d hK=>(hF.block _ (cY d) (fun q=>hK.elim (hS _ q).2.1 (hS _ q).2.2)).trans d
 exact {
   st:=keep h.st (.inl (.inl (.inl rfl)))
   vals:=keep h.vals (.inl (.inl (.inr (.inl rfl))))
   had:=keep h.had (.inl (.inl (.inr (.inr (.inl rfl)))))
   hlen:=h.hlen
   mem:=⟨h.mem.1,fun j y t m u z=>by
     obtain⟨l,p,g,r,B⟩:=h.mem.2 j y t m u z
     exact⟨l,p,g,keep r (.inl (.inl (.inr (.inr (.inr ⟨j,t,u⟩))))),B⟩⟩
   slots:=⟨h.slots.1,h.slots.2.1,fun A=>by
     obtain⟨l,g,p,r⟩:=h.slots.2.2 A
     exact⟨l,g,keep p (.inr rfl),r⟩⟩
   fn:=h.fn.below (hF.below (fun k d=>(hS k d).1) h.n₀)
   picks:=h.picks.frsD (hF.below (fun k d=>(hS k d).1) h.n₀)
   wid:=dr h.wid fun k d=>hF.block k (dg h.wid d).2.1 (fun q=>(hS k q).2.1 (.inr (.inl d)))
   blk:=dr h.blk fun k d=>hF.block k (dg h.blk d).2.1 (fun q=>(hS k q).2.1 (.inr (.inr d)))
   old:=h.old
   apart:=h.apart
   farW:=h.farW
   farB:=h.farB}
theorem DS.gr (h:DS c pk w s bl o om wv bv)(g:Gr w w'):DS c pk w' s bl o om wv bv:=h.away (S:=fun _=>False) (FrS.of_gr g) (fun k hk=>hk.elim)
theorem DS.row (h:DS c pk w s bl o om wv bv){k:Nat}{o':Rn.Out}{om':Value}(hF:FrS (·=c.Bs) w w')(hst:w'.heap[c.Bs]?=some (.cells (sQ c s.vals.length k o' om' wv bv) 122 (0,0))):DS c pk w' {s with steps:=k} bl o' om' wv bv:=by
 have keep:∀{k:Nat} {d:Array Value} {t:TypeId} {fr:Nat × Nat},w.heap[k]?=some (.cells d t fr)->t≠122->w'.heap[k]?=some (.cells d t fr):=fun g l =>
  (hF.block _ (cY g) (fun e=>by rw[e]at g;exact dn g h.st l rfl)).trans g
 have y:=hF.below (n:=c.n₀) (fun k g=>by rw[g];exact h.old.1) h.n₀
 exact {
   st:=hst
   vals:=keep h.vals (by decide)
   had:=keep h.had (by decide)
   hlen:=h.hlen
   mem:=⟨h.mem.1,fun j z A m l B=>by
     obtain⟨p,r,d,u,D⟩:=h.mem.2 j z A m l B
     exact⟨p,r,d,keep u (by decide),D⟩⟩
   slots:=⟨h.slots.1,h.slots.2.1,fun C=>by
     obtain⟨p,d,r,u⟩:=h.slots.2.2 C
     exact⟨p,d,keep r (by decide),u⟩⟩
   fn:=h.fn.below y
   picks:=h.picks.frsD y
   wid:=dr h.wid fun k g=>by obtain⟨-,-,d,q⟩:=dg h.wid g;exact(keep q (by decide)).trans q.symm
   blk:=dr h.blk fun k g=>by obtain⟨-,-,d,q⟩:=dg h.blk g;exact(keep q (by decide)).trans q.symm
   old:=h.old
   apart:=h.apart
   farW:=h.farW
   farB:=h.farB}
theorem DS.setVal (h:DS c pk w s bl o om wv bv){v:Nat}{x:Rn.V}(hF:FrS (fun k=>k=c.Bv\/k=c.Bh) w w')(hv:w'.heap[c.Bv]?=some (.cells (dy (s.vals.set v x)).toArray 37 (0,0)))
  (hh:w'.heap[c.Bh]?=some (.cells ((s.had.set v true).map Value.bool).toArray 4 (0,0))):DS c pk w' (s.set v x) bl o om wv bv:=by
 obtain⟨G,D,E,H,I⟩:=h.old
 have keep:∀{k:Nat} {d:Array Value} {t:TypeId} {fr:Nat × Nat},w.heap[k]?=some (.cells d t fr)->t≠37->t≠4->w'.heap[k]?=some (.cells d t fr):=fun g l p =>
  (hF.block _ (cY g) (by
    rintro (rfl|rfl)
    · exact dn g h.vals l rfl
    · exact dn g h.had p rfl)).trans g
 have z:=hF.below (n:=c.n₀) (fun k g=>g.elim (fun e=>by rw[e];exact D) (fun e=>by rw[e];exact E)) h.n₀
 exact {
   st:=by
     have:=keep h.st (by decide) (by decide)
     show w'.heap[c.Bs]?=some (.cells (sQ c (s.vals.set v x).length s.steps o om wv bv) _ _)
     rw[List.length_set];exact this
   vals:=hv
   had:=hh
   hlen:=by show (s.had.set v true).length=(s.vals.set v x).length;rw[List.length_set,List.length_set];exact h.hlen
   mem:=⟨h.mem.1,fun j A B m l p=>by
     obtain⟨r,u,d,y,F⟩:=h.mem.2 j A B m l p
     exact⟨r,u,d,keep y (by decide) (by decide),F⟩⟩
   slots:=⟨h.slots.1,h.slots.2.1,fun C=>by
     obtain⟨r,d,u,y⟩:=h.slots.2.2 C
     exact⟨r,d,keep u (by decide) (by decide),y⟩⟩
   fn:=h.fn.below z
   picks:=h.picks.frsD z
   wid:=dr h.wid fun k g=>by obtain⟨-,-,d,q⟩:=dg h.wid g;exact(keep q (by decide) (by decide)).trans q.symm
   blk:=dr h.blk fun k g=>by obtain⟨-,-,d,q⟩:=dg h.blk g;exact(keep q (by decide) (by decide)).trans q.symm
   old:=h.old
   apart:=h.apart
   farW:=h.farW
   farB:=h.farB}
theorem DS.memSet (h:DS c pk w s bl o om wv bv){j bj cp:Nat}{l l':List Int}{cur:Array Value}(hus:c.us[j]?=some (bj,cp))(hl:s.mem[j]?=some l)(hll:l'.length=l.length)(hF:FrS (·=bj) w w')(hb:w'.heap[bj]?=some (.cells cur 3 (0,0)))
  (hc:∀(i:Nat)(z:Int),l'[i]?=some z->cur[i]?=some (.int .i64 z)):DS c pk w' {s with mem:=s.mem.set j l' } bl o om wv bv:=by
 obtain⟨X,Q,G,y,Y⟩:=h.mem.2 j bj cp l hus hl;have L:=dn h.st y (by decide);have M:=dn h.vals y (by decide);have N:=dn h.had y (by decide);obtain⟨S,T,U,W,O⟩:=h.old;have P:=O j bj cp hus;have t:=hF.below (n:=c.n₀) (fun k p=>by rw[p];exact P) h.n₀
 exact {
   st:=(hF.block _ (cY h.st) L).trans h.st
   vals:=(hF.block _ (cY h.vals) M).trans h.vals
   had:=(hF.block _ (cY h.had) N).trans h.had
   hlen:=h.hlen
   mem:=⟨by rw[List.length_set];exact h.mem.1,fun H F B m g r=>by
     by_cases e:j=H
     · subst e
       rw[hus]at g
       injection g with g
       injection g with g J
       subst g;subst J
       have C:=(yC.1 hl).1
       rw[ww C]at r
       injection r with r
       subst r
       exact⟨by omega,Q,cur,hb,hc⟩
     · rw[List.getElem?_set_ne e]at r
       obtain⟨E,u,d,A,R⟩:=h.mem.2 H F B m g r
       have D:F≠bj:=by
         intro I;subst I
         rcases Nat.lt_or_gt_of_ne e with q|q
         · exact fW h.apart q hus g
         · exact fW h.apart q g hus
       exact⟨E,u,d,(hF.block _ (cY A) D).trans A,R⟩⟩
   slots:=⟨h.slots.1,h.slots.2.1,fun K=>by
     obtain⟨E,d,u,A⟩:=h.slots.2.2 K
     exact⟨E,d,(hF.block _ (cY u) (dn u y (by decide))).trans u,A⟩⟩
   fn:=h.fn.below t
   picks:=h.picks.frsD t
   wid:=dr h.wid fun k p=>hF.block k (dg h.wid p).2.1 (fun e=>(h.farW k p).2 j cp (by rw[e];exact hus))
   blk:=dr h.blk fun k p=>hF.block k (dg h.blk p).2.1 (fun e=>h.farB k p j cp (by rw[e];exact hus))
   old:=h.old
   apart:=h.apart
   farW:=h.farW
   farB:=h.farB}
theorem DS.lt (h:DS c pk w s bl o om wv bv){k:Nat}(hk:DO c wv bv k):k<w.heap.size:=by
 rcases hk with (rfl|rfl|rfl|⟨j,g,d⟩)|hk|hk
 ·exact cY h.st
 ·exact cY h.vals
 ·exact cY h.had
 ·have p:=h.mem.1;obtain⟨l,hl⟩:∃l,s.mem[j]?=some l:=⟨_,vu (by rw[p];exact(yC.1 d).1)⟩;obtain⟨-,-,m,q,-⟩:=h.mem.2 j k g l d hl;exact cY q
 ·exact(dg h.wid hk).2.1
 ·exact(dg h.blk hk).2.1
theorem DS.pushW (h:DS c pk w s bl o om wv bv){n:Int}{v':Value}{w2:World}{tmp:Obj}(hg:(w.alloc tmp).grownBy w2 wv.ownBlock)(ho:Own1 c.n₀ 3 w2 v' (s.widths.map (Value.int .i64)++[.int .i64 n]))(hat:∀k,v'.ownBlock=some k->wv.ownBlock=some k\/w.heap.size<=k) :
  w2.heap[c.Bs]?=some (.cells (sQ c s.vals.length s.steps o om wv bv) 122 (0,0))/\DS c pk (w2.setCell ⟨c.Bs,11,none⟩ v') (s.chose n) bl o om v' bv/\FrS (DO c wv bv) w (w2.setCell ⟨c.Bs,11,none⟩ v')/\∀k,DO c v' bv k->DO c wv bv k\/w.heap.size<=k:=by
 have u:FrS (fun k=>wv.ownBlock=some k) w w2:=((FrS.refl _ w).alloc tmp).grown hg (fun k d=>.inl d);have E:¬wv.ownBlock=some c.Bs:=fun e=>by obtain⟨-,-,g,q⟩:=dg h.wid e;exact dn q h.st (by decide) rfl
 have l:=(u.block _ (cY h.st) E).trans h.st;have r:FrS (fun k=>wv.ownBlock=some k\/k=c.Bs) w (w2.setCell ⟨c.Bs,11,none⟩ v'):=(u.mono (fun k d=>.inl d)).setCell (p:=⟨c.Bs,11,none⟩) (.inr rfl) _;have D:∀k,v'.ownBlock=some k->DO c wv bv k\/w.heap.size<=k:=fun k d=>(hat k d).elim (fun q=>.inl (.inr (.inl q))) .inr;have keep:∀{k:Nat} {o:Obj},w.heap[k]?=some o->k≠c.Bs->¬wv.ownBlock=some k->(w2.setCell ⟨c.Bs,11,none⟩ v').heap[k]?=some o:=fun d A C=>(r.block _ (cY d) (fun q=>q.elim C A)).trans d;have F:∀{k:Nat} {g:Array Value} {t:TypeId} {fr:Nat × Nat},w.heap[k]?=some (.cells g t fr)->t≠3->¬wv.ownBlock=some k:=fun d ht e=>by obtain⟨-,-,g,q⟩:=dg h.wid e;exact dn d q ht rfl
 have I:=r.below (n:=c.n₀) (fun k d=>d.elim (fun e=>(dg h.wid e).1) (fun e=>by rw[e];exact h.old.1)) h.n₀;refine⟨l,?_,r.mono (fun k d=>d.elim (fun e=>.inr (.inl e)) (fun e=>.inl (.inl e))),fun k d=>?_⟩
 ·exact {
     st:=cX (i:=11) v' l
     vals:=keep h.vals (dn h.vals h.st (by decide)) (F h.vals (by decide))
     had:=keep h.had (dn h.had h.st (by decide)) (F h.had (by decide))
     hlen:=h.hlen
     mem:=⟨h.mem.1,fun j H z m A C=>by
       obtain⟨G,y,g,B,K⟩:=h.mem.2 j H z m A C
       exact⟨G,y,g,keep B (dn B h.st (by decide)) (fun e=>(h.farW H e).2 j z A),K⟩⟩
     slots:=⟨h.slots.1,h.slots.2.1,fun J=>by
       obtain⟨G,g,y,B⟩:=h.slots.2.2 J
       exact⟨G,g,keep y (dn y h.st (by decide)) (F y (by decide)),B⟩⟩
     fn:=h.fn.below I
     picks:=h.picks.frsD I
     wid:=by
       have:=dr (w':=w2.setCell ⟨c.Bs,11,none⟩ v') ho fun k d=>wk _ _ _ _ (by obtain⟨-,-,g,q⟩:=dg ho d;exact dn q l (by decide))
       show Own1 c.n₀ _ _ v' ((s.widths++[n]).map (Value.int .i64))
       rw[List.map_append];exact this
     blk:=dr h.blk fun k d=>by
       obtain⟨-,-,g,q⟩:=dg h.blk d
       exact r.block k (cY q) (fun e=>e.elim (fun e=>(h.farW k e).1 d) (fun e=>by rw[e]at q;exact dn q h.st (by decide) rfl))
     old:=h.old
     apart:=h.apart
     farW:=fun k d=>by
       rcases hat k d with q|q
       · exact h.farW k q
       · refine⟨fun e=>?_,fun j z e=>?_⟩
         · have:=(dg h.blk e).2.1;omega
         · have:=h.lt (.inl (.inr (.inr (.inr ⟨j,z,e⟩))));omega
     farB:=h.farB}
 ·rcases d with d|d|d
  ·exact .inl (.inl d)
  ·exact D k d
  ·exact .inl (.inr (.inr d))
end
def DLeft (c:Cfg)(pk:List Int)(w:World)(wv bv:Value)(s':Rn.St)(bl':List Int)(o':Rn.Out)(om':Value)(w':World):Prop :=
 ∃wv' bv',DS c pk w' s' bl' o' om' wv' bv'/\FrS (DO c wv bv) w w'/\∀k,DO c wv' bv' k->DO c wv bv k\/w.heap.size<=k
section
variable {c:Cfg}{pk bl bl':List Int}{w w' w'':World}{s s':Rn.St}{o o':Rn.Out}{om om' wv bv wv' bv':Value}
theorem xm (hF:FrS (DO c wv bv) w w')(hO:∀k,DO c wv' bv' k->DO c wv bv k\/w.heap.size<=k)(h:DLeft c pk w' wv' bv' s' bl' o' om' w''):DLeft c pk w wv bv s' bl' o' om' w'':=by
 obtain⟨j,l,p,f,q⟩:=h;refine⟨j,l,p,⟨f.os.trans hF.os,f.tape.trans hF.tape,f.output.trans hF.output,Nat.le_trans hF.size f.size,fun k d g=>?_⟩,fun k d=>?_⟩
 ·refine(f.block k (by have:=hF.size;omega) fun q=>?_).trans (hF.block k d g);rcases hO k q with q|q
  ·exact g q
  ·omega
 ·rcases q k d with q|q
  ·exact hO k q
  ·exact .inr (by have:=hF.size;omega)
theorem DS.left (h:DS c pk w' s bl o om wv bv)(hF:FrS (DO c wv bv) w w'):DLeft c pk w wv bv s bl o om w':=⟨wv,bv,h,hF,fun k d=>.inl d⟩
theorem DLeft.gr (h:DLeft c pk w wv bv s' bl' o' om' w')(g:Gr w' w''):DLeft c pk w wv bv s' bl' o' om' w'':=by obtain⟨d,j,p,f,q⟩:=h;exact xm f q ((p.gr g).left (FrS.of_gr g))
end
theorem gr_frs' {S:Nat->Prop}{w a b:World}(g:Gr w a)(h:FrS S a b)(hS:∀k,S k->w.heap.size<=k):Gr w b :=
 ⟨h.os.trans g.os,h.tape.trans g.tape,h.output.trans g.output,Nat.le_trans g.size h.size,fun k d=>(h.block k (by have:=g.size;omega) (fun q=>by have:=hS k q;omega)).trans (g.heap k d)⟩
def dw (w:World)(r:Nat)(x:Rn.V):World:=((w.setCell ⟨r,0,none⟩ (.bool x.p)).setCell ⟨r,1,none⟩ (.int .i64 x.s)).setCell ⟨r,2,none⟩ (.int .u32 x.n)
theorem eo {w:World}{r:Nat}{a b d:Value}(h:w.heap[r]?=some (.cells #[a,b,d] 37 (0,0)))(x:Rn.V) :
  (dw w r x).cell? ⟨r,0,none⟩=some (.bool x.p)/\(dw w r x).cell? ⟨r,1,none⟩=some (.int .i64 x.s)/\(dw w r x).cell? ⟨r,2,none⟩=some (.int .u32 x.n):=by
 have g:=cX (i:=2) (.int .u32 x.n) (cX (i:=1) (.int .i64 x.s) (cX (i:=0) (.bool x.p) h));exact⟨vX _ _ 0 _ _ _ g,vX _ _ 1 _ _ _ g,vX _ _ 2 _ _ _ g⟩
theorem ei (w:World)(r:Nat)(x:Rn.V):FrS (·=r) w (dw w r x) :=
 (((FrS.refl (fun k=>k=r) w).setCell (p:=⟨r,0,none⟩) rfl _).setCell (p:=⟨r,1,none⟩) rfl _).setCell (p:=⟨r,2,none⟩) rfl _
structure RB (w W:World)(r:Nat):Prop where
 row:W.heap[r]?=some (.cells #[.bool false,.int .i64 0,.int .u32 0] 37 (0,0))
 ge:w.heap.size<=r
 gr:Gr w W
theorem RB.ret {w W:World}{r:Nat}(h:RB w W r){w9:World}(g:Gr W w9)(v:Rn.V):Gr w (dw w9 r v)/\((dw w9 r v).cell? ⟨r,0,none⟩=some (.bool v.p)/\(dw w9 r v).cell? ⟨r,1,none⟩=some (.int .i64 v.s)/\(dw w9 r v).cell? ⟨r,2,none⟩=some (.int .u32 v.n)) :=
 ⟨gr_frs' (h.gr.trans g) (ei _ _ v) (fun k d=>by rw[d];exact h.ge),eo ((g.heap _ (cY h.row)).trans h.row) v⟩
theorem RB.cells {w W:World}{r:Nat}(h:RB w W r)(u:GrW W):u.val.cell? ⟨r,0,none⟩=some (.bool false)/\u.val.cell? ⟨r,1,none⟩=some (.int .i64 0)/\u.val.cell? ⟨r,2,none⟩=some (.int .u32 0)/\u.val.frozen? ⟨r,0,none⟩=false/\u.val.frozen? ⟨r,1,none⟩=false/\u.val.frozen? ⟨r,2,none⟩=false:=by have e:=(u.gr.heap _ (cY h.row)).trans h.row;exact⟨vX _ _ 0 _ _ _ e,vX _ _ 1 _ _ _ e,vX _ _ 2 _ _ _ e,vY _ _ 0 _ _ e,vY _ _ 1 _ _ e,vY _ _ 2 _ _ e⟩
section
variable {c:Cfg}{pk bl bl':List Int}{w w' w'':World}{s s':Rn.St}{o o':Rn.Out}{om om' wv bv wv' bv':Value}
end
theorem gC (x y:Int)(w:World):Calls prog 84 #[.int .i64 x,.int .i64 y] w (RT (.int .i64 (Rn.sgn x y)) w):=by
 have m:∀z,((x<y/\z=-1)\/(¬x<y/\y<x/\z=1)\/(¬x<y/\¬y<x/\z=0))->z=Rn.sgn x y:=by
  intro z h;unfold Rn.sgn;rcases h with ⟨g,d⟩|⟨g,d,l⟩|⟨g,d,l⟩
  ·rw[wa g];exact d
  ·rw[yD g,wa d];exact l
  ·rw[yD g,yD d];exact l
 have j:=dJ m;clear m;rcases Int.lt_trichotomy x y with h|h|h
 ·go_enter func84, ntmps84
  go_wp2;go_ret;exact⟨de (j.out _ (.inl ⟨h,rfl⟩)),rfl⟩
 ·subst h
  go_enter func84, ntmps84
  go_wp2;go_ret;exact⟨de (j.out _ (.inr (.inr ⟨by omega,by omega,rfl⟩))),rfl⟩
 ·have d:¬x<y:=by omega
  go_enter func84, ntmps84
  go_wp2;go_ret;exact⟨de (j.out _ (.inr (.inl ⟨d,h,rfl⟩))),rfl⟩
theorem xR (b:Bool)(w:World):Calls prog 83 #[.bool b] w (RT (.int .i64 (Rn.bit b)) w):=by
 cases b
 all_goals
  go_enter func83, ntmps83
  go_wp2;go_ret;exact⟨de (by decide),rfl⟩
namespace Rn
theorem cmpInts_end {a b:List Int}{k:Nat}(ha:k<=a.length)(hb:k<=b.length)(h:k=a.length\/k=b.length):cmpInts (a.drop k) (b.drop k)=sgn a.length b.length:=by
 rcases h with rfl|rfl
 ·rw[vQ (vV a.length)];rcases wh a.length b.length with q|q
  ·rw[vM q,cmpInts];unfold sgn;rw[wa (by omega)]
  ·rw[vQ q,cmpInts];unfold sgn;rw[yD (by omega),yD (by omega)]
 ·rw[vQ (vV b.length)];rcases wh b.length a.length with q|q
  ·rw[vM q,cmpInts];unfold sgn;rw[yD (by omega),wa (by omega)]
  ·rw[vQ q,cmpInts];unfold sgn;rw[yD (by omega),yD (by omega)]
theorem cmpMem_end {a b:List (List Int)}{k:Nat}(ha:k<=a.length)(hb:k<=b.length)(h:k=a.length\/k=b.length):cmpMem (a.drop k) (b.drop k)=sgn a.length b.length:=by
 rcases h with rfl|rfl
 ·rw[vQ (vV a.length)];rcases wh a.length b.length with q|q
  ·rw[vM q,cmpMem];unfold sgn;rw[wa (by omega)]
  ·rw[vQ q,cmpMem];unfold sgn;rw[yD (by omega),yD (by omega)]
 ·rw[vQ (vV b.length)];rcases wh b.length a.length with q|q
  ·rw[vM q,cmpMem];unfold sgn;rw[yD (by omega),wa (by omega)]
  ·rw[vQ q,cmpMem];unfold sgn;rw[yD (by omega),yD (by omega)]
end Rn
theorem wZ {B:Nat}{w:World}{v v':Value}{a b:List Int}(hv:IntsAt B w v a)(hv':IntsAt B w v' b)(hB:B<=w.heap.size) :
  Calls prog 82 #[v,v'] w (RG (.int .i64 (Rn.cmpInts a b)) w):=by
 obtain⟨A,ca,rfl,a1,a2,a3⟩:=hv;obtain⟨U,cb,rfl,b1,b2,N⟩:=hv';obtain⟨R,J⟩:=xJ (Rn.cmpInts a b);have W:=dJ J
 have X:Hid (∀wr,Gr w wr->∀k x,a[k]?=some x->∃j m,A=some ⟨j,m,none⟩/\∀u:GrW wr,u.val.cell? ⟨j,m+k,none⟩=some (.int .i64 x)):=fun wr g k x l=>by obtain⟨j,m,e,hb,a4⟩:=a3 (by have:=(yC.1 l).1;omega);exact⟨j,m,e,fun u=>((g.trans u.gr).cell _ _ (by omega)).trans (a4 k x l)⟩
 have Y:Hid (∀wr,Gr w wr->∀k x,b[k]?=some x->∃j m,U=some ⟨j,m,none⟩/\∀u:GrW wr,u.val.cell? ⟨j,m+k,none⟩=some (.int .i64 x)):=fun wr g k x l=>by obtain⟨j,m,e,hb,Z⟩:=N (by have:=(yC.1 l).1;omega);exact⟨j,m,e,fun u=>((g.trans u.gr).cell _ _ (by omega)).trans (Z k x l)⟩
 rw[J];clear J a3 N
 go_enter func82, ntmps82
 go_wp2
 go_loopw [5] (fun s5 wr=>∃k:Nat,k<=a.length/\k<=b.length/\s5=.int .i64 (k:Int)/\Hid (Rn.cmpInts (a.drop k) (b.drop k)=R)/\Hid (Gr w wr)) (fun s5 _=>a.length-(intOf s5).toNat)
 case atStart=>exact⟨0,vU _,vU _,rfl,W,wL w⟩
 case round =>
  obtain⟨k,E,F,rfl,C,z⟩:=hrel;by_cases r:k<a.length
  ·by_cases q:k<b.length
   ·obtain⟨x,l⟩:∃x,a[k]?=some x:=⟨_,vu r⟩;obtain⟨y,G⟩:∃y,b[k]?=some y:=⟨_,vu q⟩;obtain⟨j,m,rfl,L⟩:=X.out wr z.out k x l;obtain⟨bb,ob,rfl,M⟩:=Y.out wr z.out k y G;have O:a.drop k=x::a.drop (k+1):=by rw[vM r];congr 1;rw[vu r]at l;injection l
    have Q:b.drop k=y::b.drop (k+1):=by rw[vM q];congr 1;rw[vu q]at G;injection G
    have p:=dJ fun(u:GrW wr)=>el (gC x y u.val)
    have I:Hid ((if Rn.sgn x y=0 then Rn.cmpInts (a.drop (k+1)) (b.drop (k+1)) else Rn.sgn x y)=R):=by show _=_;have:=C.out;rw[O,Q,Rn.cmpInts]at this;exact this
    obtain⟨d,T⟩:=xJ (Rn.sgn x y);rw[T]at p I;clear l G O Q T C;by_cases S:d=0
    ·subst S;go_wp2;refine dc (by kernel_rfl) (by kernel_rfl) ?_;repeat (go_big_quiet_step ((rename_i u;go_at_call 84;exact di u (p.out u))))
     refine wpQuiet_nil ?_;intro w9 t;obtain⟨K,rfl⟩:=t;have H:=dJ (z.out.trans K.gr);clear L M;go_wp2;go_roundw;case rel=>exact⟨k+1,by omega,by omega,by go_num,by (show _=_);have:=I.out;simpa using this,H.out⟩
     case measure=>simp[intOf];omega
    ·have D:Hid (R=d):=by show _=_;have:=I.out;rw[yD S]at this;exact this.symm
     go_wp2;refine dc (by kernel_rfl) (by kernel_rfl) ?_;repeat (go_big_quiet_step ((rename_i u;go_at_call 84;exact di u (p.out u))))
     refine wpQuiet_nil ?_;intro w9 t;obtain⟨K,rfl⟩:=t;have H:=dJ (z.out.trans K.gr);clear L M;go_wp2;go_ret;exact⟨de D.out.symm,H.out⟩
   ·obtain rfl:k=b.length:=by omega
    have D:Hid (R=Rn.sgn a.length b.length):=by show _=_;rw[<-C.out];exact Rn.cmpInts_end E F (.inr rfl)
    have p:=dJ (gC a.length b.length wr);clear C;go_wp2_with (go_at_call 84;refine p.out.mono ?_;rintro e w1 ⟨rfl,rfl⟩);go_ret;exact⟨de D.out.symm,z.out⟩
  ·obtain rfl:k=a.length:=by omega
   have D:Hid (R=Rn.sgn a.length b.length):=by show _=_;rw[<-C.out];exact Rn.cmpInts_end E F (.inl rfl)
   have p:=dJ (gC a.length b.length wr);clear C;go_wp2_with (go_at_call 84;refine p.out.mono ?_;rintro e w1 ⟨rfl,rfl⟩);go_ret;exact⟨de D.out.symm,z.out⟩
end

/- Parts. -/
import Derived.Test.YthfhamagopbgcaaGreatL44
set_option linter.unusedSimpArgs false
set_option linter.unusedVariables false
set_option maxRecDepth 100000
set_option maxHeartbeats 16000000
open Go.Proofs.Tryz
namespace Go.Proofs.YthfhamagopbgcaaGreat
section
open Go.RowKit
def uA (f:Fn)(i:Rn.Inp)(picks:List Int)(B:Nat)(e:Ending)(w':World):Prop :=
 (Rn.validInput f i≠0/\e=.returned (.tuple #[gS ⟨0,⟨false,0,0⟩,[]⟩ (.slice none 0 0),.int .i64 0,.int .i64 (Rn.validInput f i)])) \/
 (Rn.validInput f i=0/\∃(vx:Value)(D:Nat->Prop),e=.returned (.tuple #[gS (Rn.run f (Rn.given picks) i).1 vx,.int .i64 (Rn.wids f i picks).length,.int .i64 0])/\Keeps D w' vx (Rn.run f (Rn.given picks) i).1.mem/\∀k,D k->B<=k)
theorem tH {w:World}{f:Fn}{vf:Value}(hfn:FnAt w.heap.size w vf f)(hnice:jF f)(him:Rn.Im f){i:Rn.Inp}{va vm:Value}(ha:U32At w.heap.size w va i.args)(hm:TabAt w.heap.size w vm i.mem)(hnn:∀a∈i.args,0<=a)
  {vpk:Value} {picks:List Int} (hpk:U32At w.heap.size w vpk picks) (hr:∀z∈picks,0<=z/\z<4294967296) :
  Calls prog 16 #[vf,.agg #[va,vm],vpk] w fun e w'=>uA f i picks w.heap.size e w'/\Gr w w':=by
 obtain⟨vp,vs,vb,rfl,hp,hs,hb⟩:=hfn;have U:Hid (FnAt w.heap.size w (.agg #[vp,.int .i64 f.ret,vs,vb]) f):=⟨vp,vs,vb,rfl,hp,hs,hb⟩;have HA:=dJ ha;have HM:=dJ hm;have aa:=dJ hnn;have ac:=dJ hpk;have ae:=dJ hr;obtain⟨W,hW⟩:=xJ (((w.alloc (.cells #[vp,.int .i64 f.ret,vs,vb] 25)).alloc (.cells #[va,vm] 29)).alloc (.cells #[.int .i64 0,.bool false,.int .i64 0,.int .u32 0,.slice none 0 0] 39));have J:Gr w W:=by rw[<-hW];exact(((wL w).alloc _).alloc _).alloc _
 have Y:W.heap.size=w.heap.size+3:=by rw[<-hW];simp
 obtain⟨W0,I⟩:=xJ (w.alloc (.cells #[vp,.int .i64 f.ret,vs,vb] 25));obtain⟨W1,A⟩:=xJ (W0.alloc (.cells #[va,vm] 29));have s0:W0.heap.size=w.heap.size+1:=by rw[<-I];simp
 have s1:W1.heap.size=w.heap.size+2:=by rw[<-A];simp[s0]
 have H:=hW;rw[I,A]at H;have t0:Gr W0 W1:=by rw[<-A];exact(wL _).alloc _
 have t1:Gr W1 W:=by rw[<-H];exact(wL _).alloc _
 have Q:W.heap[w.heap.size]?=some (.cells #[vp,.int .i64 f.ret,vs,vb] 25 (0,0)):=(t1.heap _ (by omega)).trans ((t0.heap _ (by omega)).trans (by rw[<-I];exact heap_alloc_new _ _));have R:W.heap[w.heap.size+1]?=some (.cells #[va,vm] 29 (0,0)):=(t1.heap _ (by omega)).trans (by rw[<-A,<-s0];exact heap_alloc_new _ _);have E:W.heap[w.heap.size+2]?=some (.cells #[.int .i64 0,.bool false,.int .i64 0,.int .u32 0,.slice none 0 0] 39 (0,0)):=by rw[<-H,<-s1];exact heap_alloc_new _ _
 have CV:=dJ (eY (w:=W) (f:=f) (vf:=.agg #[vp,.int .i64 f.ret,vs,vb]) (i:=i) (va:=va) (vm:=vm) ((U.out.below J).mono J.size) hnice (SlAt.mono (U32At.below ha J) J.size) ((hm.below J).mono J.size))
 have HC:Hid (∀wr,Gr W wr->C6 wr w.heap.size vp (.int .i64 f.ret) vs vb va vm):=fun wr g=>by have r1:=(g.heap _ (cY Q)).trans Q;have r2:=(g.heap _ (cY R)).trans R;exact⟨vX _ _ 0 _ _ _ r1,vX _ _ 1 _ _ _ r1,vX _ _ 2 _ _ _ r1,vX _ _ 3 _ _ _ r1,vX _ _ 0 _ _ _ r2,vX _ _ 1 _ _ _ r2⟩
 have j:Hid (∀wr,Gr W wr->wr.heap[w.heap.size+1+1]?=some (.cells #[.int .i64 0,.bool false,.int .i64 0,.int .u32 0,.slice none 0 0] 39 (0,0))):=fun wr g=>(g.heap _ (cY E)).trans E;obtain⟨k0,k1,k2,k3,k4,k5⟩:=HC.out W (wL _);have HG:=dJ J;have af:=dJ Y;obtain⟨V,S⟩:=xJ (Rn.validInput f i);rw[S]at CV;have HV:=dJ S
 have T:Hid (V=0->∀l,Gr W l->Calls prog 44 #[.agg #[vp,.int .i64 f.ret,vs,vb],.agg #[va,vm],vpk] l fun e w'=>∃(p:Value)(vx:Value)(D:Nat->Prop),e=.returned (.tuple #[p,gS (Rn.run f (Rn.given picks) i).1 vx,.int .i64 (Rn.wids f i picks).length])/\Keeps D w' vx (Rn.run f (Rn.given picks) i).1.mem/\(∀k,D k->l.heap.size<=k)/\Gr l w'):=fun h0 l F=>by rw[h0]at S;have K:Gr w l:=HG.out.trans F;refine(pW (w:=l) (f:=f) (i:=i) ((U.out.below K).mono K.size) ⟨(Rn.valid_input S).1,him⟩ S (SlAt.mono (U32At.below HA.out K) K.size) ((HM.out.below K).mono K.size) aa.out (SlAt.mono (U32At.below ac.out K) K.size) ae.out).mono ?_;rintro e w' ⟨⟨c,vx,vq,b,ag,rfl,c1,c2,c3,c4,c5⟩,g⟩;exact⟨_,vx,Dc c,rfl,c4,fun k C=>c5 k C.kept,g⟩
 obtain⟨X,hX⟩:=xJ ((Rn.run f (Rn.given picks) i).1);obtain⟨NW,N⟩:=xJ ((Rn.wids f i picks).length);rw[hX,N]at T;have HX:=dJ hX;have ab:=dJ N;obtain⟨Ap,cp,rfl,-⟩:=id hp;obtain⟨As,cs,rfl,-⟩:=id hs;obtain⟨Ab,cb,rfl,-⟩:=id hb;obtain⟨Aa,ca,rfl,-⟩:=id ha;obtain⟨Am,cm,rfl,-⟩:=id hm;obtain⟨Ak,ck,rfl,-⟩:=id hpk;clear hp hs hb ha hm hnn hpk hr hX N s0 s1 t0 t1 H I A Q R E J Y S;unfold gS at T;by_cases Z:V=0
 ·subst Z;have C2:=dJ (T.out rfl);clear T
  go_enter func16, ntmps16
  go_wp2_with (first
    | (go_at_call 13;refine CV.out.mono ?_;rintro e l ⟨rfl,F⟩;obtain⟨j0,j1,j2,j3,j4,j5⟩:=HC.out l F;have G:=dJ F;have CO:=dJ (C2.out l F);clear F C2)
    | (go_at_call 44;refine CO.out.mono ?_;rintro e u ⟨pp,vx,D,rfl,C,hd,g6⟩;obtain⟨L,M,rfl⟩:=C.2.1;have R4:=dJ C;have RD:=dJ hd;have d:=dJ (G.out.trans g6)
       have e0:=fun o=>vX _ _ 0 _ _ _ (j.out (u.alloc o) (d.out.alloc o))
       have z0:=fun o=>vY _ _ 0 _ _ (j.out (u.alloc o) (d.out.alloc o))
       have e1:=fun o=>vX _ _ 1 _ _ _ (j.out (u.alloc o) (d.out.alloc o))
       have z1:=fun o=>vY _ _ 1 _ _ (j.out (u.alloc o) (d.out.alloc o))
       have e2:=fun o=>vX _ _ 2 _ _ _ (j.out (u.alloc o) (d.out.alloc o))
       have z2:=fun o=>vY _ _ 2 _ _ (j.out (u.alloc o) (d.out.alloc o))
       have e3:=fun o=>vX _ _ 3 _ _ _ (j.out (u.alloc o) (d.out.alloc o))
       have z3:=fun o=>vY _ _ 3 _ _ (j.out (u.alloc o) (d.out.alloc o))
       have e4:=fun o=>vX _ _ 4 _ _ _ (j.out (u.alloc o) (d.out.alloc o))
       have z4:=fun o=>vY _ _ 4 _ _ (j.out (u.alloc o) (d.out.alloc o))
       clear C hd g6))
  obtain⟨W7,O⟩:=xJ (u.alloc (.cells #[.int .i64 X.kind,.bool X.ret.p,.int .i64 X.ret.s,.int .u32 X.ret.n,.slice L X.mem.length M] 39));have G7:Gr u W7:=by rw[<-O];exact(wL u).alloc _
  rw[O];have E:=j.out W7 (d.out.trans G7);clear O;have t:=(((((FrS.refl (·=w.heap.size+1+1) W7).setCell (p:=⟨w.heap.size+1+1,0,none⟩) rfl (.int .i64 X.kind)).setCell (p:=⟨w.heap.size+1+1,1,none⟩) rfl (.bool X.ret.p)).setCell (p:=⟨w.heap.size+1+1,2,none⟩) rfl (.int .i64 X.ret.s)).setCell (p:=⟨w.heap.size+1+1,3,none⟩) rfl (.int .u32 X.ret.n)).setCell (p:=⟨w.heap.size+1+1,4,none⟩) rfl (.slice L X.mem.length M);have r:=cX (i:=4) (.slice L X.mem.length M) (cX (i:=3) (.int .u32 X.ret.n) (cX (i:=2) (.int .i64 X.ret.s) (cX (i:=1) (.bool X.ret.p) (cX (i:=0) (.int .i64 X.kind) E))));obtain⟨y,B⟩:=xJ (((((W7.setCell ⟨w.heap.size+1+1,0,none⟩ (.int .i64 X.kind)).setCell ⟨w.heap.size+1+1,1,none⟩ (.bool X.ret.p)).setCell ⟨w.heap.size+1+1,2,none⟩ (.int .i64 X.ret.s)).setCell ⟨w.heap.size+1+1,3,none⟩ (.int .u32 X.ret.n)).setCell ⟨w.heap.size+1+1,4,none⟩ (.slice L X.mem.length M));rw[B]at t r;rw[B];have q0:y.cell? ⟨w.heap.size+1+1,0,none⟩=some (.int .i64 X.kind):=vX _ _ 0 _ _ _ r;have q1:y.cell? ⟨w.heap.size+1+1,1,none⟩=some (.bool X.ret.p):=vX _ _ 1 _ _ _ r;have q2:y.cell? ⟨w.heap.size+1+1,2,none⟩=some (.int .i64 X.ret.s):=vX _ _ 2 _ _ _ r;have q3:y.cell? ⟨w.heap.size+1+1,3,none⟩=some (.int .u32 X.ret.n):=vX _ _ 3 _ _ _ r;have q4:y.cell? ⟨w.heap.size+1+1,4,none⟩=some (.slice L X.mem.length M):=vX _ _ 4 _ _ _ r;refine vZ (v:=.tuple #[.agg #[.int .i64 X.kind,.bool X.ret.p,.int .i64 X.ret.s,.int .u32 X.ret.n,.slice L X.mem.length M],.int .i64 NW,.int .i64 0]) (by simp[results,results16,go_sem,q0,q1,q2,q3,q4]) rfl ?_;have ah:w.heap.size+3<=l.heap.size:=by have:=G.out.size;have:=af.out;omega
  refine⟨.inr ⟨HV.out,.slice L X.mem.length M,D,?_,?_,fun k C=>by have:=RD.out k C;omega⟩,iA (HG.out.trans (d.out.trans G7)) t (fun k C=>by omega)⟩
  ·rw[HX.out,ab.out];rfl
  ·rw[HX.out];exact(R4.out.gr G7).frs t fun k C q=>by have:=RD.out k C;omega
 ·clear T
  go_enter func16, ntmps16
  go_wp2_with (go_at_call 13;refine CV.out.mono ?_;rintro e l ⟨rfl,F⟩;have m:=j.out l F;have G:=dJ F;have ad:=dJ m
               obtain⟨e0,e1,e2,e3,e4⟩:=crw5 m 0 1 2 3 4
               obtain⟨z0,z1,z2,z3,z4⟩:=frw5 m 0 1 2 3 4
               clear m F)
  have t:=(((((FrS.refl (·=w.heap.size+1+1) l).setCell (p:=⟨w.heap.size+1+1,0,none⟩) rfl (.int .i64 0)).setCell (p:=⟨w.heap.size+1+1,1,none⟩) rfl (.bool false)).setCell (p:=⟨w.heap.size+1+1,2,none⟩) rfl (.int .i64 0)).setCell (p:=⟨w.heap.size+1+1,3,none⟩) rfl (.int .u32 0)).setCell (p:=⟨w.heap.size+1+1,4,none⟩) rfl (.slice none 0 0);have r:=cX (i:=4) (.slice none 0 0) (cX (i:=3) (.int .u32 0) (cX (i:=2) (.int .i64 0) (cX (i:=1) (.bool false) (cX (i:=0) (.int .i64 0) ad.out))));obtain⟨y,B⟩:=xJ (((((l.setCell ⟨w.heap.size+1+1,0,none⟩ (.int .i64 0)).setCell ⟨w.heap.size+1+1,1,none⟩ (.bool false)).setCell ⟨w.heap.size+1+1,2,none⟩ (.int .i64 0)).setCell ⟨w.heap.size+1+1,3,none⟩ (.int .u32 0)).setCell ⟨w.heap.size+1+1,4,none⟩ (.slice none 0 0));rw[B]at t r;rw[B];have q0:y.cell? ⟨w.heap.size+1+1,0,none⟩=some (.int .i64 0):=vX _ _ 0 _ _ _ r;have q1:y.cell? ⟨w.heap.size+1+1,1,none⟩=some (.bool false):=vX _ _ 1 _ _ _ r;have q2:y.cell? ⟨w.heap.size+1+1,2,none⟩=some (.int .i64 0):=vX _ _ 2 _ _ _ r;have q3:y.cell? ⟨w.heap.size+1+1,3,none⟩=some (.int .u32 0):=vX _ _ 3 _ _ _ r;have q4:y.cell? ⟨w.heap.size+1+1,4,none⟩=some (.slice none 0 0):=vX _ _ 4 _ _ _ r;refine vZ (v:=.tuple #[.agg #[.int .i64 0,.bool false,.int .i64 0,.int .u32 0,.slice none 0 0],.int .i64 0,.int .i64 V]) (by simp[results,results16,go_sem,q0,q1,q2,q3,q4]) rfl ?_;exact⟨.inl ⟨by rw[HV.out];exact Z,by rw[HV.out];rfl⟩,iA (HG.out.trans G.out) t (fun k C=>by omega)⟩
theorem gJ {w W:World}{p0 p1 p2 p3 va vm:Value}(h:(w.alloc (.cells #[p0,p1,p2,p3] 25)).alloc (.cells #[va,vm] 29)=W):Gr w W/\W.heap.size=w.heap.size+2 /\
  ∀wr,Gr W wr->C6 wr w.heap.size p0 p1 p2 p3 va vm:=by
 subst h;have e:(w.alloc (.cells #[p0,p1,p2,p3] 25)).heap.size=w.heap.size+1:=by simp
 refine⟨((wL w).alloc _).alloc _,by simp,fun wr g=>?_⟩;have d:wr.heap[w.heap.size]?=some (.cells #[p0,p1,p2,p3] 25 (0,0)):=(g.heap w.heap.size (by simp;omega)).trans ((((wL (w.alloc (.cells #[p0,p1,p2,p3] 25))).alloc (.cells #[va,vm] 29)).heap _ (by simp)).trans (heap_alloc_new w _));have j:wr.heap[w.heap.size+1]?=some (.cells #[va,vm] 29 (0,0)):=(g.heap (w.heap.size+1) (by simp)).trans (by rw[<-e];exact heap_alloc_new (w.alloc (.cells #[p0,p1,p2,p3] 25)) (.cells #[va,vm] 29));exact⟨vX _ _ 0 _ _ _ d,vX _ _ 1 _ _ _ d,vX _ _ 2 _ _ _ d,vX _ _ 3 _ _ _ d,vX _ _ 0 _ _ _ j,vX _ _ 1 _ _ _ j⟩
structure GotV (u:World)(Bv Bh n:Nat)(s:Rn.St):Prop where
 ln:s.vals.length=n
 hl:s.had.length=n
 hv:u.heap[Bv]?=some (.cells (dy s.vals).toArray 37 (0,0))
 hh:u.heap[Bh]?=some (.cells (s.had.map Value.bool).toArray 4 (0,0))
theorem GotV.cells {u:World}{Bv Bh n:Nat}{s:Rn.St}(h:GotV u Bv Bh n s){v:Nat}(hv:v<n):u.cell? ⟨Bv,v*3,none⟩=some (.bool (s.get v).p)/\u.cell? ⟨Bv,v*3+1,none⟩=some (.int .i64 (s.get v).s)/\u.cell? ⟨Bv,v*3+2,none⟩=some (.int .u32 (s.get v).n)/\u.cell? ⟨Bh,v,none⟩=some (.bool (s.had.getD v false)):=by
 have l:=h.ln;have m:=h.hl
 have e:s.vals[v]?=some (s.get (v:Int)):=by unfold Rn.St.get;rw[vG,vA,vu (by omega)];rfl
 obtain⟨d,g,j⟩:=dZ _ _ _ e;rw[Nat.mul_comm]at d g j;refine⟨(vX _ _ _ _ _ _ h.hv).trans (by simpa using d),(vX _ _ _ _ _ _ h.hv).trans (by simpa using g),(vX _ _ _ _ _ _ h.hv).trans (by simpa using j),(vX _ _ _ _ _ _ h.hh).trans ?_⟩;rw[vA];simp[show v<s.had.length by omega]
theorem qX {B:Nat}{w w':World}{v:Value}{zs:List Int}(h:U32At B w v zs)(hb:Below B w w'):U32At B w' v zs :=
 SlAt.imp h fun b off d g j z l=>(hb.cell (p:=⟨b,off+j,none⟩) d).trans (g j z l)
def sL (v:Value)(n:Nat):Prop:=∃A c,v=.slice A n c/\n<=c/\n<=9223372036854775807
structure ArgsAt (w:World)(v:Value)(zs:List Int):Prop where
 len:sL v zs.length
 at_:zs.length<=1000->U32At w.heap.size w v zs
 words:∀z∈zs,0<=z/\z<4294967296
def fj (i:Rn.Inp):Bool:=decide (20<i.args.length) || decide (20<i.mem.length) || i.mem.any fun l=>decide (50<l.length)
theorem sy {w:World}{i:Rn.Inp}{va vm:Value}(ha:sL va i.args.length)(hm:TabAt w.heap.size w vm i.mem) :
  Calls prog 37 #[.agg #[va,vm]] w (RG (.bool (fj i)) w):=by
 obtain⟨B,ca,rfl,U,X⟩:=ha;obtain⟨Am,cm,rfl,m1,m2,L⟩:=hm;obtain⟨W,K⟩:=xJ (w.alloc (.cells #[.slice B i.args.length ca,.slice Am i.mem.length cm] 29));have F:Gr w W:=by rw[<-K];exact(wL w).alloc _
 have p:W.heap[w.heap.size]?=some (.cells #[.slice B i.args.length ca,.slice Am i.mem.length cm] 29 (0,0)):=by rw[<-K];exact heap_alloc_new _ _
 have k0:W.cell? ⟨w.heap.size,0,none⟩=some (.slice B i.args.length ca):=vX _ _ 0 _ _ _ p;have k1:W.cell? ⟨w.heap.size,1,none⟩=some (.slice Am i.mem.length cm):=vX _ _ 1 _ _ _ p
 have C:Hid (∀j l,i.mem[j]?=some l->∃b o y A,Am=some ⟨b,o,none⟩/\W.cell? ⟨b,o+j,none⟩=some (.slice y l.length A)):=fun j l hl=>by obtain⟨b,o,e,S,Q⟩:=L (by have:=(yC.1 hl).1;omega);obtain⟨u,T,y,A,rfl,-⟩:=Q j l hl;exact⟨b,o,y,A,e,(F.cell _ _ S).trans T⟩
 have z:=dJ F;obtain⟨R,H⟩:=xJ (fj i);have D:=dJ H;rw[H];clear F p L H;by_cases d:20<i.args.length
 ·have m:Hid (R=true):=by show _=_;rw[<-D.out];simp[fj,d]
  have M:(20:Int)<(i.args.length:Int):=by omega
  go_enter func37, ntmps37
  go_wp2;go_ret;exact⟨cZ m.out.symm,z.out⟩
 ·have M:¬(20:Int)<(i.args.length:Int):=by omega
  by_cases g:20<i.mem.length
  ·have m:Hid (R=true):=by show _=_;rw[<-D.out];simp[fj,g]
   have N:(20:Int)<(i.mem.length:Int):=by omega
   go_enter func37, ntmps37
   go_wp2;go_ret;exact⟨cZ m.out.symm,z.out⟩
  ·have N:¬(20:Int)<(i.mem.length:Int):=by omega
   have r:Hid ((i.mem.any fun l=>decide (50<l.length))=R):=by show _=_;rw[<-D.out];simp[fj,d,g]
   go_enter func37, ntmps37
   go_wp2
   go_loop [3] (fun s3=>∃k:Nat,k<=i.mem.length/\s3=.int .i64 (k:Int)/\Hid (∀j l,j<k->i.mem[j]?=some l->l.length<=50)) (fun s3=>i.mem.length-(intOf s3).toNat)
   case atStart=>exact⟨0,vU _,rfl,(fun j l h=>absurd h (Nat.not_lt_zero _))⟩
   case round =>
    obtain⟨k,Z,rfl,t⟩:=hrel;by_cases J:k<i.mem.length
    ·obtain⟨l,hl⟩:∃l,i.mem[k]?=some l:=⟨_,vu J⟩;obtain⟨b,o,y,A,rfl,Y⟩:=C.out k l hl;by_cases G:50<l.length
     ·have m:Hid (R=true):=by show _=_;rw[<-r.out,wC];exact⟨l,vz hl,by simpa using G⟩
      have O:(50:Int)<(l.length:Int):=by omega
      clear hl;go_wp2;go_ret;exact⟨cZ m.out.symm,z.out⟩
     ·have O:¬(50:Int)<(l.length:Int):=by omega
      have E:Hid (∀j l,j<k+1->i.mem[j]?=some l->l.length<=50):=fun j l' I h=>by
       rcases wh j k with q|q
       ·exact t.out j l' q h
       ·obtain rfl:j=k:=by omega
        rw[hl]at h;injection h with h;subst h;omega
      clear hl;go_wp2;go_round;case rel=>exact⟨k+1,by omega,by go_num,E⟩
      case measure=>simp[intOf];omega
    ·have m:Hid (R=false):=by
      show _=_;rw[<-r.out,List.any_eq_false];intro l hl;obtain⟨j,I⟩:=List.getElem?_of_mem hl;have:=(yC.1 I).1;have:=t.out j l (by omega) I;simpa using this
     go_wp2;go_ret;exact⟨cZ m.out.symm,z.out⟩
theorem kX {w:World}{f:Fn}{vf:Value}(hfn:FnAt w.heap.size w vf f){i:Rn.Inp}{va vm:Value}(ha:sL va i.args.length)(hm:TabAt w.heap.size w vm i.mem) :
  Calls prog 11 #[vf,.agg #[va,vm]] w (RG (.bool (dV f || fj i)) w):=by
 obtain⟨vp,vs,vb,rfl,E,F,D⟩:=hfn;have z:Hid (FnAt w.heap.size w (.agg #[vp,.int .i64 f.ret,vs,vb]) f):=⟨vp,vs,vb,rfl,E,F,D⟩;have I:=dJ ha;have J:=dJ hm;obtain⟨W,C⟩:=xJ ((w.alloc (.cells #[vp,.int .i64 f.ret,vs,vb] 25)).alloc (.cells #[va,vm] 29));have u:Gr w W:=by rw[<-C];exact((wL w).alloc _).alloc _
 have p:(w.alloc (.cells #[vp,.int .i64 f.ret,vs,vb] 25)).heap.size=w.heap.size+1:=by simp
 have j:W.heap[w.heap.size]?=some (.cells #[vp,.int .i64 f.ret,vs,vb] 25 (0,0)):=by rw[<-C];exact(((wL (w.alloc (.cells #[vp,.int .i64 f.ret,vs,vb] 25))).alloc _).heap _ (by simp)).trans (heap_alloc_new w _)
 have l:W.heap[w.heap.size+1]?=some (.cells #[va,vm] 29 (0,0)):=by rw[<-C,<-p];exact heap_alloc_new _ _
 have U:W.cell? ⟨w.heap.size,0,none⟩=some vp:=vX _ _ 0 _ _ _ j;have X:W.cell? ⟨w.heap.size,1,none⟩=some (.int .i64 f.ret):=vX _ _ 1 _ _ _ j;have Y:W.cell? ⟨w.heap.size,2,none⟩=some vs:=vX _ _ 2 _ _ _ j;have Z:W.cell? ⟨w.heap.size,3,none⟩=some vb:=vX _ _ 3 _ _ _ j
 have B:Hid (∀wr,Gr W wr->wr.cell? ⟨w.heap.size+1,0,none⟩=some va/\wr.cell? ⟨w.heap.size+1,1,none⟩=some vm):=fun wr g=>by have r:=(g.heap _ (cY l)).trans l;exact⟨vX _ _ 0 _ _ _ r,vX _ _ 1 _ _ _ r⟩
 have y:=dJ (ri _ f W ((z.out.below u).mono u.size));have t:=dJ u;obtain⟨M,Q,rfl,-⟩:=id E;obtain⟨N,R,rfl,-⟩:=id F;obtain⟨L,O,rfl,-⟩:=id D;obtain⟨K,ca,rfl,-⟩:=id ha;obtain⟨Am,cm,rfl,-⟩:=id hm;clear E F D ha hm u j l p;cases hl:dV f;all_goals rw[hl]at y
 ·go_enter func11, ntmps11
  go_wp2_with (first|(go_at_call 36;refine y.out.mono ?_;rintro e q ⟨rfl,m⟩;obtain⟨S,T⟩:=B.out q m;have d:Hid (Gr W q):=m;have H:=dJ (sy (w:=q) (i:=i) I.out ((J.out.below (t.out.trans d.out)).mono (t.out.trans d.out).size));clear m)|(go_at_call 37;refine H.out.mono ?_;rintro e w2 ⟨rfl,G⟩;have A:=dJ G;clear G))
  go_ret;exact⟨cZ (by simp),t.out.trans (d.out.trans A.out)⟩
 ·go_enter func11, ntmps11
  go_wp2_with (go_at_call 36;refine y.out.mono ?_;rintro e q ⟨rfl,m⟩;have d:Hid (Gr W q):=m;clear m);go_ret;exact⟨cZ (by simp),t.out.trans d.out⟩
@[go_sem] theorem sE (v0 v1 v2 v3 v4 v5 v7 v8 v9:Value)(A:Option Addr)(n c:Nat)(w:World):(Instr.field 81 (.agg #[v0,v1,v2,v3,v4,v5,.slice A n c,v7,v8,v9]) 2).run prog w=.ok (.slice A n c) w:=by kernel_rfl
@[go_sem] theorem sU (v0 v1 v2 v3 v4 v5 v6 v8 v9:Value)(z:Int)(w:World):(Instr.field 81 (.agg #[v0,v1,v2,v3,v4,v5,v6,.int .i64 z,v8,v9]) 3).run prog w=.ok (.int .i64 z) w:=by kernel_rfl
@[go_sem] theorem xU (z1 z2 z3:Int)(b:Bool)(A:Option Addr)(n c:Nat)(v1 v2 v3 v4 v5:Value)(w:World):(Instr.field 81 (.agg #[.int .i64 z1,.bool b,.int .i64 z2,.int .u32 z3,.slice A n c,v1,v2,v3,v4,v5]) 0).run prog w=.ok (.agg #[.int .i64 z1,.bool b,.int .i64 z2,.int .u32 z3,.slice A n c]) w:=by kernel_rfl
@[go_sem] theorem ye (v0 v1 v2 v3 v4 v6 v7 v8 v9:Value)(A:Option Addr)(n c:Nat)(w:World):(Instr.field 81 (.agg #[v0,v1,v2,v3,v4,.slice A n c,v6,v7,v8,v9]) 1).run prog w=.ok (.slice A n c) w:=by kernel_rfl
theorem Own1.base {B B':Nat}{e:TypeId}{w:World}{v:Value}{xs:List Value}(h:Own1 B e w v xs)(hb:∀k,v.ownBlock=some k->B'<=k):Own1 B' e w v xs:=by obtain⟨m,p⟩:=h;refine⟨m,p.elim .inl fun⟨g,d,j,l,q,r⟩=>.inr ⟨g,d,j,l,hb g (by rw[l];rfl),r⟩⟩
def RowOf (B:Nat)(e:TypeId)(w:World)(v:Value)(ys:List Value):Prop:=∃A c,v=.slice A ys.length c/\ys.length<=c/\(0<ys.length->Own1 B e w v ys)
section
variable {P:Program}{w:World}
end
section
variable {w w':World}{B:Nat}{e:TypeId}{v:Value}{ys:List Value}
theorem RowOf.same (h:RowOf B e w v ys)(hw:∀(k:Nat)(cur:Array Value),B<=k->w.heap[k]?=some (.cells cur e (0,0))->w'.heap[k]?=w.heap[k]?):RowOf B e w' v ys:=by obtain⟨A,c,rfl,j,d⟩:=h;refine⟨A,c,rfl,j,fun g=>dr (d g) fun k hk=>?_⟩;obtain⟨l,-,cur,m⟩:=dg (d g) hk;exact hw k cur l m
theorem RowOf.less {B':Nat}(h:RowOf B e w v ys)(hB:B'<=B):RowOf B' e w v ys:=by obtain⟨A,c,rfl,p,q⟩:=h;refine⟨A,c,rfl,p,fun t=>?_⟩;obtain⟨u,y⟩:=q t;refine⟨u,y.elim .inl fun⟨g,d,j,l,m,r⟩=>.inr ⟨g,d,j,l,Nat.le_trans hB m,r⟩⟩
theorem RowOf.sl {n:Nat}(h:RowOf B e w v ys)(hl:ys.length=n)(hn:n<=17592186044416):SlAt w.heap.size v n fun b off=>∀j z,ys[j]?=some z->w.cell? ⟨b,off+j,none⟩=some z:=by subst hl;obtain⟨A,c,rfl,l,m⟩:=h;refine⟨A,c,rfl,l,hn,fun d=>?_⟩;obtain⟨b,rfl,p,-,q⟩:=dz (m d) rfl d;exact⟨b,0,rfl,p,fun j z g=>by rw[Nat.zero_add,q j (by have:=(yC.1 g).1;omega)];exact g⟩
theorem RowOf.ints {zs:List Int}(h:RowOf B e w v (zs.map (Value.int .i64)))(hn:zs.length<=17592186044416):IntsAt w.heap.size w v zs :=
 SlAt.imp (h.sl (vS _) hn) fun b off _ d j z g=>d j _ (by rw[vH,g];rfl)
theorem RowOf.u32 {zs:List Int}(h:RowOf B e w v (zs.map (Value.int .u32)))(hn:zs.length<=17592186044416):U32At w.heap.size w v zs :=
 SlAt.imp (h.sl (vS _) hn) fun b off _ d j z g=>d j _ (by rw[vH,g];rfl)
theorem Src.u32 {u:Value}{zs:List Int}(h:U32At B w u zs):Src w u 1 zs.length (zs.map (Value.int .u32)):=by obtain⟨A,c,rfl,_,_,g⟩:=h;refine⟨A,c,rfl,by simp,fun m=>?_⟩;obtain⟨b,off,rfl,_,l⟩:=g m;refine⟨_,rfl,fun j x d=>?_⟩;rw[vH]at d;obtain⟨z,p,rfl⟩:=Option.map_eq_some_iff.1 d;rw[eP];exact l j z p
end
structure CS (Bo:Nat)(W w:World)(va:Value)(mem:List (List Int))(k:Nat)(us:List Value)(A8:Option Addr)(c8:Nat):Prop where
 fr:FrS (·=Bo) W w
 st:w.heap[Bo]?=some (.cells #[va,.slice A8 k c8] 29 (0,0))
 len:us.length=k
 own:Own1 (Bo+1) 22 w (.slice A8 k c8) us
 rows:∀(j:Nat)(u:Value)(l:List Int),us[j]?=some u->mem[j]?=some l->RowOf (Bo+1) 3 w u (l.map (Value.int .i64))
section
variable {Bo k c8 c2:Nat}{W w w1 w2:World}{va:Value}{mem:List (List Int)}{us:List Value}{A8 A2:Option Addr}{tmp:Obj}{u:Value}{l:List Int}
theorem CS.grow (hW:W.heap.size=Bo+1)(h:CS Bo W w va mem k us A8 c8)(g:Gr w w1):CS Bo W w1 va mem k us A8 c8 where
 fr:=h.fr.trans (FrS.of_gr g)
 st:=(g.heap _ (cY h.st)).trans h.st
 len:=h.len
 own:=h.own.gr g
 rows:=fun j u l d m=>(h.rows j u l d m).same fun q cur _ hq=>g.heap _ (cY hq)
theorem CS.push (hW:W.heap.size=Bo+1)(h:CS Bo W w va mem k us A8 c8)(hl:mem[k]?=some l)(g1:Gr w w1)(hu:RowOf w.heap.size 3 w1 u (l.map (Value.int .i64)))(hg:(w1.alloc tmp).grownBy w2 (Value.slice A8 k c8).ownBlock)(ho2:Own1 (Bo+1) 22 w2 (.slice A2 (k+1) c2) (us++[u])) :
  (w2.cell? ⟨Bo,1,none⟩=some (.slice A8 k c8)/\w2.frozen? ⟨Bo,1,none⟩=false)/\CS Bo W (w2.setCell ⟨Bo,1,none⟩ (.slice A2 (k+1) c2)) va mem (k+1) (us++[u]) A2 c2:=by
 have y:=h.own.gr g1;have A:FrS (fun q=>(Value.slice A8 k c8).ownBlock=some q) w1 w2:=((FrS.refl _ w1).alloc tmp).grown hg (fun q d=>.inl d);have I:w.heap.size<=w1.heap.size:=g1.size;have H:W.heap.size<=w.heap.size:=h.fr.size;have B:=(g1.heap _ (cY h.st)).trans h.st;have C:w2.heap[Bo]?=some (.cells #[va,.slice A8 k c8] 29 (0,0)):=(A.block _ (cY B) (fun q=>by have:=(dg y q).1;omega)).trans B;have G:FrS (fun q=>(Value.slice A8 k c8).ownBlock=some q\/q=Bo) w1 (w2.setCell ⟨Bo,1,none⟩ (.slice A2 (k+1) c2)):=(A.mono fun q d=>.inl d).setCell (p:=⟨Bo,1,none⟩) (.inr rfl) _
 have r:∀(q:Nat)(t:Array Value),Bo+1<=q->w1.heap[q]?=some (.cells t 3 (0,0))->(w2.setCell ⟨Bo,1,none⟩ (.slice A2 (k+1) c2)).heap[q]?=w1.heap[q]?:=fun q t d hc=>G.block _ (cY hc) (by
   rintro (e|e)
   · obtain⟨-,-,F,E⟩:=dg y e
     exact dn hc E (by decide) rfl
   · omega)
 refine⟨⟨vX _ _ 1 _ _ _ C,vY _ _ 1 _ _ C⟩,?_,?_,by simp[h.len],dr ho2 fun q d=>wk _ _ _ _ (by have:=(dg ho2 d).1;show q≠Bo;omega),fun j v m g z=>?_⟩
 ·refine FrS.weaken (S:=fun q=>q=Bo\/W.heap.size<=q) ((h.fr.mono fun q d=>.inl d).trans ((FrS.of_gr g1).trans (G.mono fun q d=>?_))) fun q d e=>e.elim (fun e=>e) (fun e=>by omega);rcases d with e|e
  ·right;have:=(dg y e).1;omega
  ·exact .inl e
 ·have:=cX (i:=1) (.slice A2 (k+1) c2) C;exact this
 ·rcases wh j us.length with D|D
  ·rw[vJ D]at g;exact((h.rows j v m g z).same fun q t _ d=>g1.heap _ (cY d)).same r
  ·rw[vK D]at g
   obtain rfl:j=us.length:=by
    rcases wh us.length j with q|q
    ·rw[vP (by simp;omega)]at g;cases g
    ·omega
   rw[Nat.sub_self]at g;simp at g;subst g;rw[h.len,hl]at z;injection z with z;subst z;exact(hu.less (by omega)).same r
end
theorem wX {x o:Rn.Out}:∀{l:List Rn.Out},o∈Rn.insert x l->o=x\/o∈l
 | [],h=>by simp[Rn.insert]at h;exact .inl h
 | y::r,h=>by
  rw[Rn.insert]at h
  split at h
  ·exact .inr h
  ·split at h
   ·rcases List.mem_cons.1 h with h|h
    ·exact .inl h
    ·exact .inr h
   ·rcases List.mem_cons.1 h with h|h
    ·exact .inr (by rw[h];simp)
    ·rcases wX h with h|h
     ·exact .inl h
     ·exact .inr (List.mem_cons_of_mem _ h)
theorem yr {f:Fn}{i:Rn.Inp}(hv:Ref.Val f)(hi:Rn.Im f)(hin:Rn.validInput f i=0)(ha:∀a∈i.args,0<=a)(p:List Int):OW (Rn.run f (Rn.given p) i).1:=by
 obtain⟨-,-,-,q⟩:=Rn.run_ok mr hv hi hin ha p;rcases q with ⟨-,-,-,q⟩|q|q
 ·exact q
 all_goals rw[q];unfold OW;decide
theorem Own1.src {B:Nat}{e:TypeId}{w:World}{v:Value}{xs:List Value}{n:Nat}(h:Own1 B e w v xs)(hn:xs.length=n):Src w v 1 n xs:=by subst hn;obtain⟨A,c,rfl⟩:=h.form;refine⟨A,c,rfl,by simp,fun l=>?_⟩;obtain⟨b,rfl,-,-,g⟩:=dz h rfl l;refine⟨_,rfl,fun j x d=>?_⟩;rw[eP];have:=g j (by have:=(yC.1 d).1;omega);rw[d]at this;rw[Nat.zero_add];exact this
theorem RowOf.own {B:Nat}{e:TypeId}{w:World}{v:Value}{ys:List Value}(h:RowOf B e w v ys)(hp:0<ys.length):Own1 B e w v ys:=by obtain⟨A,c,-,-,q⟩:=h;exact q hp
section
variable {B:Nat}{w w' w2:World}{v:Value}{xs:List Int}
theorem Own1.u32 {vp:Value}{p:List Int}(h:Own1 B 35 w vp (p.map (Value.int .u32)))(hl:p.length<=1000):U32At w.heap.size w vp p:=by
 have d:RowOf B 35 w vp (p.map (Value.int .u32)):=by
  obtain⟨A,c,rfl⟩:=h.form;refine⟨A,c,rfl,?_,fun _=>h⟩;obtain⟨-,r⟩:=h;rcases r with ⟨e,d⟩|⟨g,j,l,e,-,-,t,-⟩
  ·injection e with _ m q;omega
  ·injection e with _ m q;omega
 exact d.u32 (by omega)
end
end

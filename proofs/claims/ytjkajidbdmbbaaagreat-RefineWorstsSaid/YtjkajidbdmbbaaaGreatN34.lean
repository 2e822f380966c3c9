import Derived.Test.YtjkajidbdmbbaaaGreatN33
set_option linter.unusedSimpArgs false
set_option linter.unusedVariables false
set_option maxRecDepth 100000
set_option maxHeartbeats 16000000
open Go.Proofs.Tryz
namespace Go.Proofs.YtjkajidbdmbbaaaGreat
open Ref Rn Wd Ir Rf
open Go.RowKit
variable {c:Cfg}{b frm:Int}{fin:List Int}{bl k:Nat}{O:Nat->Prop}{R:Value}{w:World}
def RowV (bl:Nat)(l:List Rn.V)(w:World):Prop:=w.heap[bl]?=some (.cells (dB l).toArray 24 (0,0))
theorem RowV.cells {l:List Rn.V}(h:RowV bl l w){v:Rn.V}(hv:l[k]?=some v) :
  w.cell? ⟨bl,k*3,none⟩=some (.bool v.p)/\w.cell? ⟨bl,k*3+1,none⟩=some (.int .i64 v.s)/\w.cell? ⟨bl,k*3+2,none⟩=some (.int .u32 v.n):=by
 have:=LAt.cells h hv
 rwa [Nat.mul_comm]at this
theorem RowV.free {l:List Rn.V}(h:RowV bl l w)(i:Nat):w.frozen? ⟨bl,i,none⟩=false:=by unfold World.frozen?;unfold RowV at h;simp[h]
theorem RowV.set {l:List Rn.V}(h:RowV bl l w)(k:Nat)(v:Rn.V):RowV bl (l.set k v) (((w.setCell ⟨bl,k*3,none⟩ (.bool v.p)).setCell ⟨bl,k*3+1,none⟩ (.int .i64 v.s)).setCell ⟨bl,k*3+2,none⟩ (.int .u32 v.n)):=by have d:=cX (i:=k*3+2) (.int .u32 v.n) (cX (i:=k*3+1) (.int .i64 v.s) (cX (i:=k*3) (.bool v.p) h));rw[gQ]at d;exact d
def gv (s:AN)(args:List Int)(k:Nat):List Rn.V:=(args.take k).map s.get++List.replicate (args.length-k) Rn.zero
theorem lc (s:AN)(args:List Int)(k:Nat)(h:k<=args.length):(gv s args k).length=args.length:=by unfold gv;simp;omega
theorem oE (s:AN)(args:List Int)(k:Nat)(z:Int)(h:args[k]?=some z):(gv s args k).set k (s.get z)=gv s args (k+1):=by
 have l:=(xS.1 h).1;apply List.ext_getElem?;intro i;have d:((args.take k).map s.get).length=k:=by simp;omega
 have g:((args.take (k+1)).map s.get).length=k+1:=by simp;omega
 by_cases e:k=i
 ·subst e;rw[yC (by rw[lc _ _ _ (by omega)];exact l)];unfold gv;rw[yd (by omega),yc,yf,yr (by omega),h];rfl
 ·rw[List.getElem?_set_ne e];unfold gv;by_cases j:i<k
  ·rw[yd (by omega),yd (by omega),yc,yc,yf,yf,yr j,yr (by omega)]
  ·rw[ye (by omega),ye (by omega),d,g,yk,yk];by_cases m:i<args.length
   ·rw[yr (by omega),yr (by omega)]
   ·rw[yt (by omega),yt (by omega)]
theorem qr (s:AN)(args:List Int):gv s args args.length=args.map s.get:=by unfold gv;simp
theorem oF (s:AN)(args:List Int):gv s args 0=List.replicate args.length Rn.zero:=by unfold gv;simp
def uD (s:AN)(args:List Int)(k:Nat):Bool:=((args.take k).map s.get).any (·.p)
theorem qo (s:AN)(args:List Int)(k:Nat)(z:Int)(h:args[k]?=some z):uD s args (k+1)=(uD s args k || (s.get z).p):=by unfold uD;rw[List.take_add_one,h];simp
def xj (c:Cfg):FH->Value
 | .val v=>vI v
 | .on=>onI
 | .go t=>.iface 176 (.agg #[.int .i64 t])
 | .fin o=>.iface 178 (.agg #[.int .i64 o.kind,.bool o.ret.p,.int .i64 o.ret.s,.int .u32 o.ret.n,if o.kind=0 then c.mv else .slice none 0 0])
def ej {c:Cfg}{pick:Dk}{fin:List Int}(ch:eP c pick fin)(O:Nat->Prop)(w:World)(b frm:Int)(vt:Value)(r:FH × AN)(e:Ending)(w':World):Prop :=
 e=.returned (xj c r.1)/\Left ch w O r.2 b frm vt w'
def rH (s:AN):Option Rn.V->FH × AN
 | none=>(.fin Dw,s)
 | some v=>(.val v,s)
def wY:Option Rn.V->Value
 | none=>pW
 | some v=>vI v
theorem nX {pick:Dk}{ch:eP c pick fin}{w':World}{s:AN}{vt:Value}(r:Option Rn.V)(e:R=wY r)(h:Left ch w O s b frm vt w'):ej ch O w b frm vt (rH s r) (.returned R) w':=by
 subst e
 cases r with
 | none=>exact⟨rfl,h⟩
 | some v=>exact⟨rfl,h⟩
theorem rW {s:AN}{vt:Value}(h:PS c w s b frm vt)(hf:VFn c.f)(x:Ins)(va vt':Value)(hx:IntsAt c.n₀ w va x.args)(ht:IntsAt c.n₀ w vt' x.to)(hl:x.args.length<=40)(hin:∀v∈x.args,0<=v/\v<s.v.length)(hn:s.v.length<=1000)
  (hi:Rn.Inv c.f s) {pick:Dk}  (ch:eP c pick fin)  (hA:ch.At w s.z O) (hfin:(ze c.f pick x s).2.z <+: fin) (hs:Kp c.f x) (ho:x.op≠28) (hv:∀v∈x.args,0<Ref.kind c.f v->Fp c.f (Ref.kind c.f v) (s.get v)) :
  Calls prog 149 #[.pointer (some ⟨c.Bs,0,none⟩),dj x va vt'] w (ej ch O w b frm vt (ze c.f pick x s)):=by
 obtain⟨W,hW⟩:=xJ (dW w x va vt');have aA:Gr w W:=by rw[<-hW];exact(yO w).alloc _
 have g0:Gr (dW w x va vt') W:=by rw[hW];exact yO _
 have aB:=fp W x.args.length (by omega);have aC:W.heap.size=w.heap.size+1:=by rw[<-hW];unfold dW;simp
 obtain⟨W1,ai⟩:=xJ (W.alloc (.cells (dB (List.replicate x.args.length Rn.zero)).toArray 24));rw[ai]at aB;have an:Gr W W1:=by rw[<-ai];exact(yO W).alloc _
 have j:RowV (w.heap.size+1) (gv s x.args 0) W1:=by rw[oF];unfold RowV;rw[<-aC,<-ai];exact heap_alloc_new W _
 have au:=dJ j;have X0:=dl g0;have aX:=hx;obtain⟨Aa,ca,a8,a1,a2,a3⟩:=hx;subst a8
 have aG:Hid (∀wr,FrS (·=w.heap.size+1) W1 wr->Gr w wr/\Gr W wr):=fun wr ak=>by have hB:Below (w.heap.size+1) W1 wr:=ak.below (fun k K=>by omega) (by have:=an.size;omega);have g:Gr W wr:=Gr.below an hB (by omega);exact⟨aA.trans g,g⟩
 have aq:Hid (∀(wr:World)(k:Nat)(z:Int),Gr w wr->x.args[k]?=some z->∃ba oa,Aa=some ⟨ba,oa,none⟩/\wr.cell? ⟨ba,oa+k,none⟩=some (.int .i64 z)):=fun wr k z g hz=>by obtain⟨ba,oa,e,aO,a4⟩:=a3 (by have:=(xS.1 hz).1;omega);exact⟨ba,oa,e,(g.cell _ _ (by have:=h.n₀;omega)).trans (a4 k z hz)⟩
 have av:Hid (∀(wr:World)(z:Int),Gr w wr->z∈x.args->∃Q:Nat,z=(Q:Int)/\Q<s.v.length/\wr.cell? ⟨c.Bv,Q*3,none⟩=some (.bool (s.get z).p)/\wr.cell? ⟨c.Bv,Q*3+1,none⟩=some (.int .i64 (s.get z).s)/\wr.cell? ⟨c.Bv,Q*3+2,none⟩=some (.int .u32 (s.get z).n)/\wr.cell? ⟨c.Bs,5,none⟩=some (.slice (some ⟨c.Bv,0,none⟩) s.v.length s.v.length)):=fun wr z g hz=>by
  obtain⟨z0,z1⟩:=hin z hz;obtain⟨Q,rfl⟩:=xZ z0;have aD:Q<s.v.length:=by omega
  have hp:=h.gr g
  have e:s.v[Q]?=some (s.get (Q:Int)):=by unfold AN.get;rw[ya,xU,xR aD];rfl
  obtain⟨J,q1,q2⟩:=RowV.cells hp.v e;exact⟨Q,rfl,aD,J,q1,q2,hp.cell 5⟩
 have k3:W.cell? ⟨w.heap.size,3,none⟩=some (.slice Aa x.args.length ca):=X0.2.2.2.1;have bd:W1.cell? ⟨w.heap.size,3,none⟩=some (.slice Aa x.args.length ca):=(an.cell _ _ (by omega)).trans k3;rw[aC]at aB;have aY:=dJ ai;have HH:=dJ h;have HA:=dJ hA;have ar:=dJ hfin;clear hA hfin;have bh:=dJ aA;have U:=dJ g0;unfold dW at hW;unfold dj;have aZ:=dJ aX;have aI:=dJ h.n₀;clear h aX a3 j X0 aA an g0 aC hin ai
 go_enter func149, ntmps149
 go_wp2
 go_loopw [6,17] (fun s6 aF wr=>∃k:Nat,k<=x.args.length/\aF=.int .i64 (k:Int)/\s6=.bool (uD s x.args k)/\Hid (RowV (w.heap.size+1) (gv s x.args k) wr)/\Hid (FrS (·=w.heap.size+1) W1 wr)) (fun _ aF _=>x.args.length-(intOf aF).toNat)
 case atStart=>exact⟨0,yI _,rfl,rfl,au,FrS.refl _ _⟩
 case round =>
  obtain⟨k,K,rfl,rfl,j,ak⟩:=hrel;obtain⟨g1,g2⟩:=aG.out wr ak.out;by_cases aR:k<x.args.length
  ·obtain⟨z,hz⟩:∃z,x.args[k]?=some z:=⟨_,xR aR⟩;obtain⟨ba,oa,rfl,hc⟩:=aq.out wr k z g1 hz;obtain⟨Q,rfl,aD,v0,v1,v2,cv⟩:=av.out wr z g1 (xT hz);obtain⟨y,hy⟩:∃y,(gv s x.args k)[k]?=some y:=⟨_,xR (by rw[lc _ _ _ K];exact aR)⟩;obtain⟨d0,d1,d2⟩:=j.out.cells hy;have f0:=j.out.free (k*3);have f1:=j.out.free (k*3+1);have f2:=j.out.free (k*3+2)
   have aK:Hid (RowV (w.heap.size+1) (gv s x.args (k+1)) (((wr.setCell ⟨w.heap.size+1,k*3,none⟩ (.bool (s.get Q).p)).setCell ⟨w.heap.size+1,k*3+1,none⟩ (.int .i64 (s.get Q).s)).setCell ⟨w.heap.size+1,k*3+2,none⟩ (.int .u32 (s.get Q).n))):=by show RowV _ _ _;rw[<-oE s x.args k Q hz];exact j.out.set k _
   have aJ:=dJ (((ak.out.setCell (p:=⟨w.heap.size+1,k*3,none⟩) rfl (.bool (s.get Q).p)).setCell (p:=⟨w.heap.size+1,k*3+1,none⟩) rfl (.int .i64 (s.get Q).s)).setCell (p:=⟨w.heap.size+1,k*3+2,none⟩) rfl (.int .u32 (s.get Q).n));have ax:=dJ (qo s x.args k Q hz);obtain⟨q,hq⟩:=xJ (s.get (Q:Int));rw[hq]at v0 v1 v2 aK aJ ax;obtain⟨ap,aN⟩:=xJ (uD s x.args k);rw[aN]at ax ⊢;clear hz hy hq aN g1 g2;cases ap
   all_goals
    go_wp2;go_roundw;case rel=>exact⟨k+1,by omega,by go_num,by rw[ax.out];rfl,aK,aJ⟩
    case measure=>simp[intOf];omega
  ·obtain rfl:k=x.args.length:=by omega
   have hP:=HH.out.gr g1;obtain⟨J,q1,q2,q3,q4,q5⟩:=dl (U.out.trans g2);rw[qr]at j;have H:Hid (uD s x.args x.args.length=(x.args.map s.get).any (·.p)):=by show _=_;unfold uD;rw[yv]
   obtain⟨sm,aU⟩:=xJ (uD s x.args x.args.length);rw[aU]at H ⊢;have HP:=dJ hP;have G1:=dJ g1;have D:=hP;have aM:=dJ (ht.below (Below.mono g1 aI.out));have R:IntsAt c.n₀ wr (.slice Aa x.args.length ca) x.args:=aZ.out.below (Below.mono g1 aI.out);have l:Hid (∀w',Gr wr w'->Left ch w O s b frm vt w'):=fun w' g=>Left.of_gr HA.out HH.out (g1.trans g);clear aU hP av aq au ak aG k3 bd aB aY hW
   cases hs with
   | const o ha hw him =>
    have hlen:x.args.length=0:=by rw[ha];rfl
    have A:Hid (ze c.f pick x s=(.val (Ae x.i),s)):=by show _=_;simp[ze,o,ha,Ep]
    have X:sm=false:=by have:=H.out;rw[ha]at this;simpa using this
    subst X;rw[o]at J;have C:=dJ (nh (w:=wr) x (.slice Aa x.args.length ca) vt' (.slice (some ⟨w.heap.size+1,0,none⟩) x.args.length x.args.length) o (.pointer (some ⟨c.Bs,0,none⟩)));unfold dj at C;rw[o,hlen]at C;clear ha hw;go_wp2_with (go_at_call 173;refine C.out.mono ?_;rintro e Y ⟨rfl,F⟩);go_ret;unfold ej;rw[A.out];exact⟨rfl,l.out _ F⟩
   | addr o ha hw him =>
    have hlen:x.args.length=0:=by rw[ha];rfl
    have A:Hid (ze c.f pick x s=(.val ⟨false,x.i+1,0⟩,s)):=by show _=_;simp[ze,o,ha,Ep]
    have X:sm=false:=by have:=H.out;rw[ha]at this;simpa using this
    subst X;have a7:x.i<=1000000:=by have:=hf.val.size;omega
    rw[o]at J;have C:=dJ (pv (w:=wr) x (.slice Aa x.args.length ca) vt' (.slice (some ⟨w.heap.size+1,0,none⟩) x.args.length x.args.length) o (.pointer (some ⟨c.Bs,0,none⟩)) him.1 a7);unfold dj at C;rw[o,hlen]at C;clear ha hw;go_wp2_with (go_at_call 173;refine C.out.mono ?_;rintro e Y ⟨rfl,F⟩);go_ret;unfold ej;rw[A.out];exact⟨rfl,l.out _ F⟩
   | poison o ha hw =>
    have hlen:x.args.length=0:=by rw[ha];rfl
    have A:Hid (ze c.f pick x s=(.val zX,s)):=by show _=_;simp[ze,o,ha]
    have X:sm=false:=by have:=H.out;rw[ha]at this;simpa using this
    subst X;rw[o]at J;clear ha;go_wp2_with (go_at_call 171;refine(du _).mono ?_;rintro e Y ⟨rfl,F⟩);go_ret;unfold ej;rw[A.out];exact⟨rfl,l.out _ F⟩
   | cmp o a d ha kd K hw him =>
    have hlen:x.args.length=2:=by rw[ha];rfl
    cases sm with
    | true =>
     have A:Hid (ze c.f pick x s=(.val zX,s)):=by
      show _=_;have e:=H.out;unfold ze;dsimp only;repeat rw[yt (by omega)]
      rw[yr (.inr e.symm)]
     rw[o]at J;clear ha;go_wp2_with (go_at_call 171;refine(du _).mono ?_;rintro e Y ⟨rfl,F⟩);go_ret;unfold ej;rw[A.out];exact⟨rfl,l.out _ F⟩
    | false =>
     have E:(s.get a).p=false/\(s.get d).p=false:=by have:=H.out;rw[ha]at this;simpa using this.symm
     have A:Hid (ze c.f pick x s=(.val (Jy (Gy x.i (Ref.kind c.f a) (s.get a).n (s.get d).n)),s)):=by show _=_;simp[ze,o,ha,Ep,E]
     have I:=hv a (by simp[ha]) (by have:=K.1;omega);have e2:=hv d (by simp[ha]) (by rw[kd];have:=K.1;omega);rw[kd]at e2;rw[o]at J;have C:=dJ (rP D hf x (.slice Aa x.args.length ca) vt' R (.slice (some ⟨w.heap.size+1,0,none⟩) x.args.length x.args.length) (s.get a) (s.get d) ⟨_,by rw[ha];rfl,by rw[ha]at j;exact j.out⟩ o a d ha K him (I.num K).2 (e2.num K).2);unfold dj at C;rw[o,hlen]at C;clear ha hw;go_wp2_with (go_at_call 173;refine C.out.mono ?_;rintro e Y ⟨rfl,F⟩);go_ret;unfold ej;rw[A.out];exact⟨rfl,l.out _ F⟩
   | ext o a ha K hw hd =>
    have hlen:x.args.length=1:=by rw[ha];rfl
    have I:=hv a (by simp[ha]) (by have:=K.1;omega)
    cases sm with
    | true =>
     have A:Hid (ze c.f pick x s=(.val zX,s)):=by
      show _=_;have e:=H.out;unfold ze;dsimp only;repeat rw[yt (by omega)]
      rw[yr (.inr e.symm)]
     clear ha;rcases o with o|o|o
     all_goals
      rw[o]at J;go_wp2_with (go_at_call 171;refine(du _).mono ?_;rintro e Y ⟨rfl,F⟩);go_ret;unfold ej;rw[A.out];exact⟨rfl,l.out _ F⟩
    | false =>
     have E:(s.get a).p=false:=by have:=H.out;rw[ha]at this;simpa using this.symm
     rcases o with o|o|o
     ·have A:Hid (ze c.f pick x s=(.val (Ae (E0 16 (Ref.kind c.f a) x.w (s.get a).n)),s)):=by show _=_;simp[ze,o,ha,Ep,E]
      rw[o]at J;have C:=dJ (ni D hf x (.slice Aa x.args.length ca) vt' R (.slice (some ⟨w.heap.size+1,0,none⟩) x.args.length x.args.length) (s.get a) ⟨_,by rw[ha];rfl,by rw[ha]at j;exact j.out⟩ o a ha K hw (by rwa [yt (by omega)]at hd) (I.num K).2);unfold dj at C;rw[o,hlen]at C;clear ha hw;go_wp2_with (go_at_call 173;refine C.out.mono ?_;rintro e Y ⟨rfl,F⟩);go_ret;unfold ej;rw[A.out];exact⟨rfl,l.out _ F⟩
     ·have A:Hid (ze c.f pick x s=(.val (Ae (E0 17 (Ref.kind c.f a) x.w (s.get a).n)),s)):=by show _=_;simp[ze,o,ha,Ep,E]
      rw[o]at J;have C:=dJ (nj D hf x (.slice Aa x.args.length ca) vt' R (.slice (some ⟨w.heap.size+1,0,none⟩) x.args.length x.args.length) (s.get a) ⟨_,by rw[ha];rfl,by rw[ha]at j;exact j.out⟩ o a ha K hw (by rwa [yt (by omega)]at hd) (I.num K).2);unfold dj at C;rw[o,hlen]at C;clear ha hw;go_wp2_with (go_at_call 173;refine C.out.mono ?_;rintro e Y ⟨rfl,F⟩);go_ret;unfold ej;rw[A.out];exact⟨rfl,l.out _ F⟩
     ·have A:Hid (ze c.f pick x s=(.val (Ae (E0 18 (Ref.kind c.f a) x.w (s.get a).n)),s)):=by show _=_;simp[ze,o,ha,Ep,E]
      rw[o]at J;have C:=dJ (nk D hf x (.slice Aa x.args.length ca) vt' R (.slice (some ⟨w.heap.size+1,0,none⟩) x.args.length x.args.length) (s.get a) ⟨_,by rw[ha];rfl,by rw[ha]at j;exact j.out⟩ o a ha K hw (by rwa [yr o]at hd) (I.num K).2);unfold dj at C;rw[o,hlen]at C;clear ha hw;go_wp2_with (go_at_call 173;refine C.out.mono ?_;rintro e Y ⟨rfl,F⟩);go_ret;unfold ej;rw[A.out];exact⟨rfl,l.out _ F⟩
   | lanes o a d ha ka kd hw i1 i2 i3 =>
    have hlen:x.args.length=2:=by rw[ha];rfl
    have I:=hv a (by simp[ha]) (by rw[ka];have:=hw.1;omega);have e2:=hv d (by simp[ha]) (by rw[kd];have:=hw.1;omega);rw[ka]at I;rw[kd]at e2
    cases sm with
    | true =>
     have A:Hid (ze c.f pick x s=(.val zX,s)):=by
      show _=_;have e:=H.out;unfold ze;dsimp only;repeat rw[yt (by omega)]
      rw[yr (.inr e.symm)]
     clear ha;rcases o with o|o
     all_goals
      rw[o]at J;go_wp2_with (go_at_call 171;refine(du _).mono ?_;rintro e Y ⟨rfl,F⟩);go_ret;unfold ej;rw[A.out];exact⟨rfl,l.out _ F⟩
    | false =>
     have E:(s.get a).p=false/\(s.get d).p=false:=by have:=H.out;rw[ha]at this;simpa using this.symm
     rcases o with o|o
     ·have A:Hid (ze c.f pick x s=(.val (Ae (CP 19 x.i (x.w / x.i).toNat (s.get a).n (s.get d).n)),s)):=by show _=_;simp[ze,o,ha,Ep,E]
      rw[o]at J;have C:=dJ (kJ D hf x (.slice Aa x.args.length ca) vt' R (.slice (some ⟨w.heap.size+1,0,none⟩) x.args.length x.args.length) (s.get a) (s.get d) ⟨_,by rw[ha];rfl,by rw[ha]at j;exact j.out⟩ o a d ha hw (I.num hw).2 (e2.num hw).2 i1 i2 i3);unfold dj at C;rw[o,hlen]at C;clear ha hw;go_wp2_with (go_at_call 173;refine C.out.mono ?_;rintro e Y ⟨rfl,F⟩);go_ret;unfold ej;rw[A.out];exact⟨rfl,l.out _ F⟩
     ·have A:Hid (ze c.f pick x s=(.val (Ae (CP 20 x.i (x.w / x.i).toNat (s.get a).n (s.get d).n)),s)):=by show _=_;simp[ze,o,ha,Ep,E]
      rw[o]at J;have C:=dJ (kK D hf x (.slice Aa x.args.length ca) vt' R (.slice (some ⟨w.heap.size+1,0,none⟩) x.args.length x.args.length) (s.get a) (s.get d) ⟨_,by rw[ha];rfl,by rw[ha]at j;exact j.out⟩ o a d ha hw (I.num hw).2 (e2.num hw).2 i1 i2 i3);unfold dj at C;rw[o,hlen]at C;clear ha hw;go_wp2_with (go_at_call 173;refine C.out.mono ?_;rintro e Y ⟨rfl,F⟩);go_ret;unfold ej;rw[A.out];exact⟨rfl,l.out _ F⟩
   | gep o a d ha ka kd hw hfl =>
    have hlen:x.args.length=2:=by rw[ha];rfl
    cases sm with
    | true =>
     have A:Hid (ze c.f pick x s=(.val zX,s)):=by
      show _=_;have e:=H.out;unfold ze;dsimp only;repeat rw[yt (by omega)]
      rw[yr (.inr e.symm)]
     rw[o]at J;clear ha;go_wp2_with (go_at_call 171;refine(du _).mono ?_;rintro e Y ⟨rfl,F⟩);go_ret;unfold ej;rw[A.out];exact⟨rfl,l.out _ F⟩
    | false =>
     have E:(s.get a).p=false/\(s.get d).p=false:=by have:=H.out;rw[ha]at this;simpa using this.symm
     have A:Hid (ze c.f pick x s=(.val (GQ c.f.s x.g (Ref.kind c.f d) (s.get a) (s.get d)),s)):=by show _=_;simp[ze,o,ha,Ep,E]
     have I:=hv a (by simp[ha]) (by omega);have e2:=hv d (by simp[ha]) (by have:=kd.1;omega);rw[ka]at I;rw[o]at J;have C:=dJ (rQ D hf x (.slice Aa x.args.length ca) vt' R (.slice (some ⟨w.heap.size+1,0,none⟩) x.args.length x.args.length) (s.get a) (s.get d) ⟨_,by rw[ha];rfl,by rw[ha]at j;exact j.out⟩ o a d ha hfl kd I E.1 (e2.num kd).2);unfold dj at C;rw[o,hlen]at C;clear ha hw;go_wp2_with (go_at_call 173;refine C.out.mono ?_;rintro e Y ⟨rfl,F⟩);go_ret;unfold ej;rw[A.out];exact⟨rfl,l.out _ F⟩
   | phi o=>exact absurd o ho
   | arith o a d ha ka kd hw hfl =>
    have hlen:x.args.length=2:=by rw[ha];rfl
    have I:=hv a (by simp[ha]) (by rw[ka];have:=hw.1;omega);have e2:=hv d (by simp[ha]) (by rw[kd];have:=hw.1;omega);rw[ka]at I;rw[kd]at e2
    have A:Hid (ze c.f pick x s=rH s (DR x.op x.g x.w (s.get a) (s.get d))):=by
     show _=_;unfold ze;dsimp only;repeat rw[yt (by omega)]
     rw[yr o,ha];change (match DR x.op x.g x.w (s.get a) (s.get d) with|none=>(FH.fin Dw,s)|some v=>(FH.val v,s))=_;cases DR x.op x.g x.w (s.get a) (s.get d)<;>rfl
    have CA:=dJ fun B=>pz x (.slice Aa x.args.length ca) vt' (s.get a) (s.get d) B o hw hfl (I.num hw).2 (e2.num hw).2;have HI:Hid (eR x.op x.g x.w (s.get a) (s.get d)=wY (DR x.op x.g x.w (s.get a) (s.get d))):=by show _=_;unfold eR;cases DR x.op x.g x.w (s.get a) (s.get d)<;>rfl
    unfold dj vv at CA;rw[hlen]at CA;rw[ha]at j;have r:Hid (RowV (w.heap.size+1) [s.get a,s.get d] wr):=j;obtain⟨r0,r1,r2⟩:=r.out.cells (k:=0) rfl;obtain⟨r3,r4,r5⟩:=r.out.cells (k:=1) rfl;have on:=dJ o;obtain⟨o1,o2⟩:=o;have br:(x.op == 29)=false:=by simp;omega
    have bs:(x.op == 30)=false:=by simp;omega
    have bu:(x.op == 31)=false:=by simp;omega
    have bv:(x.op == 32)=false:=by simp;omega
    have bp:(x.op == 26)=false:=by simp;omega
    have bq:(x.op == 27)=false:=by simp;omega
    have bn:(x.op == 21)=false:=by simp;omega
    have bo:(x.op == 23)=false:=by simp;omega
    have bm:(x.op == 15)=false:=by simp;omega
    have HQ:Hid (∀B,Gr wr B->(B.cell? ⟨w.heap.size,0,none⟩=some (.int .i64 x.op)/\B.cell? ⟨w.heap.size,1,none⟩=some (.int .i64 x.w)/\B.cell? ⟨w.heap.size,2,none⟩=some (.int .i64 x.g))):=fun B g=>⟨(dl ((U.out.trans g2).trans g)).1,(dl ((U.out.trans g2).trans g)).2.1,(dl ((U.out.trans g2).trans g)).2.2.1⟩;clear ha ka kd;go_wp2
    go_region_with (go_at_call 172;(with_reducible refine(CA.out _).mono ?_);rintro e Y ⟨rfl,F⟩)
    all_goals go_wp2
    all_goals go_ret
    all_goals
     rw[A.out];refine nX _ HI.out (l.out _ (by repeat (first|with_reducible exact yO _|with_reducible exact F|with_reducible exact((yO _).drew).trans F|with_reducible refine Gr.drew ?_|with_reducible refine Gr.drewN ?_ _)))
   | jump o ha t ht' hw =>
    have hlen:x.args.length=0:=by rw[ha];rfl
    have A:Hid (ze c.f pick x s=(.go t,s)):=by show _=_;simp[ze,o,ha,ht']
    have ae:=aM.out;rw[ht']at ae;obtain⟨At,ct,ao,t1,t2,t3⟩:=ae;obtain⟨bt,ot,rfl,-,t4⟩:=t3 (by simp);have c0:wr.cell? ⟨bt,ot,none⟩=some (.int .i64 t):=t4 0 t rfl;rw[ao]at q5;rw[o]at J;clear ha ht' t3 t4;go_wp2;go_ret;unfold ej;rw[A.out];exact⟨rfl,l.out _ (yO _)⟩
   | trap o ha hw =>
    have hlen:x.args.length=0:=by rw[ha];rfl
    have A:Hid (ze c.f pick x s=(.fin Dw,s)):=by show _=_;simp[ze,o,ha]
    rw[o]at J;clear ha;go_wp2_with (go_at_call 167;refine(dD _).mono ?_;rintro e Y ⟨rfl,rfl⟩);go_ret;unfold ej;rw[A.out];exact⟨rfl,l.out _ (yO _)⟩
   | load o a ha ka hw =>
    have hlen:x.args.length=1:=by rw[ha];rfl
    have I:=hv a (by simp[ha]) (by omega);rw[ka]at I
    have A:Hid (ze c.f pick x s=rH s (Em s.mem (s.get a) (x.w / 8).toNat)):=by
     show _=_
     have q:ze c.f pick x s=match Em s.mem (s.get a) (x.w / 8).toNat with|none=>(FH.fin Dw,s)|some v=>(FH.val v,s):=by unfold ze;simp[o,ha];rfl
     rw[q];cases Em s.mem (s.get a) (x.w / 8).toNat<;>rfl
    have N:=H2 hw;have CA:=dJ fun(u:GrW wr)=>rT (D.gr u.gr) hf hi (s.get a) I (x.w / 8).toNat (by omega) (by omega);have HI:Hid (lM s.mem (s.get a) (x.w / 8).toNat=wY (Em s.mem (s.get a) (x.w / 8).toNat)):=by show _=_;unfold lM;cases Em s.mem (s.get a) (x.w / 8).toNat<;>rfl
    have aH:=dJ (fun w' g=>nX (w:=w) (w':=w') _ HI.out (l.out w' g));rw[ha]at j;have r:Hid (RowV (w.heap.size+1) [s.get a] wr):=j;have L:∀u:GrW wr,RowV (w.heap.size+1) [s.get a] u.val:=fun u=>(u.gr.heap _ (cY r.out)).trans r.out;have U0:∀u:GrW wr,u.val.cell? ⟨w.heap.size+1,0,none⟩=some (.bool (s.get a).p):=fun u=>((L u).cells (k:=0) rfl).1;have U1:∀u:GrW wr,u.val.cell? ⟨w.heap.size+1,1,none⟩=some (.int .i64 (s.get a).s):=fun u=>((L u).cells (k:=0) rfl).2.1;have U2:∀u:GrW wr,u.val.cell? ⟨w.heap.size+1,2,none⟩=some (.int .u32 (s.get a).n):=fun u=>((L u).cells (k:=0) rfl).2.2;have U3:∀u:GrW wr,u.val.cell? ⟨w.heap.size,1,none⟩=some (.int .i64 x.w):=fun u=>(dl ((U.out.trans g2).trans u.gr)).2.1;unfold vv at CA;rw[o]at J;have bc:x.w.tdiv 8=((x.w / 8).toNat:Int):=by rw[Int.tdiv_eq_ediv_of_nonneg (by have:=N.2.1.1;omega)];have:=N.2.2.1;omega
    have aV:x.w / 8=((x.w / 8).toNat:Int):=by have:=N.2.2.1;omega
    have w0:0<=x.w:=by have:=N.2.1.1;omega
    have B:x.w<=32:=N.2.1.2;obtain⟨nb,am⟩:=xJ ((x.w / 8).toNat);rw[am]at CA A HI aH bc aV;have bg:nb<=4:=by omega
    clear ha ka hw N am L;go_wp2;refine dc (by kernel_rfl) (by kernel_rfl) ?_;repeat (go_big_quiet_step ((rename_i u;go_at_call 168;exact dk u (CA.out u))))
    refine wpQuiet_nil ?_;intro w9 ac;obtain⟨u9,rfl⟩:=ac;have g9:=u9.gr;clear U0 U1 U2 U3;go_wp2;go_ret;rw[A.out];exact aH.out _ g9
   | select o a d f ha ka kd kf hw =>
    have hlen:x.args.length=3:=by rw[ha];rfl
    have bb:0<x.w:=hw.elim (fun q=>by have:=q.1;omega) (fun q=>by omega);have I:=hv a (by simp[ha]) (by omega);rw[ka]at I
    have A:Hid (ze c.f pick x s=if (s.get a).p=true then (.val zX,s) else (.val ([s.get a,s.get d,s.get f].getD (2-(s.get a).n).toNat Rn.zero),s)):=by show _=_;unfold ze;simp[o,ha]
    obtain⟨n1,n2⟩:=(I.num (by unfold zi;decide)).2;rw[show m9 1=2 from by decide]at n2;rw[ha]at j;have r:Hid (RowV (w.heap.size+1) [s.get a,s.get d,s.get f] wr):=j;obtain⟨r0,r1,r2⟩:=r.out.cells (k:=0) rfl;obtain⟨r3,r4,r5⟩:=r.out.cells (k:=1) rfl;obtain⟨r6,r7,r8⟩:=r.out.cells (k:=2) rfl;obtain⟨q,hq⟩:=xJ (s.get a);obtain⟨qd,aS⟩:=xJ (s.get d);obtain⟨qf,aT⟩:=xJ (s.get f);rw[hq]at r0 r1 r2 A n1 n2;rw[aS]at r3 r4 r5 A;rw[aT]at r6 r7 r8 A;rw[o]at J;clear ha ka kd kf hw I bb hq aS aT;obtain⟨qp,qs,qn⟩:=q;dsimp only at *
    cases qp with
    | true =>
     go_wp2_with (go_at_call 171;refine(du _).mono ?_;rintro e Y ⟨rfl,F⟩);go_ret;unfold ej;rw[A.out];exact⟨rfl,l.out _ F⟩
    | false =>
     rcases (by omega:qn=0\/qn=1) with rfl|rfl
     all_goals
      go_wp2;go_ret;unfold ej;rw[A.out];exact⟨rfl,l.out _ (yO _)⟩
   | branch o a ha ka t u ht' hw =>
    have hlen:x.args.length=1:=by rw[ha];rfl
    have I:=hv a (by simp[ha]) (by omega);rw[ka]at I
    have A:Hid (ze c.f pick x s=if (s.get a).p=true then (.fin Dw,s) else (.go ([t,u].getD (1-(s.get a).n).toNat 0),s)):=by show _=_;unfold ze;simp[o,ha,ht']
    have aa:Hid (sm=(s.get a).p):=by show _=_;have:=H.out;rw[ha]at this;simpa using this
    obtain⟨n1,n2⟩:=(I.num (by unfold zi;decide)).2;rw[show m9 1=2 from by decide]at n2;have ae:=aM.out;rw[ht']at ae;obtain⟨At,ct,ao,t1,t2,t3⟩:=ae;obtain⟨bt,ot,rfl,-,t4⟩:=t3 (by simp);have c0:=t4 0 t rfl;have bi:wr.cell? ⟨bt,ot,none⟩=some (.int .i64 t):=c0;have c1:wr.cell? ⟨bt,ot+1,none⟩=some (.int .i64 u):=t4 1 u rfl;rw[ao,show [t,u].length=2 from rfl]at q5;rw[ha]at j;have r:Hid (RowV (w.heap.size+1) [s.get a] wr):=j;obtain⟨r0,r1,r2⟩:=r.out.cells (k:=0) rfl;obtain⟨q,hq⟩:=xJ (s.get a);rw[hq]at r0 r1 r2 A n1 n2 aa;rw[o]at J;clear ha ka hw I hq ht' t3 t4 ao;obtain⟨qp,qs,qn⟩:=q;dsimp only at *;obtain rfl:sm=qp:=aa.out;clear aa H;have s0:IntKind.u32.wrap (1-0)=1:=by decide
    have s1:IntKind.u32.wrap (1-1)=0:=by decide
    have s2:IntKind.u32.wrap 1=1:=by decide
    have s3:IntKind.u32.wrap 0=0:=by decide
    cases sm with
    | true =>
     go_wp2_with (go_at_call 167;refine(dD _).mono ?_;rintro e Y ⟨rfl,rfl⟩);go_ret;unfold ej;rw[A.out];exact⟨rfl,l.out _ (yO _)⟩
    | false =>
     rcases (by omega:qn=0\/qn=1) with rfl|rfl
     all_goals
      go_wp2;go_quiet ((fail));all_goals go_wp2
      all_goals go_ret
      all_goals
       unfold ej;rw[A.out];exact⟨rfl,l.out _ ((yO _).drewN _)⟩
   | ret0 o ha hr hw =>
    have hlen:x.args.length=0:=by rw[ha];rfl
    have A:Hid (ze c.f pick x s=(.fin ⟨0,Rn.zero,s.mem⟩,s)):=by show _=_;simp[ze,o,ha]
    have c8:wr.cell? ⟨c.Bs,8,none⟩=some (.slice c.Am c.us.length c.cm):=D.cell 8;have a5:=cY D.st;rw[o]at J;clear ha;go_wp2;go_ret;unfold ej;rw[A.out];exact⟨rfl,l.out _ (by repeat (first|with_reducible exact yO _|with_reducible refine Gr.alloc ?_ _|with_reducible refine Gr.setCell ?_ (yJ _) _))⟩
   | ret o a ha ka hr hw =>
    have hlen:x.args.length=1:=by rw[ha];rfl
    have A:Hid (ze c.f pick x s=(.fin ⟨0,s.get a,s.mem⟩,s)):=by show _=_;simp[ze,o,ha]
    have c8:wr.cell? ⟨c.Bs,8,none⟩=some (.slice c.Am c.us.length c.cm):=D.cell 8;have a5:=cY D.st;have bj:=cY j.out;rw[ha]at j;have r:Hid (RowV (w.heap.size+1) [s.get a] wr):=j;obtain⟨r0,r1,r2⟩:=r.out.cells (k:=0) rfl;rw[o]at J;clear ha;go_wp2;go_ret;unfold ej;rw[A.out];exact⟨rfl,l.out _ (by repeat (first|with_reducible exact yO _|with_reducible refine Gr.alloc ?_ _|with_reducible refine Gr.setCell ?_ (yJ _) _))⟩
   | store o a d ha ka kd hw =>
    have hlen:x.args.length=2:=by rw[ha];rfl
    have I:=hv a (by simp[ha]) (by omega);have ad:=(H2 kd).2.1;have e2:=hv d (by simp[ha]) (by have:=ad.1;omega);rw[ka]at I;have hu:=e2.u32 (.inl ad);obtain⟨d0,d1⟩:=EX (f:=c.f) (v:=d) (by have:=ad.1;omega);have CK:=dJ fun(B:World)(g:Gr wr B)=>ff (D.gr g) hf d d0 d1;have N:=H2 kd
    have A:Hid (ze c.f pick x s=match DT s.mem (s.get a) (s.get d) (Ref.kind c.f d / 8).toNat with|none=>(FH.fin Dw,s)|some m=>(FH.on,{s with mem:=m})):=by show _=_;unfold ze;simp[o,ha];rfl
    have CS:=dJ fun(B:World)(g:Gr wr B)=>pD (D.gr g) hf hi (s.get a) (s.get d) I (Ref.kind c.f d / 8).toNat (by omega) (by omega) hu
    have HE:Hid (∀B e w',Gr wr B->kV c B s b frm vt (s.get a) (s.get d) (Ref.kind c.f d / 8).toNat e w'->ej ch O w b frm vt (ze c.f pick x s) e w'):=by
     intro B e w' g M;rw[A.out];unfold kV at M;unfold ej
     cases hq:DT s.mem (s.get a) (s.get d) (Ref.kind c.f d / 8).toNat with
     | none =>
      rw[hq]at M;exact⟨M.1,l.out _ (g.trans M.2)⟩
     | some m =>
      rw[hq]at M;exact⟨M.1,yN HA.out M.2.1 rfl ((FrS.of_gr (G1.out.trans g)).trans M.2.2) (fun k K=>HH.out.mut K)⟩
    have aW:=R;obtain⟨Ax,cx,a9,x1,x2,x3⟩:=aW;injection a9 with hA hm bk;subst hA;rw[ha]at x3;obtain⟨ba,oa,rfl,aO,x4⟩:=x3 (by simp);have a0:wr.cell? ⟨ba,oa+1,none⟩=some (.int .i64 d):=x4 1 d rfl;have aP:ba<wr.heap.size:=by have:=D.n₀;omega
    rw[ha]at j;have r:Hid (RowV (w.heap.size+1) [s.get a,s.get d] wr):=j;have L:∀u:GrW wr,RowV (w.heap.size+1) [s.get a,s.get d] u.val:=fun u=>(u.gr.heap _ (cY r.out)).trans r.out;have U0:∀u:GrW wr,u.val.cell? ⟨w.heap.size+1,0,none⟩=some (.bool (s.get a).p):=fun u=>((L u).cells (k:=0) rfl).1;have U1:∀u:GrW wr,u.val.cell? ⟨w.heap.size+1,1,none⟩=some (.int .i64 (s.get a).s):=fun u=>((L u).cells (k:=0) rfl).2.1;have U2:∀u:GrW wr,u.val.cell? ⟨w.heap.size+1,2,none⟩=some (.int .u32 (s.get a).n):=fun u=>((L u).cells (k:=0) rfl).2.2;have U3:∀u:GrW wr,u.val.cell? ⟨w.heap.size+1,3,none⟩=some (.bool (s.get d).p):=fun u=>((L u).cells (k:=1) rfl).1;have U4:∀u:GrW wr,u.val.cell? ⟨w.heap.size+1,4,none⟩=some (.int .i64 (s.get d).s):=fun u=>((L u).cells (k:=1) rfl).2.1;have U5:∀u:GrW wr,u.val.cell? ⟨w.heap.size+1,5,none⟩=some (.int .u32 (s.get d).n):=fun u=>((L u).cells (k:=1) rfl).2.2;have U6:∀u:GrW wr,u.val.cell? ⟨w.heap.size,3,none⟩=some (.slice (some ⟨ba,oa,none⟩) 2 ca):=fun u=>by have:=(dl ((U.out.trans g2).trans u.gr)).2.2.2.1;rw[hlen]at this;exact this
    have U7:∀u:GrW wr,u.val.cell? ⟨ba,oa+1,none⟩=some (.int .i64 d):=fun u=>(u.gr.cell _ _ aP).trans a0;unfold vv at CS;have k1:=N.2.2.1;have k2:=N.2.2.2;have be:=ad.1;have bf:=ad.2;obtain⟨aE,aQ⟩:=xJ (Ref.kind c.f d);rw[aQ]at CK CS HE k1 k2 be bf;obtain⟨nb,am⟩:∃nb:Nat,(aE / 8).toNat=nb:=⟨_,rfl⟩;rw[am]at CS HE;have a6:aE / 8=(nb:Int):=by omega
    have bl:aE.tdiv 8=(nb:Int):=by rw[Int.tdiv_eq_ediv_of_nonneg (by omega)];exact a6
    rw[o]at J;have bg:nb<=4:=by omega
    clear ha ka kd hw I e2 hu d0 d1 aQ am N ad x3 x4 A R L aO aP;go_wp2;refine dC 14 (by kernel_rfl) (by kernel_rfl) ?_;simp only[yA,List.take_zero,yD,List.drop_zero];repeat (go_big_quiet_step ((rename_i u;go_at_call 170;exact dk u (CK.out u.val u.gr))))
    refine wpQuiet_nil ?_;intro w9 ac;obtain⟨u9,rfl⟩:=ac;have G9:=dJ u9.gr;clear U0 U1 U2 U3 U4 U5 U6 U7;go_wp2_with (go_at_call 169;refine(CS.out _ G9.out).mono ?_;intro e w5 M;obtain⟨rfl,aw⟩:=HE.out _ _ _ G9.out M;clear M;have aL:=dJ aw;clear aw);go_ret;exact⟨rfl,aL.out⟩
   | any o ha hw =>
    have hlen:x.args.length=0:=by rw[ha];rfl
    have A:Hid (ze c.f pick x s=(.val (DD pick s x.w),s.chose x.w)):=by show _=_;simp[ze,o,ha]
    have al:s.z++[x.w] <+: fin:=by have:=ar.out;rw[A.out]at this;exact this
    have ab:∀B:World,Gr wr B->ch.At B s.z O:=fun B g=>ch.keep HA.out (FrS.of_gr (S:=fun _=>False) (G1.out.trans g)) (fun k K=>K.elim);have CC:=dJ (fun(B:World)(g:Gr wr B)=>ch.call x.w (ab B g) hw al)
    have HL:Hid (∀(B w':World)(O':Nat->Prop),Gr wr B->FrS O B w'->ch.At w' (s.z++[x.w]) O'->(∀k,O' k->O k\/B.heap.size<=k)->Left ch w O (s.chose x.w) b frm vt w') :=
     fun B w' O' g hF az hO=>dV (FrS.of_gr (G1.out.trans g)) (fun k K=>.inl K) (Left.chosen (ab B g) (HH.out.gr (G1.out.trans g)) hF az hO)
    have HI:=ch.inv;have HJ:=ch.ent;have aj:c.ch=.iface ch.ty ch.ptr:=ch.ech;have U4:∀u:GrW wr,u.val.cell? ⟨c.Bs,4,none⟩=some (.iface ch.ty ch.ptr):=fun u=>by have:u.val.cell? ⟨c.Bs,4,none⟩=some c.ch:=(D.gr u.gr).cell 4;rw[this,aj]
    have U1:∀u:GrW wr,u.val.cell? ⟨w.heap.size,1,none⟩=some (.int .i64 x.w):=fun u=>(dl ((U.out.trans g2).trans u.gr)).2.1;obtain⟨T,hT⟩:=xJ ch.ty;obtain⟨p,hp⟩:=xJ ch.ptr;obtain⟨G,hG⟩:=xJ ch.fnum;obtain⟨Z,hZ⟩:=xJ (pick s.z.length x.w);rw[hT,hp,hG]at HI;rw[hp,hG]at HJ;rw[hT,hp]at U4;rw[hp,hG,hZ]at CC;have HZ:Hid (DD pick s x.w=Ae Z):=by show _=_;unfold DD;rw[hZ]
    rw[o]at J;clear ha hw al ab aj hT hp hG hZ;go_wp2;refine dC 6 (by kernel_rfl) (by kernel_rfl) ?_;simp only[yA,List.take_zero,yD,List.drop_zero];repeat (go_big_quiet_step (fail))
    refine wpQuiet_nil ?_;intro w9 ac;obtain⟨u9,rfl⟩:=ac;have G9:=dJ u9.gr;clear U4 U1;go_wp2_with (go_at_fn G;(with_reducible refine(CC.out _ G9.out).mono ?_);rintro e w5 ⟨rfl,ag,O5,af,ah⟩;have ay:=dJ (HL.out _ _ _ G9.out ag af ah);clear ag af ah);go_ret;unfold ej;rw[A.out];exact⟨by show _=Ending.returned (vI (DD pick s x.w));rw[HZ.out];rfl,ay.out⟩
   | freeze o a ha ka hw =>
    have hlen:x.args.length=1:=by rw[ha];rfl
    have aa:Hid (sm=(s.get a).p):=by show _=_;have:=H.out;rw[ha]at this;simpa using this
    cases sm with
    | true =>
     have E:(s.get a).p=true:=aa.out.symm;have A:Hid (ze c.f pick x s=(.val (DD pick s x.w),s.chose x.w)):=by show _=_;simp[ze,o,ha,E]
     have al:s.z++[x.w] <+: fin:=by have:=ar.out;rw[A.out]at this;exact this
     have ab:∀B:World,Gr wr B->ch.At B s.z O:=fun B g=>ch.keep HA.out (FrS.of_gr (S:=fun _=>False) (G1.out.trans g)) (fun k K=>K.elim);have CC:=dJ (fun(B:World)(g:Gr wr B)=>ch.call x.w (ab B g) hw al)
     have HL:Hid (∀(B w':World)(O':Nat->Prop),Gr wr B->FrS O B w'->ch.At w' (s.z++[x.w]) O'->(∀k,O' k->O k\/B.heap.size<=k)->Left ch w O (s.chose x.w) b frm vt w') :=
      fun B w' O' g hF az hO=>dV (FrS.of_gr (G1.out.trans g)) (fun k K=>.inl K) (Left.chosen (ab B g) (HH.out.gr (G1.out.trans g)) hF az hO)
     have HI:=ch.inv;have HJ:=ch.ent;have aj:c.ch=.iface ch.ty ch.ptr:=ch.ech;have U4:∀u:GrW wr,u.val.cell? ⟨c.Bs,4,none⟩=some (.iface ch.ty ch.ptr):=fun u=>by have:u.val.cell? ⟨c.Bs,4,none⟩=some c.ch:=(D.gr u.gr).cell 4;rw[this,aj]
     have U1:∀u:GrW wr,u.val.cell? ⟨w.heap.size,1,none⟩=some (.int .i64 x.w):=fun u=>(dl ((U.out.trans g2).trans u.gr)).2.1;obtain⟨T,hT⟩:=xJ ch.ty;obtain⟨p,hp⟩:=xJ ch.ptr;obtain⟨G,hG⟩:=xJ ch.fnum;obtain⟨Z,hZ⟩:=xJ (pick s.z.length x.w);rw[hT,hp,hG]at HI;rw[hp,hG]at HJ;rw[hT,hp]at U4;rw[hp,hG,hZ]at CC;have HZ:Hid (DD pick s x.w=Ae Z):=by show _=_;unfold DD;rw[hZ]
     rw[o]at J;clear ha hw E ka al ab aj hT hp hG hZ;go_wp2;refine dC 6 (by kernel_rfl) (by kernel_rfl) ?_;simp only[yA,List.take_zero,yD,List.drop_zero];repeat (go_big_quiet_step (fail))
     refine wpQuiet_nil ?_;intro w9 ac;obtain⟨u9,rfl⟩:=ac;have G9:=dJ u9.gr;clear U4 U1;go_wp2_with (go_at_fn G;(with_reducible refine(CC.out _ G9.out).mono ?_);rintro e w5 ⟨rfl,ag,O5,af,ah⟩;have ay:=dJ (HL.out _ _ _ G9.out ag af ah);clear ag af ah);go_ret;unfold ej;rw[A.out];exact⟨by show _=Ending.returned (vI (DD pick s x.w));rw[HZ.out];rfl,ay.out⟩
    | false =>
     have E:(s.get a).p=false:=aa.out.symm;have A:Hid (ze c.f pick x s=(.val (s.get a),s)):=by show _=_;simp[ze,o,ha,E]
     rw[ha]at j;have r:Hid (RowV (w.heap.size+1) [s.get a] wr):=j;obtain⟨r0,r1,r2⟩:=r.out.cells (k:=0) rfl;rw[o]at J;clear ha hw E ka aa;go_wp2;go_ret;unfold ej;rw[A.out];exact⟨rfl,l.out _ (yO _)⟩

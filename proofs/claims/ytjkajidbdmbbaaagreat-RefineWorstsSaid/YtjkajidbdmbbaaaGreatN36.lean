import Derived.Test.YtjkajidbdmbbaaaGreatN35
import Derived.Deep.LoopGhost
set_option linter.unusedSimpArgs false
set_option linter.unusedVariables false
set_option maxRecDepth 100000
set_option maxHeartbeats 16000000
open Go.Proofs.Tryz
namespace Go.Proofs.YtjkajidbdmbbaaaGreat
open Ref Rn Wd Ir Rf
variable {a:Act}{K:Act->World->Prop}{ops:Array Oper}{c:Cfg}{Q:Exit->Act->World->Prop}{f:Fn}{frm:Int}{l:List Ins}{fin:List Int}{xs:List Value}{B b bytes k:Nat}{O:Nat->Prop}{o:Oper}{P:Program}{e e':TypeId}{v y z:Value}{w:World}
section
open Go.RowKit
theorem fg {F:Prop}{n:Nat}{t:TypeId}{i:TypeInfo}
  (ht:P.underlying t=some (.slice e)) (hi:P.info? e=some i) (hz:i.zero=some z) (hsize:i.size=1) (hby:i.bytes=bytes) (hzs:z.cells.size=1) (hbb:bytes<=128)
  (hgd:o.guard=none) (s x:Operand) (ho:o.op=.call {callee:=.builtin .append,args:=#[s,x],argTypes:=#[t,t]})
    (hn:xs.length=n) (hs:a.eval s=v) (hown:Own1 B e w v xs)   (hy:y.oneCell'=true) (hx:a.eval x=.slice (some ⟨w.heap.size,0,none⟩) 1 1) (hlt:n<1099511627776) (hB:B<=w.heap.size)
  (h:∀A c w',Own1 B e w' (.slice A (n+1) c) (xs++[y])->(w.alloc (.cells #[y] e')).grownBy w' v.ownBlock->(∀k,(Value.slice A (n+1) c).ownBlock=some k->v.ownBlock=some k\/w.heap.size<=k)->K (a.put o.dst (.slice A (n+1) c)) w') :
  if Region.wanted o (yielded ops a.tmps)=true then Oper.wp P o a (w.alloc (.cells #[y] e')) K Q else F:=by
 have r:Region.wanted o (yielded ops a.tmps)=true:=by simp[Region.wanted,hgd]
 rw[yr r];subst hn;refine eN s x t ho B e i z 1 bytes ht hi hz hsize hby hzs (by omega) v xs.length xs hs (ec hown ((yO _).alloc _)) _ 1 [y] hx (yP _ _ _) ?_ ?_ ?_ ?_ ?_
 ·intro u m;simp at m;subst m;exact hy
 ·simp only[maxLen];omega
 ·have:(xs.length+1)*bytes<=(xs.length+1)*128:=Nat.mul_le_mul_left _ hbb;omega
 ·simp;omega
 ·intro D w' g p l;have d:Own1 B e w' D (xs++[y]):=by unfold Own1;rw[yK];exact g
  obtain⟨A,c,hv⟩:=d.form;rw[yK]at hv;subst hv;refine h A c w' d p fun k j=>?_;rcases l with q|q
  ·exact .inl (q ▸ j)
  ·have C:(Value.slice A (xs.length+1) c).ownBlock=some (w.alloc (.cells #[y] e')).heap.size:=q;rw[C]at j;injection j with j;right;rw[<-j];simp
section
variable {c:Cfg}{W w2:World}{s:AN}{b frm:Int}{vq v':Value}{pick:Dk}{fin:List Int}{ch:eP c pick fin}{O':Nat->Prop}{B:Nat}{xs:List Value}{tmp:Obj}
theorem PS.kept_lt (h:PS c W s b frm vq)(hBm:c.Bm<W.heap.size)(hk:yT c k):k<W.heap.size:=by
 rcases hk with hk|rfl|rfl
 ·exact h.mut_lt hk
 ·obtain⟨-,-,d,q,-⟩:=h.first;exact cY q
 ·exact hBm
theorem PS.pushT (h:PS c W s b frm vq)(hBm:c.Bm<W.heap.size)(hA:ch.At W s.z O')(ho:Own1 B 3 W vq xs)(hn:∀k,vq.ownBlock=some k->¬O' k/\¬yT c k/\c.n₀<=k)
  (hg:(W.alloc tmp).grownBy w2 vq.ownBlock)  (ho2:Own1 B 3 w2 v' (xs++[y])) (hat:∀k,v'.ownBlock=some k->vq.ownBlock=some k\/W.heap.size<=k) :
  w2.heap[c.Bs]?=some (.cells (pP c s.v.length b frm s.t vq) 145 (0,0))/\PS c (w2.setCell ⟨c.Bs,12,none⟩ v') s b frm v'/\ch.At (w2.setCell ⟨c.Bs,12,none⟩ v') s.z O'/\Own1 B 3 (w2.setCell ⟨c.Bs,12,none⟩ v') v' (xs++[y]) /\
   FrS (fun k=>k=c.Bs\/vq.ownBlock=some k) W (w2.setCell ⟨c.Bs,12,none⟩ v')/\∀k,v'.ownBlock=some k->¬O' k/\¬yT c k/\c.n₀<=k:=by
 have g:FrS (fun k=>vq.ownBlock=some k) W w2:=((FrS.refl _ W).alloc tmp).grown hg (fun k d=>.inl d);have l:=h.away (fun k d=>⟨(hn k d).2.2,(hn k d).2.1⟩) g;have r:=ch.keep hA g (fun k d=>⟨(hn k d).2.2,(hn k d).1⟩);have j:FrS (·=c.Bs) w2 (w2.setCell ⟨c.Bs,12,none⟩ v'):=(FrS.refl (·=c.Bs) w2).setCell (p:=⟨c.Bs,12,none⟩) rfl _
 have m:∀k,v'.ownBlock=some k->¬O' k/\¬yT c k/\c.n₀<=k:=fun k d=>by
  rcases hat k d with q|q
  ·exact hn k q
  ·exact⟨fun o=>by have:=(ch.apart hA k o).2.1;omega,fun o=>by have:=h.kept_lt hBm o;omega,by have:=h.n₀;omega⟩
 refine⟨l.st,l.stSet (s':=s) rfl rfl rfl j (cX (i:=12) v' l.st),ch.keep r j (fun k d=>⟨by rw[d];exact h.old.1,fun o=>by have:=(ch.apart hA k o).2.2;exact this (.inl (.inl d))⟩),?_,?_,m⟩
 ·exact dm ho2 fun k d=>yy _ _ _ _ (fun e=>(m k d).2.1 (.inl (.inl e)))
 ·exact(g.mono fun k d=>.inr d).trans (j.mono fun k d=>.inl d)
end
theorem FrS.weaken {S S':Nat->Prop}{w':World}(h:FrS S w w')(hs:∀k,k<w.heap.size->S k->S' k):FrS S' w w':=⟨h.os,h.tape,h.output,h.size,fun k d g=>h.block k d fun q=>g (hs k d q)⟩
theorem ug {B':Nat}(h:Own1 B e w v xs)(hB:B'<=B):Own1 B' e w v xs:=by
 obtain⟨l,j⟩:=h;refine⟨l,?_⟩;rcases j with j|⟨k,d,g,hv,m,r⟩
 ·exact .inl j
 ·exact .inr ⟨k,d,g,hv,by omega,r⟩
theorem lC {pick:Dk}{s s':AN}{o:zO}(h:Rn.block f pick b frm s=(.over o,s')):C5 f pick (k+1) b frm s=(o,s',[(b:Int)]):=by rw[C5,h]
theorem nO {pick:Dk}{t:Nat}{s s':AN}(h:Rn.block f pick b frm s=(.run (t:Int),s')):C5 f pick (k+1) b frm s=((C5 f pick k t b s').1,(C5 f pick k t b s').2.1,(b:Int)::(C5 f pick k t b s').2.2):=by rw[C5,h];rfl
def Gs (c:Cfg)(O:Nat->Prop)(n k:Nat):Prop:=Mut c k\/O k\/n<=k
def xf {c:Cfg}{pick:Dk}{fin:List Int}(ch:eP c pick fin)(O:Nat->Prop)(w:World)(B:Nat)(r:zO × AN × List Int)(e:Ending)(w':World):Prop :=
 e=.returned (.agg (jX c r.1))/\∃(b frm:Int)(vq:Value)(O':Nat->Prop),PS c w' r.2.1 b frm vq/\ch.At w' r.2.1.z O'/\Own1 B 3 w' vq (r.2.2.map (Value.int .i64))/\FrS (fun k=>Mut c k\/O k) w w'/\∀k,O' k->O k\/w.heap.size<=k
def ip (T:List Int)(r:zO × AN × List Int):zO × AN × List Int:=(r.1,r.2.1,T++r.2.2)
theorem lZ {s:AN}(h:PS c w s (b:Int) frm (.slice none 0 0))(hBm:c.Bm<w.heap.size)(hf:VFn c.f)(hRA:Gv)(hl:c.f.b[b]?=some l)(he:JO c.f b frm l s)
  {pick:Dk}  (hpk:Jp pick) (ch:eP c pick fin)  (hA:ch.At w s.z O) (hst:s.t<=400) (hfin:(C5 c.f pick 401 b frm s).2.1.z <+: fin) :
  Calls prog 80 #[.pointer (some ⟨c.Bs,0,none⟩)] w (xf ch O w w.heap.size (C5 c.f pick 401 b frm s)):=by
 obtain⟨i0,hi,aY,aZ,a0⟩:=info_parts dK;obtain⟨R,hR⟩:=xJ (C5 c.f pick 401 b frm s);obtain⟨W,hW⟩:=xJ (w.alloc (.cells #[.int .i64 0,.bool false,.int .i64 0,.int .u32 0,.slice none 0 0] 27));have g0:Gr w W:=by rw[<-hW];exact(yO w).alloc _
 have a7:W.heap.size=w.heap.size+1:=by rw[<-hW];simp
 have al:W.heap[w.heap.size]?=some (.cells #[.int .i64 0,.bool false,.int .i64 0,.int .u32 0,.slice none 0 0] 27 (0,0)):=by rw[<-hW];exact heap_alloc_new _ _
 have aw:Hid (R.2.1.z <+: fin):=by show _ <+: _;rw[<-hR];exact hfin
 have HP:=dJ (h.gr g0);have HA:Hid (ch.At W s.z O):=ch.keep hA (FrS.of_gr (S:=fun _=>False) g0) (fun k d=>d.elim);have aG:=dJ hA;have HH:=dJ h;have ay:=dJ al;have aM:Hid (ip [] (C5 c.f pick 401 b frm s)=R):=by show _=_;rw[<-hR];rfl
 have HF:=dJ hf;have HE:=dJ he;have HL:=dJ hl;have HB:=dJ hBm;have aI:=dJ g0;have HN:Hid (c.n₀<=w.heap.size):=h.n₀;rw[hR];clear h hA he hl hfin hf hBm al hR g0
 go_enter func80, ntmps80
 go_wp2
 go_loopg [] 401 (fun kx wr=>∃(j:Nat)(I:Int)(L:AN)(vq:Value)(T:List Int)(lq:List Ins)(U:Nat->Prop),Hid (PS c wr L (j:Int) I vq)/\Hid (ch.At wr L.z U)/\Hid (FrS (Gs c O W.heap.size) W wr/\∀k,U k->O k\/W.heap.size<=k) /\
   Hid (Own1 W.heap.size 3 wr vq (T.map (Value.int .i64)))/\Hid (∀k,vq.ownBlock=some k->¬U k/\¬yT c k/\c.n₀<=k)/\Hid (c.f.b[j]?=some lq)/\Hid (JO c.f j I lq L)/\L.t<=400/\401<=L.t+kx/\T.length+kx<=401 /\
   Hid (ip T (C5 c.f pick kx j I L)=R))
 case atStart=>exact⟨b,frm,s,.slice none 0 0,[],l,O,HP,HA,⟨FrS.refl _ _,fun k d=>.inl d⟩,Own1.nil _ _ _,(fun k d=>by cases d),HL,HE,hst,by omega,by simp,aM⟩
 case round =>
  obtain⟨j,I,L,vq,T,lq,U,hp,ha,N,aa,aV,ag,aj,am,a1,hT,H⟩:=hrel;obtain⟨k,rfl⟩:∃k,gk=k+1:=⟨gk-1,by omega⟩;obtain⟨Av,cv,hv⟩:=aa.out.form;rw[yl]at hv;subst hv;have aO:wr.cell? ⟨c.Bs,12,none⟩=some (.slice Av T.length cv):=hp.out.cell 12;have c9:wr.cell? ⟨c.Bs,9,none⟩=some (.int .i64 (j:Int)):=hp.out.cell 9;have aP:wr.frozen? ⟨c.Bs,12,none⟩=false:=yp _ _ 12 _ _ hp.out.st;have aF:=hp.out.gr ((yO wr).drew);have aN:∀o,(wr.alloc o).cell? ⟨c.Bs,12,none⟩=some (.slice Av T.length cv):=fun o=>(hp.out.gr ((yO _).alloc o)).cell 12;have mixed:(prog).follows .mixedOrders=true:=by kernel_rfl
  have aQ:Hid (ch.At wr.drew L.z U):=ch.keep ha.out (FrS.of_gr (S:=fun _=>False) ((yO wr).drew)) (fun k d=>d.elim);have aL:=dJ aF;have ax:Hid (Own1 W.heap.size 3 wr.drew (.slice Av T.length cv) (T.map (Value.int .i64))):=aa.out.gr ((yO wr).drew);have a6:W.heap.size<=wr.heap.size:=N.out.1.size;have aH:Hid (c.Bm<wr.drew.heap.size):=by show _<wr.heap.size;have:=HB.out;omega
  have a4:T.length<1000:=by omega
  clear aF;go_wp2
  go_region_law_o ((refine fg (n:=T.length) (v:=.slice Av T.length cv) underlying33 hi aY aZ a0 rfl (by omega) rfl (.tmp 9) (.tmp 14) rfl (yl _) rfl ax.out rfl rfl (by omega) (by show _<=wr.heap.size;omega) ?_;intro A2 c2 w2 aE aC ai;have ac:=dJ (aL.out.pushT aH.out aQ.out ax.out aV.out aC aE ai);have aX:w2.cell? ⟨c.Bs,12,none⟩=some (.slice Av T.length cv):=(yo _ _ 12 _ _ _ ac.out.1);have y0:w2.frozen? ⟨c.Bs,12,none⟩=false:=(yp _ _ 12 _ _ ac.out.1);clear aE aC ai))
  all_goals
   obtain⟨C,ap⟩:=xJ (w2.setCell ⟨c.Bs,12,none⟩ (.slice A2 (T.length+1) c2));have HQ:=ac.out;rw[ap]at HQ;rw[ap];obtain⟨-,J,af,B,ar,F⟩:=HQ;clear ap ac aX y0 aN aO c9 aP;have au:∀k,(Value.slice A2 (T.length+1) c2).ownBlock=some k->W.heap.size<=k:=fun k d=>(di B d).1;have D:FrS (Gs c O W.heap.size) W C:=(N.out.1.trans (FrS.of_gr (yO wr).drew)).trans (ar.mono fun k d=>d.elim (fun e=>.inl (.inl e)) (fun e=>.inr (.inr (di aa.out e).1)));have ad:∀k,U k->Gs c O W.heap.size k:=fun k d=>(N.out.2 k d).elim (fun q=>.inr (.inl q)) (fun q=>.inr (.inr q));have ae:∀k,O k->k<w.heap.size:=fun k d=>(ch.apart aG.out k d).2.1;have Y:∀k,yT c k->k<w.heap.size:=fun k d=>HH.out.kept_lt HB.out d
   have K:C.heap[w.heap.size]?=some (.cells #[.int .i64 0,.bool false,.int .i64 0,.int .u32 0,.slice none 0 0] 27 (0,0)):=by
    refine(D.block _ (by omega) ?_).trans ay.out;rintro (q|q|q)
    ·have:=Y _ (.inl q);omega
    ·have:=ae _ q;omega
    ·omega
   obtain⟨be,bf,bd,e,-,-,aS⟩:=J.fn;injection e with e;injection e with e;injection e with _ e;injection e with _ e;injection e with _ e;injection e with e2 _;have a9:j<c.f.b.length:=(xS.1 ag.out).1;obtain⟨Ab,cb,rfl,b1,b2,b3⟩:=aS;obtain⟨bb,ob,rfl,a8,b4⟩:=b3 (by omega);obtain⟨u,hu,M⟩:=b4 j lq ag.out;have aq:=M;obtain⟨Al,cl,rfl,-,-,-⟩:=aq;have c3:C.cell? ⟨c.Bs,3,none⟩=some (.slice (some ⟨bb,ob,none⟩) c.f.b.length cb):=by have:C.cell? ⟨c.Bs,3,none⟩=some c.vb:=J.cell 3;rw[this,e2]
   have a3:C.cell? ⟨c.Bs,9,none⟩=some (.int .i64 (j:Int)):=J.cell 9
   have ab:(Rn.block c.f pick j I L).2.z <+: fin:=by
    refine List.IsPrefix.trans ?_ aw.out;rw[<-H.out];show _ <+: (C5 c.f pick (k+1) j I L).2.1.z;rw[C5]
    cases hq:Rn.block c.f pick j I L with
    | mk r s2=>cases r with
     | over o=>exact List.prefix_refl _
     | run t=>exact Jl c.f pick k t.toNat j s2
   have CT:Hid (∀w4,Gr C w4->Calls prog 118 #[.pointer (some ⟨c.Bs,0,none⟩),.slice Al lq.length cl] w4 (oD ch U w4 (j:Int) I (.slice A2 (T.length+1) c2) (Rn.block c.f pick j I L))):=fun w4 g =>
    ma (J.gr g) HF.out ag.out (M.below (Below.mono g J.n₀)) aj.out hpk ch (ch.keep af (FrS.of_gr (S:=fun _=>False) g) (fun k d=>d.elim)) ab am
   have Z:=Kq hRA HF.out.val HF.out.im hpk aj.out ag.out;have G:=Ja c.f pick j I L am;have aA:∀k,U k->k<C.heap.size:=fun k d=>(ch.apart af k d).2.1;have a2:=D.size
   cases hq:Rn.block c.f pick j I L with
   | mk r s2 =>
    rw[hq]at CT Z G
    cases r with
    | over o =>
     have an:Hid (R=(o,s2,T++[(j:Int)])):=by (show _=_);rw[<-H.out,lC hq];rfl
     obtain⟨A,n,cp,hM⟩:∃A n cp,(if o.kind=0 then c.mv else Value.slice none 0 0)=.slice A n cp:=by
      split
      ·exact⟨_,_,_,rfl⟩
      ·exact⟨_,_,_,rfl⟩
     have HM:=dJ hM;have ak:jX c o=#[.int .i64 o.kind,.bool o.ret.p,.int .i64 o.ret.s,.int .u32 o.ret.n,.slice A n cp]:=by unfold jX;rw[hM]
     have ah:=dJ ak
     have Q:Hid (∀y,Left ch C.drew U s2 (j:Int) I (.slice A2 (T.length+1) c2) y->(y.heap[w.heap.size]?=some (.cells #[.int .i64 0,.bool false,.int .i64 0,.int .u32 0,.slice none 0 0] 27 (0,0))) /\
         ∀w6,FrS (·=w.heap.size) y w6->xf ch O w w.heap.size R (.returned (.agg (jX c o))) w6):=fun y z=>by
      have aD:¬U w.heap.size:=fun q=>by
       rcases N.out.2 _ q with q|q
       ·have:=ae _ q;omega
       ·omega
      have aT:¬Mut c w.heap.size:=fun q=>by have:=Y _ (.inl q);omega
      refine⟨(z.block (by show _<C.heap.size;omega) aT aD).trans K,fun w6 f6=>?_⟩;obtain⟨X,p5,a5,f5,o5⟩:=z;have aU:¬X w.heap.size:=fun q=>(o5 _ q).elim aD (fun q=>by have:C.heap.size<=w.heap.size:=q;omega);have ao:FrS (Gs c O W.heap.size) W y:=(D.trans (FrS.of_gr (yO C).drew)).trans (f5.mono fun k d=>d.elim .inl (ad k));rw[an.out];refine⟨rfl,_,_,_,X,p5.away (fun k d=>?_) f6,ch.keep a5 f6 (fun k d=>?_),?_,?_,?_⟩
      ·subst d;exact⟨HN.out,fun q=>by have:=Y _ q;omega⟩
      ·subst d;exact⟨HN.out,aU⟩
      ·rw[List.map_append];refine ug (dm (w:=y) (dm (w:=C) B fun k d=>?_) fun k d=>?_) (by omega:w.heap.size<=W.heap.size)
       ·exact f5.block k (di B d).2.1 (fun q=>q.elim (fun q=>(F k d).2.1 (.inl q)) (fun q=>(F k d).1 q))
       ·exact f6.block k (by have:=(di B d).2.1;have:C.heap.size<=y.heap.size:=f5.size;omega) (fun q=>by have:=au k d;omega)
      ·refine(((FrS.of_gr aI.out).trans (ao.mono (S':=fun k=>Gs c O W.heap.size k\/k=w.heap.size) fun k d=>.inl d)).trans (f6.mono fun k d=>.inr d)).weaken fun k d hs=>?_;rcases hs with (q|q|q)|q
       ·exact .inl q
       ·exact .inr q
       ·omega
       ·omega
      ·intro k d;rcases o5 k d with q|q
       ·rcases N.out.2 k q with q|q
        ·exact .inl q
        ·exact .inr (by omega)
       ·exact .inr (by have:C.heap.size<=k:=q;omega)
     clear Z G ab M J af B ar F au D ad ae Y K b3 b4 hq H hM aA e2 ak;go_wp2
     go_region_with ((go_at_call 118;refine(CT.out _ ((yO _).drew)).mono ?_;rintro e y ⟨z,k5,T5,rfl,av⟩;rw[ah.out]at av;have E:=dJ (Q.out y z);have D5:=dJ av;clear z av))
     all_goals
      obtain⟨d0,d1,d2,d3,d4⟩:=crw5 D5.out 0 1 2 3 4;obtain⟨r0,r1,r2,r3,r4⟩:=crw5 E.out.1 0 1 2 3 4;obtain⟨z0,z1,z2,z3,z4⟩:=frw5 E.out.1 0 1 2 3 4;go_wp2;have az:=(((((FrS.refl (·=w.heap.size) y).setCell (p:=⟨w.heap.size,0,none⟩) rfl (.int .i64 o.kind)).setCell (p:=⟨w.heap.size,1,none⟩) rfl (.bool o.ret.p)).setCell (p:=⟨w.heap.size,2,none⟩) rfl (.int .i64 o.ret.s)).setCell (p:=⟨w.heap.size,3,none⟩) rfl (.int .u32 o.ret.n)).setCell (p:=⟨w.heap.size,4,none⟩) rfl (.slice A n cp);have h9:=cX (i:=4) (.slice A n cp) (cX (i:=3) (.int .u32 o.ret.n) (cX (i:=2) (.int .i64 o.ret.s) (cX (i:=1) (.bool o.ret.p) (cX (i:=0) (.int .i64 o.kind) E.out.1))));obtain⟨W9,aB⟩:=xJ (((((y.setCell ⟨w.heap.size,0,none⟩ (.int .i64 o.kind)).setCell ⟨w.heap.size,1,none⟩ (.bool o.ret.p)).setCell ⟨w.heap.size,2,none⟩ (.int .i64 o.ret.s)).setCell ⟨w.heap.size,3,none⟩ (.int .u32 o.ret.n)).setCell ⟨w.heap.size,4,none⟩ (.slice A n cp));rw[aB]at az h9;rw[aB];have q0:W9.cell? ⟨w.heap.size,0,none⟩=some (.int .i64 o.kind):=yo _ _ 0 _ _ _ h9;have q1:W9.cell? ⟨w.heap.size,1,none⟩=some (.bool o.ret.p):=yo _ _ 1 _ _ _ h9;have q2:W9.cell? ⟨w.heap.size,2,none⟩=some (.int .i64 o.ret.s):=yo _ _ 2 _ _ _ h9;have q3:W9.cell? ⟨w.heap.size,3,none⟩=some (.int .u32 o.ret.n):=yo _ _ 3 _ _ _ h9;have q4:W9.cell? ⟨w.heap.size,4,none⟩=some (.slice A n cp):=yo _ _ 4 _ _ _ h9;refine yq (v:=.agg #[.int .i64 o.kind,.bool o.ret.p,.int .i64 o.ret.s,.int .u32 o.ret.n,.slice A n cp]) (by simp[results,results80,go_sem,q0,q1,q2,q3,q4]) rfl ?_;rw[<-ah.out];exact E.out.2 _ az
    | run t =>
     obtain⟨m,m1,m2,m3⟩:=Z;obtain⟨tn,rfl⟩:=xZ m1;rw[ya]at m2 m3;have aJ:=dJ m2;have aK:=dJ m3
     have an:Hid (ip (T++[(j:Int)]) (C5 c.f pick k tn j s2)=R):=by show _=_;rw[<-H.out,nO hq];simp[ip]
     have aW:s2.t<=400:=G.1;have ba:L.t+1<=s2.t:=G.2.2 _ rfl
     have Q:Hid (∀y,Left ch C.drew U s2 (j:Int) I (.slice A2 (T.length+1) c2) y->PS c y s2 (j:Int) I (.slice A2 (T.length+1) c2) /\
         ∃X:Nat->Prop,PS c ((y.setCell ⟨c.Bs,10,none⟩ (.int .i64 (j:Int))).setCell ⟨c.Bs,9,none⟩ (.int .i64 (tn:Int))) s2 (tn:Int) (j:Int) (.slice A2 (T.length+1) c2) /\
         ch.At ((y.setCell ⟨c.Bs,10,none⟩ (.int .i64 (j:Int))).setCell ⟨c.Bs,9,none⟩ (.int .i64 (tn:Int))) s2.z X/\(FrS (Gs c O W.heap.size) W ((y.setCell ⟨c.Bs,10,none⟩ (.int .i64 (j:Int))).setCell ⟨c.Bs,9,none⟩ (.int .i64 (tn:Int)))/\∀k,X k->O k\/W.heap.size<=k) /\
         Own1 W.heap.size 3 ((y.setCell ⟨c.Bs,10,none⟩ (.int .i64 (j:Int))).setCell ⟨c.Bs,9,none⟩ (.int .i64 (tn:Int))) (.slice A2 (T.length+1) c2) ((T++[(j:Int)]).map (Value.int .i64))/\∀k,(Value.slice A2 (T.length+1) c2).ownBlock=some k->¬X k/\¬yT c k/\c.n₀<=k):=fun y z=>by
      obtain⟨X,p5,a5,f5,o5⟩:=z;have ao:FrS (Gs c O W.heap.size) W y:=(D.trans (FrS.of_gr (yO C).drew)).trans (f5.mono fun k d=>d.elim .inl (ad k));have f6:FrS (·=c.Bs) y ((y.setCell ⟨c.Bs,10,none⟩ (.int .i64 (j:Int))).setCell ⟨c.Bs,9,none⟩ (.int .i64 (tn:Int))):=(((FrS.refl (·=c.Bs) y).setCell (p:=⟨c.Bs,10,none⟩) rfl _).setCell (p:=⟨c.Bs,9,none⟩) rfl _);have aR:¬X c.Bs:=fun q=>(ch.apart a5 _ q).2.2 (.inl (.inl rfl));refine⟨p5,X,p5.stSet (s':=s2) rfl rfl rfl f6 (cX (i:=9) _ (cX (i:=10) _ p5.st)),ch.keep a5 f6 (fun k d=>by subst d;exact⟨p5.old.1,aR⟩),⟨ao.trans (f6.mono fun k d=>.inl (.inl d)),fun k d=>?_⟩,?_,fun k d=>⟨fun q=>?_,(F k d).2⟩⟩
      ·rcases o5 k d with q|q
       ·exact N.out.2 k q
       ·exact .inr (by have:C.heap.size<=k:=q;omega)
      ·rw[List.map_append];refine dm (w:=y) (dm (w:=C) B fun k d=>?_) fun k d=>?_
       ·exact f5.block k (di B d).2.1 (fun q=>q.elim (fun q=>(F k d).2.1 (.inl q)) (fun q=>(F k d).1 q))
       ·exact f6.block k (by have:=(di B d).2.1;have:C.heap.size<=y.heap.size:=f5.size;omega) (fun q=>(F k d).2.1 (.inl (.inl q)))
      ·rcases o5 k q with q|q
       ·exact(F k d).1 q
       ·have:C.heap.size<=k:=q;have:=(di B d).2.1;omega
     clear G ab M J af B ar F au D ad ae Y K b3 b4 hq H aA e2 m1 m2 m3;go_wp2
     go_region_with ((go_at_call 118;refine(CT.out _ ((yO _).drew)).mono ?_;rintro e y ⟨z,rfl⟩;have E:=dJ (Q.out y z);clear z))
     all_goals
      have r9:y.cell? ⟨c.Bs,9,none⟩=some (.int .i64 (j:Int)):=E.out.1.cell 9;have bc:y.cell? ⟨c.Bs,10,none⟩=some (.int .i64 I):=E.out.1.cell 10;obtain⟨z9,bg⟩:=frw2 E.out.1.st 9 10;go_wp2;obtain⟨X,j1,j2,j3,j4,j5⟩:=E.out.2;have J1:=dJ j1;have J2:=dJ j2;have J3:=dJ j3;have J4:=dJ j4;have J5:=dJ j5;clear j1 j2 j3 j4 j5
      go_roundg k
      case measure=>omega
      case rel=>exact⟨tn,j,s2,_,T++[(j:Int)],m,X,J1,J2,J3,J4,J5,aJ,aK,aW,by omega,by rw[yK,List.length_singleton];omega,an⟩
end

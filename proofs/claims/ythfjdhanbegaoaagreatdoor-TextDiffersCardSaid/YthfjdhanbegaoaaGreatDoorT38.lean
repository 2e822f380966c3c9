/- Parts. -/
import Derived.Test.YthfjdhanbegaoaaGreatDoorT37
set_option linter.unusedSimpArgs false
set_option linter.unusedVariables false
set_option maxRecDepth 100000
set_option maxHeartbeats 16000000
open Go.Proofs.Tryz
namespace Go.Proofs.YthfjdhanbegaoaaGreatDoor
open Go.RowKit
def FnK (w':World)(v:Value)(f:Fn):Prop:=∀w9,KeptT 3 w' w9->KeptT 50 w' w9->KeptT 46 w' w9->w'.heap.size<=w9.heap.size->FnAt w9.heap.size w9 v f
theorem FnK.gr {w w':World}{v:Value}{f:Fn}(h:FnK w v f)(g:Gr w w'):FnK w' v f:=fun w9 d j l m=>h w9 ((g.kept _).trans d) ((g.kept _).trans j) ((g.kept _).trans l) (Nat.le_trans g.size m)
theorem FnK.at {w:World}{v:Value}{f:Fn}(h:FnK w v f):FnAt w.heap.size w v f:=h w (fun _ _ q=>q) (fun _ _ q=>q) (fun _ _ q=>q) (pS _)
def lh (w w':World)(r:Fn × Bool)(e:Ending):Prop:=∃v,e=.returned (.tuple #[v,.bool (!r.2)])/\FnK w' v r.1/\Gr w w'
theorem PI.mk1 {n₀:Nat}{W wr:World}{Bf:Nat}{f:Fn}{vp vs:Value}(fr:FrS (fun k=>k=Bf) W wr)(lt:Bf<W.heap.size)(hn:n₀<=W.heap.size)(hb:wr.heap[Bf]?=some (.cells (fe vp f.ret vs dy) 25 (0,0)))(tp:TI n₀ wr vp f.params)(ts:TI n₀ wr vs f.slots)(hf:f.blocks=[]):PI n₀ W wr Bf f vp vs dy [] wr.heap.size :=
 ⟨fr,lt,Nat.le_trans hn fr.size,hb,tp,ts,Own1.nil _ _ _,fr.size,pS _,⟨by rw[hf];rfl,fun j v m d=>by rw[hf]at d;simp at d,fun j v m d=>by rw[hf]at d;simp at d⟩,fun l g=>by rw[hf]at g;cases g⟩
theorem ik {B:Nat}{row:Array Value}{e T:TypeId}{w w':World}(h:FrS (fun k=>k=B) w w')(hb:w.heap[B]?=some (.cells row e (0,0)))(hT:T≠e):KeptT T w w':=fun k g d =>
 (h.block k (dh d) (by
   show ¬k=B
   rintro rfl
   rw[hb]at d
   simp at d
   exact hT d.2.symm)).trans d
theorem PI.hd {n₀:Nat}{W1 wr w8:World}{Bf:Nat}{f:Fn}{vp vs vb vp' vs':Value}{us:List Value}{B1:Nat}{ps ss:List Int}{r':Int}(h:PI n₀ W1 wr Bf f vp vs vb us B1)(hF:FrS (fun k=>k=Bf) wr w8)(hb:w8.heap[Bf]?=some (.cells (fe vp' r' vs' vb) 25 (0,0)))(tp:TI n₀ w8 vp' ps)(ts:TI n₀ w8 vs' ss):PI n₀ W1 w8 Bf ⟨ps,r',ss,f.blocks⟩ vp' vs' vb us B1 :=
 ⟨h.fr.trans hF,h.lt,h.le,hb,tp,ts,eE h.own (ik hF h.box (by decide)),h.b1,Nat.le_trans h.b2 hF.size,h.last.kept (ik hF h.box (by decide)) (ik hF h.box (by decide)),h.fit⟩
theorem WordsX.ne {R B i:Nat}{w:World}{v u:Value}{ws:List (List UInt8)}{row:Array Value}{e:TypeId}(h:WordsX R w v ws)(hb:w.heap[B]?=some (.cells row e (0,0)))(hrow:∀(j:Nat)(s:ByteArray),row[j]?≠some (.string s)):WordsX R (w.setCell ⟨B,i,none⟩ u) v ws:=by
 obtain⟨A,g,rfl,C,D,E⟩:=h;refine⟨A,g,rfl,C,D,fun t=>?_⟩;obtain⟨b,d,y,q,m,r⟩:=E t
 have p:b≠B:=by rintro rfl;obtain⟨z,G⟩:∃z,ws[0]?=some z:=⟨_,oY t⟩;have h0:=r 0 z G;rw[px _ _ (d+0) _ _ _ hb]at h0;exact hrow _ _ h0
 exact⟨b,d,y,q,by simpa using m,fun j l F=>(eL (Below.heap_setCell _ _ _ _ (by show b≠B;exact p)) _).trans (r j l F)⟩
theorem WordsX.neF {R B:Nat}{w w':World}{v:Value}{ws:List (List UInt8)}{row:Array Value}{e:TypeId}(h:WordsX R w v ws)(hb:w.heap[B]?=some (.cells row e (0,0)))(hrow:∀(j:Nat)(s:ByteArray),row[j]?≠some (.string s))(g:FrS (fun k=>k=B) w w'):WordsX R w' v ws:=by
 obtain⟨A,p,rfl,C,D,E⟩:=h;refine⟨A,p,rfl,C,D,fun u=>?_⟩;obtain⟨b,m,y,q,d,t⟩:=E u
 have r:¬b=B:=by rintro rfl;obtain⟨z,G⟩:∃z,ws[0]?=some z:=⟨_,oY u⟩;have h0:=t 0 z G;rw[px _ _ (m+0) _ _ _ hb]at h0;exact hrow _ _ h0
 exact⟨b,m,y,q,Nat.lt_of_lt_of_le d g.size,fun j l F=>(eL (g.block b d r) _).trans (t j l F)⟩
theorem gg {vp vs vb:Value}{r:Int}(h0:∃a n c,vp=.slice a n c)(h2:∃a n c,vs=.slice a n c)(h3:∃a n c,vb=.slice a n c)(j:Nat)(s:ByteArray):(fe vp r vs vb)[j]?≠some (.string s):=by
 obtain⟨a,n,c,rfl⟩:=h0;obtain⟨a2,l,d,rfl⟩:=h2;obtain⟨a3,m,g,rfl⟩:=h3
 match j with
 | 0=>simp[fe]
 | 1=>simp[fe]
 | 2=>simp[fe]
 | 3=>simp[fe]
 | j+4=>simp[fe]
theorem Tx.lastD_take {l:List Int}{k:Nat}{z:Int}(h:l[k]?=some z)(d:Int):Tx.lastD d (l.take (k+1))=z:=by
 induction l generalizing k d with
 | nil=>simp at h
 | cons a r ih =>
  cases k with
  | zero=>simp at h;subst h;rfl
  | succ k=>simp at h;rw[pJ];exact ih h a
def fY (ls:List (List UInt8))(k:Nat)(f:Fn)(b:Bool):Prop:=if k=0 then f=Tx.fn0/\b=false else Tx.parsedP ls=Tx.linesP (ls.drop k) f b
theorem jJ (n₀:Nat)(v:Value)(ls:List (List UInt8))(w:World)(ht:TabW w)(hv:WordsF n₀ w v ls)(hn:ls≠[])(hm:∀z∈ls,z.length<=80000)(hl:ls.length<=80001) :
  Calls prog 33 #[v] w fun e w'=>lh w w' (Tx.parsedP ls) e:=by
 obtain⟨iB,cF,cq,cr,ct⟩:=info_parts oq;obtain⟨iI,cG,cv,cw,cy⟩:=info_parts ou;obtain⟨A,c,rfl,cA,-,-⟩:=id hv;have HT:=dJ ht;have HW:=dJ hv;have HM:=dJ hm;have cU:0<ls.length:=List.length_pos_iff.2 hn;obtain⟨W,hW,bD,bO,bL,bM⟩:=lp w;have HG:=dJ bD;have cj:=dJ bO;have ch:=dJ bL;have aY:Hid (PI w.heap.size W W (w.heap.size+1) Tx.fn0 dy dy dy [] W.heap.size):=dJ (PI.mk1 (FrS.refl _ _) (by omega) (by omega) bM ((Own1.nil w.heap.size 3 W).ti (zs:=[]) (pR _)) ((Own1.nil w.heap.size 3 W).ti (zs:=[]) (pR _)) rfl);clear ht hv hm bD bO bL bM hn
 go_enter func33, ntmps33
 go_wp2
 go_step3
 go_wp2
 go_step3
 go_wp2
 go_loopw [5,6,7,8,10,11,12,15] (fun s5 _ _ _ _ _ _ cL wr=>∃(k:Nat)(f:Fn)(bw:Bool)(vp vs:Value)(Ab:Option Addr)(cb:Nat)(us:List Value)(B1:Nat),k<=ls.length/\cL=.int .i64 k/\s5=.bool bw/\f.blocks.length<=k/\Hid ((∀l∈f.blocks,l.length<=k)/\(∃a n c,vp=.slice a n c)/\∃a n c,vs=.slice a n c)/\Hid (fY ls k f bw)/\Hid (PI w.heap.size W wr (w.heap.size+1) f vp vs (.slice Ab f.blocks.length cb) us B1)) (fun _ _ _ _ _ _ _ i _=>ls.length-(intOf i).toNat)
 case atStart=>exact⟨0,Tx.fn0,false,_,_,none,0,[],W.heap.size,pR _,rfl,rfl,pS _,dJ ⟨fun l hl=>(by cases hl),⟨_,_,_,rfl⟩,⟨_,_,_,rfl⟩⟩,dJ ⟨rfl,rfl⟩,aY⟩
 case round =>
  clear aY;obtain⟨k,f,bw,vp,vs,Ab,cb,us,B1,hk,rfl,rfl,cT,Q,HA,HB⟩:=hrel;have O:Hid (Gr w wr):=dJ (gN HG.out HB.out.fr (by rintro k rfl;omega));by_cases bH:k<ls.length
  ·have hz:=oY bH;obtain⟨z,bS⟩:=xJ (ls[k]);rw[bS]at hz;obtain⟨b,db,rfl,-,hb,cD⟩:=(HW.out.gr O.out).get hz;have c0:=HM.out z (pa hz);have HZ:=dJ hz;have bi:Hid (∀t,Gr wr t->Calls prog 34 #[.string (bs z),.string (bs [32])] t fun e w'=>∃v,e=.returned v/\Hid (WordsF t.heap.size w' v (Tx.cutS 32 z))/\Gr t w'):=dJ fun t g=>jb 32 z (by omega) t (HT.out.gr (O.out.trans g));have aO:Hid (∀q∈Tx.cutS 32 z,q.length<=80000):=dJ fun q u=>by have:=Tx.cutS_mem 32 z q u;omega
   obtain⟨B,aT⟩:=xJ (Tx.cutS 32 z);rw[aT]at bi aO;have aP:=dJ aT;clear hz bS aT
   go_upto_region 10 with (go_at_call 34;refine(bi.out _ (qj _)).mono ?_;rintro e t ⟨v,rfl,bo,g1⟩;have G1:=dJ g1;clear g1;obtain⟨A1,c1,hv,cA,-,-⟩:=id bo.out;subst hv)
   have ar:Hid (RdV (t.alloc (.cells #[.slice A1 B.length c1,.bool false] 91)) t.heap.size (.slice A1 B.length c1) B false):=dJ ⟨heap_alloc_new _ _,(WordsX.of bo.out (pS _)).fr (pU ((qj _).alloc _))⟩;obtain⟨W2,au⟩:=xJ (t.alloc (.cells #[.slice A1 B.length c1,.bool false] 91));have G2:Hid (Gr wr W2):=dJ (by rw[<-au];exact G1.out.alloc _);have ae:Hid (W2.heap.size=t.heap.size+1):=dJ (by rw[<-au];simp);rw[au]at ar ⊢;obtain⟨R,hR⟩:=xJ t.heap.size;have cz:wr.heap.size<=R:=by rw[<-hR];exact G1.out.size
   rw[hR]at ar ae ⊢;have cS:w.heap.size+1<R:=by have:=dh HB.out.box;omega
   have aG:Hid (∀w',FrR R W2 w'->Gr wr w'):=dJ fun w' g=>gN G2.out g (by rintro k rfl;exact cz);have bl:Hid (∀w',FrR R W2 w'->TabW w'):=dJ fun w' g=>HT.out.gr (O.out.trans (aG.out w' g));have af:Hid (RI W2 W2 R (.slice A1 B.length c1) B false):=dJ ⟨ar.out.1,ar.out.2,FrS.refl _ _⟩;clear hR au cD;by_cases bF:k=0
   ·subst bF
    obtain⟨rfl,rfl⟩:f=Tx.fn0/\bw=false:=by
     have h:=HA.out;unfold fY at h
     rwa [pB rfl]at h
    have ce:Hid (Tx.parsedP ls=Tx.linesP (ls.drop 1) (Tx.headP B).1 (Tx.headP B).2):=dJ (by
      have cE:ls.headD []=z:=by
        have:=HZ.out
        cases ls with|nil=>simp at this|cons a r=>simpa using this
      unfold Tx.parsedP
      rw[cE,aP.out,List.drop_one])
    have a7:=dJ (fA R _ B false _ af.out.rd);have aQ:Hid (∀q∈B.tail,q.length<=80000):=dJ fun q u=>aO.out q (List.mem_of_mem_tail u);obtain⟨t0,aw⟩:=xJ B.tail;have aH:Hid (Tx.headP B=(⟨Tx.numsP (Tx.untilS [58] t0).1,Tx.lastD 0 (Tx.numsP (Tx.untilS [58] (Tx.untilS [58] t0).2).1),Tx.numsP (Tx.untilS [58] (Tx.untilS [58] t0).2).2,[]⟩,Tx.wrongs (Tx.untilS [58] t0).1 || Tx.wrongs (Tx.untilS [58] (Tx.untilS [58] t0).2).1 || Tx.wrongs (Tx.untilS [58] (Tx.untilS [58] t0).2).2)):=dJ (by unfold Tx.headP;rw[aw])
    have bj:Hid (t0.length<=90001):=dJ (by
      have:=Tx.cutS_len 32 z
      rw[aP.out]at this
      rw[<-aw,List.length_tail]
      omega)
    rw[aw]at a7 aQ;clear aw
    go_upto_region 12 with (go_at_call 64;refine(a7.out).mono ?_;rintro e w3 ⟨rfl,⟨d,bK,bA⟩,g3⟩;have bd:Hid (RdV w3 R d t0 false):=dJ ⟨bA.out,(bK.out _ af.out.words).fr g3⟩;have F3:=dJ g3;clear bK bA g3)
    have bk:Hid (t0.length<=90001):=dJ bj.out;have bn:=dJ (gY R t0 false [58] w3 ⟨d,bd.out⟩ bk.out);have L:=pY [58] t0;have a4:Hid (∀q∈(Tx.untilS [58] t0).1,q.length<=90000):=dJ fun q u=>by have:=aQ.out q (List.mem_of_mem_take (by rw[L]at u;exact u));omega
    have aJ:Hid (∀q∈(Tx.untilS [58] t0).2,q.length<=90000):=dJ fun q u=>by have:=aQ.out q (List.mem_of_mem_drop (by rw[L]at u;exact u));omega
    have bc:Hid ((Tx.untilS [58] t0).2.length<=90001):=dJ (by rw[L];simp only[List.length_drop];have:=bk.out;omega);obtain⟨X,an⟩:=xJ ((Tx.untilS [58] t0).1);obtain⟨t1,al⟩:=xJ ((Tx.untilS [58] t0).2);rw[an,al]at bn aH;rw[an]at a4;rw[al]at aJ bc;clear L an al
    go_upto_region 13 with (first|(go_at_call 66;refine(bn.out).mono ?_;rintro e w4 ⟨A4,c4,rfl,bp,ba,g4⟩;obtain⟨V,aD⟩:=ba.out;have be:=dJ aD;have F4:=dJ (FrS.trans F3.out g4);clear aD g4)|(go_at_call 65;refine(eU R V t1 false _ X w4 (fun w' g=>bl.out _ (FrS.trans F4.out g)) be.out bp.out a4.out).mono ?_;rintro e w5 ⟨A5,c5,rfl,a8,aA,g5⟩;have F5:=dJ (FrS.trans F4.out g5);have M:=dJ (HB.out.gr (aG.out _ F5.out));have y0:=px _ _ 0 _ _ _ M.out.box;have y1:=pz _ _ 0 _ _ M.out.box;clear g5))
    have bB:∀{w':World},FrS (fun k=>k=R\/k=w.heap.size+1) W2 w'->Gr w w':=fun g=>gN (O.out.trans G2.out) g (by rintro k (rfl|rfl)<;>omega);have a2:Hid (∀w':World,FrS (fun k=>k=R\/k=w.heap.size+1) W2 w'->Gr w w'):=dJ fun w' g=>bB g;obtain⟨w6,ab⟩:=xJ (w5.setCell ⟨w.heap.size+1,0,none⟩ (.slice A5 X.length c5));have ax:Hid (w6.heap[w.heap.size+1]?=some (.cells (fe (.slice A5 X.length c5) 0 vs (.slice Ab 0 cb)) 25 (0,0))):=dJ (by rw[<-ab];exact de (i:=0) _ M.out.box)
    have bf:Hid (RdV w6 R V t1 (false || Tx.wrongs X)):=dJ (by
      rw[<-ab]
      exact⟨(Below.heap_setCell _ _ _ _ (by show R≠w.heap.size+1;omega)).trans aA.out.1,aA.out.2.ne M.out.box (gg Q.out.2.1 Q.out.2.2 ⟨_,_,_,rfl⟩)⟩)
    have F6:Hid (FrS (fun k=>k=R\/k=w.heap.size+1) W2 w6):=dJ (by rw[<-ab];exact FrS.setCell (F5.out.mono fun k q=>.inl q) (p:=⟨w.heap.size+1,0,none⟩) (.inr rfl) _)
    have aK:Hid (Own1 w4.heap.size 3 w6 (.slice A5 X.length c5) (dF (Tx.numsP X))):=dJ (by
      rw[<-ab]
      exact el a8.out fun q e=>Below.heap_setCell _ _ _ _ (by have:=(dE a8.out e).1;have:=F4.out.size;have:=ae.out;show q≠w.heap.size+1;omega))
    rw[ab];clear ab bB;have aC:=dJ (gY R t1 (false || Tx.wrongs X) [58] w6 ⟨V,bf.out⟩ bc.out);have L:=pY [58] t1;have a5:Hid (∀q∈(Tx.untilS [58] t1).1,q.length<=90000):=dJ fun q u=>aJ.out q (List.mem_of_mem_take (by rw[L]at u;exact u));have a6:Hid (∀q∈(Tx.untilS [58] t1).2,q.length<=90000):=dJ fun q u=>aJ.out q (List.mem_of_mem_drop (by rw[L]at u;exact u));obtain⟨C,ao⟩:=xJ ((Tx.untilS [58] t1).1);obtain⟨t2,am⟩:=xJ ((Tx.untilS [58] t1).2);rw[ao,am]at aC aH;rw[ao]at a5;rw[am]at a6;clear L ao am y0 y1
    go_wp2_with (first|(go_at_call 66;refine(aC.out).mono ?_;rintro e w7 ⟨A7,c7,rfl,bq,bb,g7⟩;obtain⟨aU,aE⟩:=bb.out;have aB:=dJ aE;have bT:=dJ g7;have F7:=dJ (F6.out.trans (g7.mono fun k q=>.inl q));clear aE g7)|(go_at_call 65;refine(eU R aU t2 _ _ C w7 (fun w' g=>HT.out.gr (a2.out _ (F7.out.trans (g.mono fun k q=>.inl q)))) aB.out bq.out a5.out).mono ?_;rintro e w8 ⟨A8,c8,rfl,aL,H,g8⟩;have F8:=dJ (F7.out.trans (g8.mono fun k q=>.inl q));have aW:=dJ (FrS.trans bT.out g8);clear g8))
    have aZ:Hid (w8.heap[w.heap.size+1]?=some (.cells (fe (.slice A5 X.length c5) 0 vs (.slice Ab 0 cb)) 25 (0,0))):=dJ ((aW.out.block _ (dh ax.out) (by show ¬w.heap.size+1=R;omega)).trans ax.out);have ai:Hid ((Tx.numsP C).length=C.length):=dJ (by unfold Tx.numsP;rw[pv])
    have cP:C.length<=100000:=by obtain⟨_,_,_,_,q,_⟩:=bq.out;exact q
    have cN:R<w7.heap.size:=dh aB.out.1
    go_loopw [10,64] (fun _ cM wr=>∃j:Nat,j<=C.length/\cM=.int .i64 j/\Hid (FrS (fun k=>k=w.heap.size+1) w8 wr)/\Hid (wr.heap[w.heap.size+1]?=some (.cells (fe (.slice A5 X.length c5) (Tx.lastD 0 ((Tx.numsP C).take j)) vs (.slice Ab 0 cb)) 25 (0,0)))) (fun _ i _=>C.length-(intOf i).toNat)
    case atStart=>exact⟨0,pR _,rfl,dJ (FrS.refl _ _),aZ⟩
    case round =>
     obtain⟨j,hj,rfl,Z,N⟩:=hrel;have z0:=px _ _ 1 _ _ _ N.out;have z1:=pz _ _ 1 _ _ N.out;by_cases bE:j<C.length
     ·obtain⟨y,hy⟩:∃y,(Tx.numsP C)[j]?=some y:=⟨_,oY (by rw[ai.out];exact bE)⟩;have ho:=el aL.out fun q e=>Z.out.block q (dE aL.out e).2.1 (by have:=(dE aL.out e).1;show ¬q=w.heap.size+1;omega);unfold Own1 at ho;obtain⟨b9,rfl,K,-,bu⟩:=dr ho (show Value.slice A8 C.length c8=.slice A8 (dF (Tx.numsP C)).length c8 by rw[dM,ai.out]) (by rw[dM,ai.out];omega);have cB:=bu j (by rw[dM,ai.out];omega);rw[show (dF (Tx.numsP C))[j]?=some (.int .i64 y) by unfold dF;rw[pk,hy];rfl]at cB;have cn:=dJ (Tx.lastD_take hy 0);have b6:=dJ (de (i:=1) (.int .i64 y) N.out);have cH:j+1<=C.length:=bE;have ca:=dJ cH;clear hy ho bu;go_wp2;go_roundw;case rel=>exact⟨j+1,ca.out,by go_num,dJ (FrS.setCell Z.out (p:=⟨w.heap.size+1,1,none⟩) rfl _),dJ (by rw[cn.out];exact b6.out)⟩
      case measure=>simp[intOf]<;>omega
     ·have cI:j=C.length:=by omega
      subst cI;rw[show (Tx.numsP C).take C.length=Tx.numsP C from pq (by rw[ai.out];exact pS _)]at N;obtain⟨Ax,cx,cK,-,-,-⟩:=H.out.2;subst cK;have FB:=dJ (F8.out.trans (Z.out.mono fun k q=>.inr q));have ag:Hid (RdV wr R (.slice Ax t2.length cx) t2 ((false || Tx.wrongs X) || Tx.wrongs C)):=dJ ⟨(Z.out.block R (dh H.out.1) (by show ¬R=w.heap.size+1;omega)).trans H.out.1,H.out.2.neF aZ.out (gg ⟨_,_,_,rfl⟩ Q.out.2.2 ⟨_,_,_,rfl⟩) Z.out⟩;have cd:=dJ (eU R _ t2 _ _ t2 wr (fun w' g=>HT.out.gr (a2.out _ (FB.out.trans (g.mono fun k q=>.inl q)))) ag.out ag.out.2 a6.out);have r0:=px _ _ 0 _ _ _ ag.out.1;clear z0 z1
      go_upto_region 23 with (go_at_call 65;refine(cd.out).mono ?_;rintro e w9 ⟨A9,c9,rfl,a9,bg,g9⟩;have F9:=dJ g9;have K:=(g9.block _ (dh N.out) (by show ¬w.heap.size+1=R;omega)).trans N.out;have bZ:=dJ K;have y0:=px _ _ 2 _ _ _ K;have y1:=pz _ _ 2 _ _ K;clear g9 K)
      have bU:FrS (fun k=>k=R\/k=w.heap.size+1) w6 w9:=((aW.out.mono fun k q=>.inl q).trans (Z.out.mono fun k q=>.inr q)).trans (F9.out.mono fun k q=>.inl q);have aF:=dJ (FrS.setCell bU (p:=⟨w.heap.size+1,2,none⟩) (.inr rfl) (.slice A9 t2.length c9));have aV:=dJ (F6.out.trans aF.out);have a1:=dJ (de (i:=2) (.slice A9 t2.length c9) bZ.out);have E:(w9.setCell ⟨w.heap.size+1,2,none⟩ (.slice A9 t2.length c9)).heap[R]?=_:=(Below.heap_setCell _ _ _ _ (by show R≠w.heap.size+1;omega)).trans bg.out.1;have cZ:w.heap.size+1<w4.heap.size/\R<w4.heap.size:=by have:=F4.out.size;have:=ae.out;omega
      have ay:=dJ (el aK.out fun q e=>aF.out.block q (dE aK.out e).2.1 (by have:=(dE aK.out e).1;show ¬(q=R\/q=w.heap.size+1);omega));have cQ:w.heap.size+1<wr.heap.size:=dh N.out;have az:=dJ (el a9.out fun q e=>Below.heap_setCell w9 ⟨w.heap.size+1,2,none⟩ (.slice A9 t2.length c9) _ (by have:=(dE a9.out e).1;show q≠w.heap.size+1;omega));obtain⟨wq,F⟩:=xJ (w9.setCell ⟨w.heap.size+1,2,none⟩ (.slice A9 t2.length c9));rw[F]at aF aV a1 E ay az ⊢;have r1:=px _ _ 1 _ _ _ E
      have cV:X.length<=100000:=by obtain⟨_,_,_,_,q,_⟩:=bp.out;exact q
      have cW:t2.length<=100000:=by obtain⟨_,_,_,_,q,_⟩:=H.out.2;exact q
      have cf:=dJ (PI.hd HB.out (pV ((pU G2.out).trans aV.out) fun k hk q=>q.elim (fun q=>by omega) id) a1.out ((ay.out.ti (by unfold Tx.numsP;rw[pv];omega)).lower (by omega)) ((az.out.ti (by unfold Tx.numsP;rw[pv];omega)).lower (by omega)));have bX:Hid (fY ls 1 ⟨Tx.numsP X,Tx.lastD 0 (Tx.numsP C),Tx.numsP t2,[]⟩ (((false || Tx.wrongs X) || Tx.wrongs C) || Tx.wrongs t2)):=dJ (by unfold fY;rw[pC (by decide),ce.out,aH.out,Bool.false_or]);clear E y0 y1 r0 F;go_wp2;go_roundw;case rel=>exact⟨1,⟨Tx.numsP X,Tx.lastD 0 (Tx.numsP C),Tx.numsP t2,[]⟩,_,_,_,Ab,cb,us,B1,by omega,by go_num,rfl,pR _,dJ ⟨fun l hl=>(by cases hl),⟨_,_,_,rfl⟩,⟨_,_,_,rfl⟩⟩,bX,cf⟩
      case measure=>simp[intOf]<;>omega
   ·have Y:Hid (Tx.parsedP ls=if z.getLast?=some 58 then Tx.linesP (ls.drop (k+1)) ⟨f.params,f.ret,f.slots,f.blocks++[[]]⟩ bw
         else if f.blocks=[] then Tx.linesP (ls.drop (k+1)) f true
         else Tx.linesP (ls.drop (k+1)) ⟨f.params,f.ret,f.slots,Tx.addLast f.blocks (Tx.instP B).1⟩ (bw || (Tx.instP B).2)):=dJ (by
       have h:=HA.out
       unfold fY at h
       rw[pC bF]at h
       rw[h,po bH,(oZ.1 HZ.out).2,<-aP.out]
       rfl)
    have n0:((k:Int) == 0)=false:=by simp;omega
    have ah:Hid (∀t,Calls prog 67 #[.string (bs z),.string (bs [58])] t (RS (.bool (decide (z.getLast?=some 58))) t)):=dJ fun t=>kT 58 z (by omega) t;have D:=dJ (HB.out.gr G2.out);have ak:=D.out.box;obtain⟨k0,k1,k2,k3⟩:=crw4 ak 0 1 2 3;have q1:=px _ _ 1 _ _ _ af.out.box;clear ak;by_cases J:z.getLast?=some 58
    ·have G:Hid (Tx.parsedP ls=Tx.linesP (ls.drop (k+1)) ⟨f.params,f.ret,f.slots,f.blocks++[[]]⟩ bw):=dJ (by rw[Y.out,pB J]);have I:Hid (∀t,Calls prog 67 #[.string (bs z),.string (bs [58])] t (RS (.bool true) t)):=dJ (by have:=ah.out;rw[decide_eq_true J]at this;exact this);have y3:=pz _ _ 3 _ _ D.out.box;have cc:=dJ D.out.last.len;clear Y ah J
     go_upto_region 23 with (first|(go_at_call 67;refine(I.out _).mono ?_;rintro e w2 ⟨rfl,rfl⟩)|(at_builtin;refine nN (n:=f.blocks.length) (v:=.slice Ab f.blocks.length cb) underlying23 cF cq cr ct rfl (by omega) rfl (.tmp 83) (.tmp 84) rfl cc.out rfl D.out.own rfl rfl (by omega) D.out.fr.size ?_;intro A5 c5 w5 bI aR bz;have HP:=dJ (D.out.open (qj _) bI aR);have y0:=px _ _ 3 _ _ _ HP.out.1;have y1:=pz _ _ 3 _ _ HP.out.1;have cg:=dJ (dC (T:=91) D.out.own aR (by decide) _ _ af.out.box);clear bI aR bz))
     obtain⟨wq,F⟩:=xJ (w5.setCell ⟨w.heap.size+1,3,none⟩ (.slice A5 (f.blocks.length+1) c5))
     have E:wq.heap[R]?=some (.cells #[.slice A1 B.length c1,.bool false] 91 (0,0)):=by rw[<-F];exact(Below.heap_setCell _ _ _ _ (by show R≠w.heap.size+1;omega)).trans cg.out
     have r1:=px _ _ 1 _ _ _ E;rw[F]at HP ⊢;clear F y0 y1 E k0 k1 k2 k3 q1
     cases bw with
     | false =>
      go_wp2;go_roundw
      case rel=>exact⟨k+1,⟨f.params,f.ret,f.slots,f.blocks++[[]]⟩,false,vp,vs,A5,c5,us++[dy],w5.heap.size,by omega,by go_num,rfl,by simp only[pT,List.length_singleton];omega,dJ ⟨fun l hl=>by
        rcases pI.1 hl with hl|hl
        · have:=Q.out.1 l hl;omega
        · rw[List.mem_singleton.1 hl];simp,Q.out.2⟩,dJ (by unfold fY;rw[pC (by omega)];exact G.out),dJ (by simp only[pT,List.length_singleton];exact HP.out.2)⟩
      case measure=>simp[intOf]<;>omega
     | true =>
      go_wp2;go_roundw
      case rel=>exact⟨k+1,⟨f.params,f.ret,f.slots,f.blocks++[[]]⟩,true,vp,vs,A5,c5,us++[dy],w5.heap.size,by omega,by go_num,rfl,by simp only[pT,List.length_singleton];omega,dJ ⟨fun l hl=>by
        rcases pI.1 hl with hl|hl
        · have:=Q.out.1 l hl;omega
        · rw[List.mem_singleton.1 hl];simp,Q.out.2⟩,dJ (by unfold fY;rw[pC (by omega)];exact G.out),dJ (by simp only[pT,List.length_singleton];exact HP.out.2)⟩
      case measure=>simp[intOf]<;>omega
    ·have I:Hid (∀t,Calls prog 67 #[.string (bs z),.string (bs [58])] t (RS (.bool false) t)):=dJ (by have:=ah.out;rw[decide_eq_false J]at this;exact this);by_cases aa:f.blocks=[]
     ·have G:Hid (Tx.parsedP ls=Tx.linesP (ls.drop (k+1)) f true):=dJ (by rw[Y.out,pC J,pB aa]);have bG:(f.blocks.length:Int)=0:=by rw[aa];rfl
      have cO:((f.blocks.length:Int) == 0)=true:=by rw[bG];rfl
      clear Y ah J aa
      cases bw with
      | false =>
       go_wp2_with (go_at_call 67;refine(I.out _).mono ?_;rintro e w2 ⟨rfl,rfl⟩);go_roundw;case rel=>exact⟨k+1,f,true,vp,vs,Ab,cb,us,B1,by omega,by go_num,rfl,by omega,dJ ⟨fun l hl=>by have:=Q.out.1 l hl;omega,Q.out.2⟩,dJ (by unfold fY;rw[pC (by omega)];exact G.out),D⟩
       case measure=>simp[intOf]<;>omega
      | true =>
       go_wp2_with (go_at_call 67;refine(I.out _).mono ?_;rintro e w2 ⟨rfl,rfl⟩);go_roundw;case rel=>exact⟨k+1,f,true,vp,vs,Ab,cb,us,B1,by omega,by go_num,rfl,by omega,dJ ⟨fun l hl=>by have:=Q.out.1 l hl;omega,Q.out.2⟩,dJ (by unfold fY;rw[pC (by omega)];exact G.out),D⟩
       case measure=>simp[intOf]<;>omega
     ·have G:Hid (Tx.parsedP ls=Tx.linesP (ls.drop (k+1)) ⟨f.params,f.ret,f.slots,Tx.addLast f.blocks (Tx.instP B).1⟩ (bw || (Tx.instP B).2)):=dJ (by rw[Y.out,pC J,pC aa]);obtain⟨n,hn⟩:∃n,f.blocks.length=n+1:=⟨f.blocks.length-1,by have:=List.length_pos_iff.2 aa;omega⟩;obtain⟨g,Au,cu,l,co,av,bQ,cC,bC⟩:=HB.out.get hn;subst co;have a3:Hid (Calls prog 68 #[.pointer (some ⟨R,0,none⟩)] W2 fun e w'=>oh W2 w' R (Tx.instP B).1 (Tx.instP B).2 e):=dJ (mc R _ B W2 bl.out af.out.rd fun q u=>by have:=aO.out q u;omega);obtain⟨x,hx⟩:=xJ ((Tx.instP B).1);obtain⟨xb,bR⟩:=xJ ((Tx.instP B).2);rw[hx,bR]at a3 G;have aI:=dJ (Q.out.1 l (pa av));have ac:Hid (Tx.addLast f.blocks x=f.blocks.set n (l++[x])):=dJ (pX hn av x);have bm:=dJ bQ;have a0:=dJ av;have aq:=dJ hn;have mixed:(prog).follows .mixedOrders=true:=by kernel_rfl
      obtain⟨m,hm⟩:∃m,m=n+1:=⟨_,rfl⟩;rw[hn,<-hm]at k3;have b7:Hid (PI w.heap.size W wr (w.heap.size+1) f vp vs (.slice (some ⟨g,0,none⟩) (n+1) cb) us B1):=dJ (by have:=HB.out;rwa [hn]at this);have ad:=dJ hm;have c2:((m:Int) == 0)=false:=by simp;omega
      have c6:((n:Int)<(m:Int)):=by omega
      have da:((m:Int)-1)=(n:Int):=by omega
      have cY:n<=100000:=by omega
      have cX:m<=100001:=by omega
      have bG:l.length<=100000:=by have:=aI.out;omega
      have aX:Hid ((Tx.addLast f.blocks x).length=m):=dJ (by rw[ac.out,List.length_set,aq.out,ad.out])
      have bY:Hid (∀q∈Tx.addLast f.blocks x,q.length<=k+1):=dJ fun q u=>by
       rw[ac.out]at u;rcases List.mem_or_eq_of_mem_set u with u|rfl
       ·have:=Q.out.1 q u;omega
       ·have:=aI.out;rw[pT,List.length_singleton];omega
      clear ac Y ah J aa hx bR hn av bQ hm
      go_upto_region 9 with (first|(go_at_call 67;refine(I.out _).mono ?_;rintro e w2 ⟨rfl,rfl⟩)|(go_at_call 68;refine(a3.out).mono ?_;rintro e w3 ⟨A3,c3,A9,c9,rfl,bx,bP,g9,d,K⟩;have G3:=dJ (aG.out _ g9);have bW:=dJ (bx.lower (n₀:=w.heap.size) (by have:=O.out.size;have:=G2.out.size;omega));have cl:=dJ (bP.lower (n₀:=w.heap.size) (by have:=O.out.size;have:=G2.out.size;omega));have bh:=dJ K;clear bx bP g9 K;unfold ef))
      have aj:=heap_alloc_new w3 (.cells #[.int .i64 x.op,.int .i64 x.width,.int .i64 x.flags,.slice A3 x.args.length c3,.int .u32 x.imm,.slice A9 x.to.length c9] 50);have g4:Gr w3 (w3.alloc (.cells #[.int .i64 x.op,.int .i64 x.width,.int .i64 x.flags,.slice A3 x.args.length c3,.int .u32 x.imm,.slice A9 x.to.length c9] 50)):=(qj w3).alloc _;obtain⟨W4,bv⟩:=xJ (w3.alloc (.cells #[.int .i64 x.op,.int .i64 x.width,.int .i64 x.flags,.slice A3 x.args.length c3,.int .u32 x.imm,.slice A9 x.to.length c9] 50));rw[bv]at aj g4 ⊢;have G4:Hid (Gr wr W4):=dJ (G3.out.trans g4);have ap:=dJ (b7.out.gr G4.out);have M:=dJ (ap.out.gr (qj W4).drew);have bV:=dJ ((bW.out.gr g4).gr (qj W4).drew);have ck:=dJ ((cl.out.gr g4).gr (qj W4).drew);have cm:Hid (W4.drew.heap[R]?=some (.cells #[d,.bool xb] 91 (0,0))):=dJ (((g4.trans (qj W4).drew).heap _ (dh bh.out)).trans bh.out);obtain⟨cR,bN,bt⟩:=M.out.last.last n _ l aq.out.symm bm.out a0.out;have aN:=dJ bN;have H6:=dJ bt;obtain⟨b0,b1,b2,b3,b4,b5⟩:=crw6 aj 0 1 2 3 4 5;have B0:=fun o=>px (W4.alloc o) _ 0 _ _ _ ((((qj W4).alloc o).heap _ (dh aj)).trans aj);have p3:=px _ _ 3 _ _ _ ap.out.box;have P3:=fun o=>px (W4.alloc o) _ 3 _ _ _ (ap.out.gr ((qj _).alloc o)).box;simp only[<-ad.out]at p3 P3;have qg:=(G4.out.cell _ _ bC).trans cC;have Qg:=fun o=>(((qj W4).alloc o).cell g n (Nat.lt_of_lt_of_le bC G4.out.size)).trans qg;clear aj g4 bv bN bt k0 k1 k2 k3 q1
      go_region_law_o (refine jc (n:=l.length) (v:=.slice Au l.length cu) underlying46 cG cv cw cy rfl (by omega) rfl (.tmp 38) (.tmp 40) rfl rfl aN.out (by intro y hy;simp at hy;rcases hy with rfl|rfl|rfl|rfl|rfl|rfl<;>rfl) rfl (by omega) M.out.b2 ?_;intro A8 c8 w8 bJ aS;have HP:=dJ (PI.add ap.out aq.out bm.out a0.out (by have:=aI.out;omega) (qj W4).drew aN.out H6.out bJ aS bV.out ck.out);have x0:=HP.out.1.1;have x1:=HP.out.1.2.1;have x2:=px _ _ 3 _ _ _ HP.out.1.2.2;simp only[<-ad.out]at x2;have br:=dJ (dC (T:=91) aN.out aS (by decide) _ _ cm.out);clear bJ aS)
      all_goals have E:(w8.setCell ⟨g,n,none⟩ (.slice A8 (l.length+1) c8)).heap[R]?=some (.cells #[d,.bool xb] 91 (0,0)):=(Below.heap_setCell _ _ _ _ (by show R≠g;omega)).trans br.out
      all_goals have r1:=px _ _ 1 _ _ _ E
      all_goals have aM:=HP.out.2
      all_goals rw[<-ad.out,<-aX.out]at aM
      all_goals clear E x0 x1 x2 b0 b1 b2 b3 b4 b5 B0 p3 P3 qg Qg
      all_goals obtain⟨wq,F⟩:=xJ (w8.setCell ⟨g,n,none⟩ (.slice A8 (l.length+1) c8))
      all_goals rw[F]at aM r1 ⊢
      all_goals clear F HP br
      all_goals cases bw
      all_goals go_wp2
      all_goals exact⟨⟨k+1,⟨f.params,f.ret,f.slots,Tx.addLast f.blocks x⟩,_,vp,vs,some ⟨g,0,none⟩,cb,us.set n _,B1,by omega,by go_num,rfl,by show (Tx.addLast f.blocks x).length<=_;rw[aX.out];have:=aq.out;have:=ad.out;omega,dJ ⟨bY.out,Q.out.2⟩,dJ (by unfold fY;rw[pC (by omega)];exact G.out),dJ aM⟩,by simp[intOf]<;>omega⟩
  ·have cJ:k=ls.length:=by omega
   have hd:decide ((k:Int)<(ls.length:Int))=false:=by simp;omega
   have HF:Hid (Tx.parsedP ls=(f,bw)):=dJ (by
     have h:=HA.out
     unfold fY at h
     rw[pC (by omega)]at h
     rw[h,cJ,List.drop_length]
     rfl)
   have ak:=HB.out.box;obtain⟨k0,k1,k2,k3⟩:=crw4 ak 0 1 2 3;have U:=(HB.out.fr.block w.heap.size (by have:=cj.out;omega) (by omega)).trans ch.out;obtain⟨r0,r1,r2,r3⟩:=crw4 U 0 1 2 3;obtain⟨f0,f1,f2,f3⟩:=frw4 U 0 1 2 3;have ci:=dJ U;obtain⟨⟨Ap,np,cp,rfl⟩,⟨As,ns,cs,rfl⟩⟩:=Q.out.2;have b8:Hid (FnK ((((wr.setCell ⟨w.heap.size,0,none⟩ (.slice Ap np cp)).setCell ⟨w.heap.size,1,none⟩ (.int .i64 f.ret)).setCell ⟨w.heap.size,2,none⟩ (.slice As ns cs)).setCell ⟨w.heap.size,3,none⟩ (.slice Ab f.blocks.length cb)) (.agg #[.slice Ap np cp,.int .i64 f.ret,.slice As ns cs,.slice Ab f.blocks.length cb]) f):=dJ fun w9 j1 j2 j3 js=>HB.out.fnK (w9:=w9) ((dR U _ _ _ _ (by decide)).trans j1) ((dR U _ _ _ _ (by decide)).trans j2) ((dR U _ _ _ _ (by decide)).trans j3) (Nat.le_trans (by simp) js) (by omega);clear ak U;go_wp2
   try rw[Exit.noGoto_ret]
   refine pA (jL _ _ 2 3 _ w.heap.size _ _ _ _ _ _ rfl rfl rfl (dw ci.out _ _ _ _) ⟨_,_,_,rfl⟩ ⟨_,rfl⟩ ⟨_,_,_,rfl⟩ ⟨_,_,_,rfl⟩) rfl ?_;rw[HF.out];refine⟨_,rfl,b8.out,?_⟩
   iterate 4 refine Gr.setCell ?_ (by show w.heap.size<=w.heap.size;omega) _
   exact O.out
theorem kC (s:List UInt8)(hsl:s.length<=80000)(w:World)(ht:TabW w) :
  Calls prog 14 #[.string (bs s)] w fun e w'=>gL w w' (Tx.readP s) e:=by
 have Y:Hid (Tx.readP s=if s.getLast?=some 10 then (if (Tx.parsedP (Tx.cutS 10 s.dropLast)).2=false/\Ref.validate (Tx.parsedP (Tx.cutS 10 s.dropLast)).1=0/\Tx.textS (Tx.parsedP (Tx.cutS 10 s.dropLast)).1=s then some (Tx.parsedP (Tx.cutS 10 s.dropLast)).1 else none) else none):=dJ rfl;have U:=dJ ht
 obtain⟨W,hW,L,HR⟩:∃W,w.alloc (.cells #[dy,.int .i64 0,dy,dy] 25)=W/\Hid (Gr w W)/\Hid (W.heap[w.heap.size]?=some (.cells #[dy,.int .i64 0,dy,dy] 25 (0,0))) :=
  ⟨_,rfl,dJ ((qj w).alloc _),dJ (heap_alloc_new w _)⟩
 have J:Hid (∀w9,Gr W w9->w9.heap[w.heap.size]?=some (.cells #[dy,.int .i64 0,dy,dy] 25 (0,0))):=dJ fun w9 g=>(g.heap _ (dh HR.out)).trans HR.out
 have N:Hid (∀w9,Gr W w9->(w9.cell? ⟨w.heap.size,0,none⟩=some dy/\w9.cell? ⟨w.heap.size,1,none⟩=some (.int .i64 0)/\w9.cell? ⟨w.heap.size,2,none⟩=some dy/\w9.cell? ⟨w.heap.size,3,none⟩=some dy)/\(w9.frozen? ⟨w.heap.size,0,none⟩=false/\w9.frozen? ⟨w.heap.size,1,none⟩=false/\w9.frozen? ⟨w.heap.size,2,none⟩=false/\w9.frozen? ⟨w.heap.size,3,none⟩=false)):=dJ fun w9 g =>
  have q:=J.out w9 g
  ⟨⟨px _ _ 0 _ _ _ q,px _ _ 1 _ _ _ q,px _ _ 2 _ _ _ q,px _ _ 3 _ _ _ q⟩,⟨pz _ _ 0 _ _ q,pz _ _ 1 _ _ q,pz _ _ 2 _ _ q,pz _ _ 3 _ _ q⟩⟩
 have X:Hid (∀(w9:World),Gr W w9->Tx.readP s=none->gL w ((((w9.setCell ⟨w.heap.size,0,none⟩ dy).setCell ⟨w.heap.size,1,none⟩ (.int .i64 0)).setCell ⟨w.heap.size,2,none⟩ dy).setCell ⟨w.heap.size,3,none⟩ dy) (Tx.readP s) (.returned (.tuple #[.agg #[dy,.int .i64 0,dy,dy],.int .i64 2]))):=dJ fun w9 g e=>by
  rw[e];refine⟨_,rfl,nH _ _,?_⟩
  iterate 4 refine Gr.setCell ?_ (by show w.heap.size<=w.heap.size;omega) _
  exact L.out.trans g
 have V:Hid (∀l,Calls prog 32 #[.string (bs s),.string (bs [10])] l (RS (.tuple #[.string (bs (if s.getLast?=some 10 then s.dropLast else s)),.bool (decide (s.getLast?=some 10))]) l)):=dJ fun l=>jm 10 s (by omega) l;obtain⟨⟨r0,r1,r2,r3⟩,⟨f0,f1,f2,f3⟩⟩:=N.out W (qj _);clear ht;by_cases F:s.getLast?=some 10
 ·obtain⟨d,C⟩:=xJ s.dropLast;have af:d.length<=80000:=by rw[<-C,List.length_dropLast];omega
  have u:Hid (∀l,Calls prog 32 #[.string (bs s),.string (bs [10])] l (RS (.tuple #[.string (bs d),.bool true]) l)):=dJ fun l=>by have:=V.out l;rwa [pB F,decide_eq_true F,C]at this
  have O:Hid (∀l,TabW l->Calls prog 34 #[.string (bs d),.string (bs [10])] l fun e w'=>∃v,e=.returned v/\Hid (WordsF l.heap.size w' v (Tx.cutS 10 d))/\Gr l w'):=dJ fun l t=>jb 10 d (by omega) l t;have I:Hid (∀(n₀:Nat)(v:Value)(l:World),TabW l->WordsF n₀ l v (Tx.cutS 10 d)->Calls prog 33 #[v] l fun e w'=>lh l w' (Tx.parsedP (Tx.cutS 10 d)) e):=dJ fun n₀ v l t h=>jJ n₀ v _ l t h (Tx.cutS_ne 10 d) (fun z hz=>by have:=Tx.cutS_mem 10 d z hz;omega) (by have:=Tx.cutS_len 10 d;omega);have Q:=Tx.parsedP_fit d;have y:Hid (Tx.readP s=if (Tx.parsedP (Tx.cutS 10 d)).2=false/\Ref.validate (Tx.parsedP (Tx.cutS 10 d)).1=0/\Tx.textS (Tx.parsedP (Tx.cutS 10 d)).1=s then some (Tx.parsedP (Tx.cutS 10 d)).1 else none):=dJ (by rw[Y.out,pB F,C]);clear V Y F C;obtain⟨ws,ad⟩:=xJ (Tx.cutS 10 d);rw[ad]at O I y Q;obtain⟨r,hr⟩:=xJ (Tx.parsedP ws);rw[hr]at I y Q;obtain⟨f,bw⟩:=r;have HN:Hid (ia f):=dJ (Q.nice (by omega) (by omega));have ae:Hid (Tx.Im f):=dJ Q.im;clear Q ad hr af
  cases bw with
  | true =>
   have B:Hid (Tx.readP s=none):=dJ (by rw[y.out,pC fun q=>by cases q.1]);clear y
   go_enter func14, ntmps14
   go_wp2_with (first|(go_at_call 32;refine(u.out _).mono ?_;rintro e w0 ⟨rfl,rfl⟩)|(go_at_call 34;refine(O.out _ (U.out.gr L.out)).mono ?_;rintro e l ⟨v1,rfl,G,g1⟩;have M:=dJ g1;clear g1)|(go_at_call 33;refine(I.out _ _ _ (U.out.gr (L.out.trans M.out)) G.out).mono ?_;rintro e R ⟨v2,rfl,m,g2⟩;have H:Hid (Gr W R):=M.out.trans g2;obtain⟨vp,vs,vb,rfl,hp,hsl,hb⟩:=m.at;obtain⟨Ap,cp,rfl,-⟩:=hp;obtain⟨As,cs,rfl,-⟩:=hsl;obtain⟨Ab,cb,rfl,-⟩:=hb;clear g2 m r0 r1 r2 r3 f0 f1 f2 f3;obtain⟨W3,aa,j,A⟩:=dz R (.slice Ap f.params.length cp) (.int .i64 f.ret) (.slice As f.slots.length cs) (.slice Ab f.blocks.length cb);obtain⟨⟨r0,r1,r2,r3⟩,⟨f0,f1,f2,f3⟩⟩:=N.out W3 (H.out.trans j.out)))
   refine pA (dH _ _ 2 3 _ w.heap.size _ _ _ _ _ _ rfl rfl rfl (dw (J.out _ (H.out.trans j.out)) _ _ _ _) ⟨_,_,_,rfl⟩ ⟨_,rfl⟩ ⟨_,_,_,rfl⟩ ⟨_,_,_,rfl⟩) rfl ?_;exact X.out _ (H.out.trans j.out) B.out
  | false =>
   obtain⟨v,hv⟩:=xJ (Ref.validate f);have Z:=dJ hv
   have p:Hid (Tx.readP s=if v=0/\Tx.textS f=s then some f else none):=dJ (by
     rw[y.out,<-hv]
     by_cases q:Ref.validate f=0/\Tx.textS f=s
     · rw[pB ⟨rfl,q⟩,pB q]
     · rw[pC fun z=>q z.2,pC q])
   clear y hv;by_cases ab:v=0
   ·subst ab;obtain⟨z,hz⟩:=xJ (Tx.textS f);have ac:Hid (∀(v2:Value)(w9:World),FnAt w9.heap.size w9 v2 f->TabW w9->Calls prog 29 #[v2] w9 (RG (.string (bs z)) w9)):=dJ fun v2 w9 h t=>by rw[<-hz];exact fR v2 f w9 h Z.out ae.out t
    rw[hz]at p;clear hz;by_cases K:z=s
    ·have B:Hid (Tx.readP s=some f):=dJ (by rw[p.out,pB ⟨rfl,K⟩]);have e1:=dZ K;clear K p
     go_enter func14, ntmps14
     go_wp2_with (first|(go_at_call 32;refine(u.out _).mono ?_;rintro e w0 ⟨rfl,rfl⟩)|(go_at_call 34;refine(O.out _ (U.out.gr L.out)).mono ?_;rintro e l ⟨v1,rfl,G,g1⟩;have M:=dJ g1;clear g1)|(go_at_call 33;refine(I.out _ _ _ (U.out.gr (L.out.trans M.out)) G.out).mono ?_;rintro e R ⟨v2,rfl,m,g2⟩;have D:=dJ m;have H:Hid (Gr W R):=M.out.trans g2;obtain⟨vp,vs,vb,rfl,hp,hsl,hb⟩:=m.at;obtain⟨Ap,cp,rfl,-⟩:=hp;obtain⟨As,cs,rfl,-⟩:=hsl;obtain⟨Ab,cb,rfl,-⟩:=hb;clear g2 m r0 r1 r2 r3 f0 f1 f2 f3;obtain⟨W3,aa,j,A⟩:=dz R (.slice Ap f.params.length cp) (.int .i64 f.ret) (.slice As f.slots.length cs) (.slice Ab f.blocks.length cb);obtain⟨y0,y1,y2,y3⟩:=A.out W3 (qj _))|(go_at_call 28;refine(eP _ f _ (D.out.gr j.out).at HN.out).mono ?_;rintro e w3 ⟨rfl,g3⟩;have T:=dJ g3;have E:=Z.out;obtain⟨q0,q1,q2,q3⟩:=A.out w3 g3;clear g3)|(go_at_call 29;refine(ac.out _ _ (D.out.gr (j.out.trans T.out)).at (U.out.gr (L.out.trans (H.out.trans (j.out.trans T.out))))).mono ?_;rintro e w4 ⟨rfl,g4⟩;have G4:Hid (Gr W3 w4):=T.out.trans g4;obtain⟨p0,p1,p2,p3⟩:=A.out w4 G4.out;obtain⟨⟨r0,r1,r2,r3⟩,⟨f0,f1,f2,f3⟩⟩:=N.out w4 (H.out.trans (j.out.trans G4.out));clear g4))
     have g9:Gr W w4:=H.out.trans (j.out.trans G4.out);have hq:=J.out _ g9;refine pA (dH _ _ 2 3 _ w.heap.size _ _ _ _ _ _ rfl rfl rfl (dw hq _ _ _ _) ⟨_,_,_,rfl⟩ ⟨_,rfl⟩ ⟨_,_,_,rfl⟩ ⟨_,_,_,rfl⟩) rfl ?_;rw[B.out];refine⟨_,rfl,?_,?_⟩
     ·exact(D.out.gr (j.out.trans G4.out)) _ (dR hq _ _ _ _ (by decide)) (dR hq _ _ _ _ (by decide)) (dR hq _ _ _ _ (by decide)) (by simp)
     ·iterate 4 refine Gr.setCell ?_ (by show w.heap.size<=w.heap.size;omega) _
      exact L.out.trans g9
    ·have B:Hid (Tx.readP s=none):=dJ (by rw[p.out,pC fun q=>K q.2]);have e1:=eW K;clear K p
     go_enter func14, ntmps14
     go_wp2_with (first|(go_at_call 32;refine(u.out _).mono ?_;rintro e w0 ⟨rfl,rfl⟩)|(go_at_call 34;refine(O.out _ (U.out.gr L.out)).mono ?_;rintro e l ⟨v1,rfl,G,g1⟩;have M:=dJ g1;clear g1)|(go_at_call 33;refine(I.out _ _ _ (U.out.gr (L.out.trans M.out)) G.out).mono ?_;rintro e R ⟨v2,rfl,m,g2⟩;have D:=dJ m;have H:Hid (Gr W R):=M.out.trans g2;obtain⟨vp,vs,vb,rfl,hp,hsl,hb⟩:=m.at;obtain⟨Ap,cp,rfl,-⟩:=hp;obtain⟨As,cs,rfl,-⟩:=hsl;obtain⟨Ab,cb,rfl,-⟩:=hb;clear g2 m r0 r1 r2 r3 f0 f1 f2 f3;obtain⟨W3,aa,j,A⟩:=dz R (.slice Ap f.params.length cp) (.int .i64 f.ret) (.slice As f.slots.length cs) (.slice Ab f.blocks.length cb);obtain⟨y0,y1,y2,y3⟩:=A.out W3 (qj _))|(go_at_call 28;refine(eP _ f _ (D.out.gr j.out).at HN.out).mono ?_;rintro e w3 ⟨rfl,g3⟩;have T:=dJ g3;have E:=Z.out;obtain⟨q0,q1,q2,q3⟩:=A.out w3 g3;clear g3)|(go_at_call 29;refine(ac.out _ _ (D.out.gr (j.out.trans T.out)).at (U.out.gr (L.out.trans (H.out.trans (j.out.trans T.out))))).mono ?_;rintro e w4 ⟨rfl,g4⟩;have G4:Hid (Gr W3 w4):=T.out.trans g4;obtain⟨⟨r0,r1,r2,r3⟩,⟨f0,f1,f2,f3⟩⟩:=N.out w4 (H.out.trans (j.out.trans G4.out));clear g4))
     have g9:Gr W w4:=H.out.trans (j.out.trans G4.out);refine pA (dH _ _ 2 3 _ w.heap.size _ _ _ _ _ _ rfl rfl rfl (dw (J.out _ g9) _ _ _ _) ⟨_,_,_,rfl⟩ ⟨_,rfl⟩ ⟨_,_,_,rfl⟩ ⟨_,_,_,rfl⟩) rfl ?_;exact X.out _ g9 B.out
   ·have B:Hid (Tx.readP s=none):=dJ (by rw[p.out,pC fun q=>ab q.1]);have e1:(v != 0)=true:=by simpa using ab
    clear p
    go_enter func14, ntmps14
    go_wp2_with (first|(go_at_call 32;refine(u.out _).mono ?_;rintro e w0 ⟨rfl,rfl⟩)|(go_at_call 34;refine(O.out _ (U.out.gr L.out)).mono ?_;rintro e l ⟨v1,rfl,G,g1⟩;have M:=dJ g1;clear g1)|(go_at_call 33;refine(I.out _ _ _ (U.out.gr (L.out.trans M.out)) G.out).mono ?_;rintro e R ⟨v2,rfl,m,g2⟩;have D:=dJ m;have H:Hid (Gr W R):=M.out.trans g2;obtain⟨vp,vs,vb,rfl,hp,hsl,hb⟩:=m.at;obtain⟨Ap,cp,rfl,-⟩:=hp;obtain⟨As,cs,rfl,-⟩:=hsl;obtain⟨Ab,cb,rfl,-⟩:=hb;clear g2 m r0 r1 r2 r3 f0 f1 f2 f3;obtain⟨W3,aa,j,A⟩:=dz R (.slice Ap f.params.length cp) (.int .i64 f.ret) (.slice As f.slots.length cs) (.slice Ab f.blocks.length cb);obtain⟨y0,y1,y2,y3⟩:=A.out W3 (qj _))|(go_at_call 28;refine(eP _ f _ (D.out.gr j.out).at HN.out).mono ?_;rintro e w3 ⟨rfl,g3⟩;have T:=dJ g3;have E:=Z.out;obtain⟨⟨r0,r1,r2,r3⟩,⟨f0,f1,f2,f3⟩⟩:=N.out w3 (H.out.trans (j.out.trans T.out));clear g3))
    have g9:Gr W w3:=H.out.trans (j.out.trans T.out);refine pA (dH _ _ 2 3 _ w.heap.size _ _ _ _ _ _ rfl rfl rfl (dw (J.out _ g9) _ _ _ _) ⟨_,_,_,rfl⟩ ⟨_,rfl⟩ ⟨_,_,_,rfl⟩ ⟨_,_,_,rfl⟩) rfl ?_;exact X.out _ g9 B.out
 ·have B:Hid (Tx.readP s=none):=dJ (by rw[Y.out,pC F]);have u:Hid (∀l,Calls prog 32 #[.string (bs s),.string (bs [10])] l (RS (.tuple #[.string (bs s),.bool false]) l)):=dJ fun l=>by have:=V.out l;rwa [pC F,decide_eq_false F]at this
  clear V Y F
  go_enter func14, ntmps14
  go_wp2_with (go_at_call 32;refine(u.out _).mono ?_;rintro e w0 ⟨rfl,rfl⟩);refine pA (dH _ _ 2 3 _ w.heap.size _ _ _ _ _ _ rfl rfl rfl (dw (J.out _ (qj _)) _ _ _ _) ⟨_,_,_,rfl⟩ ⟨_,rfl⟩ ⟨_,_,_,rfl⟩ ⟨_,_,_,rfl⟩) rfl ?_;exact X.out _ (qj _) B.out

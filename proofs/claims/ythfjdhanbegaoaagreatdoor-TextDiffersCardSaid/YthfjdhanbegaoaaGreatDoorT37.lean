/- Parts. -/
import Derived.Test.YthfjdhanbegaoaaGreatDoorT36
set_option linter.unusedSimpArgs false
set_option linter.unusedVariables false
set_option maxRecDepth 100000
set_option maxHeartbeats 16000000
open Go.Proofs.Tryz
namespace Go.Proofs.YthfjdhanbegaoaaGreatDoor
open Go.RowKit
theorem qd (c:UInt8):∀s:List UInt8,(Tx.cut1 c s).1.length<=s.length/\(Tx.cut1 c s).2.1.length<=s.length
 | []=>by simp[Tx.cut1]
 | b::r=>by
  have h:=qd c r
  rw[Tx.cut1];split
  ·simp
  ·simp;omega
abbrev SR (R:Nat):Nat->Prop:=fun k=>k=R
def oh (w w':World)(R:Nat)(x:Ins)(b:Bool)(e:Ending):Prop :=
 ∃A3 c3 A5 c5,e=.returned (ef x (.slice A3 x.args.length c3) (.slice A5 x.to.length c5))/\TI w.heap.size w' (.slice A3 x.args.length c3) x.args/\TI w.heap.size w' (.slice A5 x.to.length c5) x.to/\FrR R w w'/\∃left',w'.heap[R]?=some (.cells #[left',.bool b] 91 (0,0))
theorem frw {R X:Nat}{w W wr:World}(hg:Gr w W)(hX:w.heap.size<=X)(h:FrS (fun k=>k=X\/SR R k) W wr):FrR R w wr :=
 pV (S:=fun k=>k=X\/k=R) ((pU hg).trans h) fun k hk q=>q.elim (fun q=>by omega) id
def jE (w:World)(R:Nat):Nat:=match w.cell? ⟨R,0,none⟩ with
 | some (.slice _ n _)=>n
 | _=>0
theorem RI.len {w₀ w:World}{R:Nat}{left:Value}{us:List (List UInt8)}{b:Bool}(h:RI w₀ w R left us b):jE w R=us.length:=by obtain⟨A,c,e,-⟩:=h.words;have k:=px _ _ 0 _ _ _ h.box;unfold jE;rw[k,e];rfl
theorem mc (R:Nat)(left:Value)(ws:List (List UInt8))(w:World)(ht:∀w',FrR R w w'->TabW w')(h:RdV w R left ws false)(hm:∀z∈ws,z.length<=90000) :
  Calls prog 68 #[.pointer (some ⟨R,0,none⟩)] w fun e w'=>oh w w' R (Tx.instP ws).1 (Tx.instP ws).2 e:=by
 obtain⟨i0,hi,bn,bo,bp⟩:=info_parts lL;obtain⟨Q,aG⟩:=h;obtain⟨A,c,rfl,bQ,bS,-⟩:=id aG;have a9:=dh Q;have HT:=dJ ht;have HM:=dJ hm;have ay:Hid (Tx.hasP ws=(decide (1<ws.length) && decide (ws.getD 1 []=[61]))):=dJ rfl
 have aH:Hid (Tx.instP ws=if Tx.hasP ws=true then Tx.restP ((ws.drop 2).tail.tail) { (Tx.nameP ((ws.drop 2).headD [])).1 with width:=(Tx.numP ((ws.drop 2).tail.headD [])).1} ((Tx.nameP ((ws.drop 2).headD [])).2 || (Tx.numP ((ws.drop 2).tail.headD [])).2)
   else Tx.restP ws.tail (Tx.nameP (ws.headD [])).1 (Tx.nameP (ws.headD [])).2):=dJ rfl
 obtain⟨hs,ae⟩:∃b,Hid (Tx.hasP ws=b):=⟨_,dJ rfl⟩;obtain⟨p,an⟩:∃p,Hid (p=if hs=true then ws.drop 2 else ws):=⟨_,dJ rfl⟩;have N:Hid (∀z∈p,z.length<=90000):=dJ fun z hz=>hm z (by rw[an.out]at hz;split at hz;exact List.mem_of_mem_drop hz;exact hz)
 have C:Hid (Tx.instP ws=if hs=true then Tx.restP p.tail.tail { (Tx.nameP (p.headD [])).1 with width:=(Tx.numP (p.tail.headD [])).1} ((Tx.nameP (p.headD [])).2 || (Tx.numP (p.tail.headD [])).2)
   else Tx.restP p.tail (Tx.nameP (p.headD [])).1 (Tx.nameP (p.headD [])).2):=dJ (by rw[aH.out,ae.out,an.out];cases hs<;>rfl)
 obtain⟨W,hW,aD,bj,bf,bg⟩:=jU w;have aC:W.heap[R]?=some (.cells #[.slice A ws.length c,.bool false] 91 (0,0)):=(aD.heap R a9).trans Q;have k0:=px _ _ 0 _ _ _ aC;have f0:=pz _ _ 0 _ _ aC;have aI:Hid (RI w W R (.slice A ws.length c) ws false):=dJ ⟨aC,aG,pU aD⟩;have a7:=dJ aG;have HG:=dJ aD;have al:=dJ bj;have bC:=dJ bf;have bD:=dJ bg;have F:Hid (R≠w.heap.size+1/\R≠w.heap.size):=dJ ⟨by omega,by omega⟩;have HS:Hid (∀k,SR R k->k<W.heap.size/\k≠w.heap.size+1):=dJ (by rintro k rfl;omega);clear Q aG aD bj bf bg aC ht hm aH
 go_enter func68, ntmps68
 go_upto_region 2 with (fail)
 go_cut [4] (fun s4 wx=>s4=.bool hs/\wx=W)
 case first =>
  by_cases h2:1<ws.length
  ·have hz:=oY h2;obtain⟨z,bq⟩:=xJ (ws[1]);rw[bq]at hz;obtain⟨b,bT,rfl,bN,hb,bR⟩:=(a7.out.fr (pU HG.out)).get hz;have z1:(1:Int)<(ws.length:Int):=by omega
   have hg:ws.getD 1 []=z:=by rw[pb,hz];rfl
   have HH:Hid (Tx.hasP ws=decide (z=[61])):=dJ (by rw[ay.out,hg];simp;omega);clear hz bq hg;by_cases ag:z=[61]
   ·have e1:=iq ag;have ai:Hid (Tx.hasP ws=true):=dJ (by rw[HH.out];simpa using ag);clear ag;go_wp2;go_meet;exact⟨by rw[<-ae.out,ai.out],rfl⟩
   ·have e1:=gm ag;have ai:Hid (Tx.hasP ws=false):=dJ (by rw[HH.out];simpa using ag);clear ag;go_wp2;go_meet;exact⟨by rw[<-ae.out,ai.out],rfl⟩
  ·have z2:decide ((1:Int)<(ws.length:Int))=false:=by simp;omega
   have ai:Hid (Tx.hasP ws=false):=dJ (by rw[ay.out];simp;omega);clear h2;go_wp2;go_meet;exact⟨by rw[<-ae.out,ai.out],rfl⟩
 case rest =>
  obtain⟨rfl,rfl⟩:=hcut;obtain⟨W,rfl⟩:∃W,W=wc:=⟨_,rfl⟩
  go_upto_if 28 with (fail)
  go_cut [] (fun wx=>∃A2 c2,Hid (RI w wx R (.slice A2 p.length c2) p false)/\Hid (FrR R W wx))
  case first =>
   cases hs with
   | true =>
    have aS:Hid (p=ws.drop 2):=dJ (by rw[an.out,pB rfl])
    have h2:2<=ws.length:=by have:=ay.out;rw[ae.out]at this;simp only[Bool.true_eq,pD,decide_eq_true_eq]at this;omega
    have hd:∀w:World,(Instr.slice 58 (.slice A ws.length c) (some (.int .i64 2)) none none).run prog w=.ok (.slice (dl A 2 c) (ws.length-2) (c-2)) w:=fun w=>fD w A ws.length c 2 h2;have a6:=dJ (a7.out.drop h2);obtain⟨A',a8⟩:=xJ (dl A 2 c);rw[a8]at a6 hd;clear a8;go_wp2;go_meet;exact⟨A',c-2,dJ (by rw[aS.out,List.length_drop];exact aI.out.setL a6.out),dJ (FrR.set _ _ (FrS.refl _ _))⟩
   | false =>
    have aS:Hid (p=ws):=dJ (by rw[an.out,pC (by decide)]);go_wp2;go_meet;exact⟨A,c,dJ (by rw[aS.out];exact aI.out),dJ (FrS.refl _ _)⟩
  case rest =>
   obtain⟨A2,c2,B,bz⟩:=hcut;have E:=dJ (fA R _ p false _ B.out.rd);obtain⟨z0,av⟩:=xJ (p.headD [])
   have U:z0.length<=90000:=by
    rw[<-av]
    cases p with
    | nil=>simp
    | cons a r=>exact N.out a (by simp)
   rw[av]at E C;obtain⟨nm,tl,hf,aB⟩:∃nm tl hf,Tx.cut1 46 z0=(nm,tl,hf):=⟨_,_,_,rfl⟩;have ap:=qd 46 z0;rw[aB]at ap;have bE:Hid (tl.length<=90000):=dJ (by have:=ap.2;simp only at this;omega);have bt:Hid (∀j,TabW j->Calls prog 109 #[.string (bs z0),.string (bs [46])] j (RG (.tuple #[.string (bs nm),.string (bs tl),.bool hf]) j)):=dJ fun j q=>by have:=nP 46 z0 U j q;rw[aB]at this;exact this
   have a0:Hid (∀j,Calls prog 19 #[.string (bs nm)] j (RG (.tuple #[.int .i64 (Tx.opOf nm).1,.int .i64 (ew nm)]) j)):=dJ fun j=>ix nm j
   have bx:∃fl b2,((hf=true/\Tx.numP tl=(fl,b2))\/(hf=false/\fl=0/\b2=false))/\Tx.nameP z0=(⟨(Tx.opOf nm).1,0,fl,[],0,[]⟩,(Tx.opOf nm).2 || b2):=by
    unfold Tx.nameP Tx.flagsP;rw[aB]
    cases hf with
    | true=>exact⟨_,_,.inl ⟨rfl,rfl⟩,rfl⟩
    | false=>exact⟨0,false,.inr ⟨rfl,rfl,rfl⟩,rfl⟩
   obtain⟨fl,b2,bc,aq⟩:=bx;have aX:=dJ bc;obtain⟨op,aU⟩:=xJ ((Tx.opOf nm).1);obtain⟨b1,m⟩:=xJ ((Tx.opOf nm).2);obtain⟨oe,aT⟩:=xJ (ew nm)
   have aZ:Hid ((oe=0/\b1=false)\/(oe=4/\b1=true)):=dJ (by
     rw[<-aT,<-m]
     unfold ew
     cases (Tx.opOf nm).2<;>simp)
   rw[aU,aT]at a0;rw[aq,aU,m]at C;clear av U aB ap bc aq aU m aT
   go_upto_region 8 with (first|(go_at_call 64;refine(E.out).mono ?_;rintro e j ⟨rfl,⟨d,l,m⟩,g1⟩;have t:=dJ (B.out.next l.out m.out g1);have bu:=dJ (FrS.trans bz.out g1);clear l m g1)|(go_at_call 109;refine(bt.out _ (HT.out _ t.out.fr)).mono ?_;rintro e w2 ⟨rfl,g2⟩;have a2:=dJ (t.out.gr g2);have bv:=dJ (FrS.trans bu.out (pU g2));clear g2)|(go_at_call 19;refine(a0.out _).mono ?_;rintro e w3 ⟨rfl,g3⟩;have a3:=dJ (a2.out.gr g3);have aW:=dJ (FrS.trans bv.out (pU g3));have aA:=(aW.out.block (w.heap.size+1) (by have:=al.out;omega) (by have:=F.out.1;show ¬w.heap.size+1=R;omega)).trans bD.out;have x0:=px _ _ 0 _ _ _ aA;have y0:=pz _ _ 0 _ _ aA;clear g3))
   have aK:Hid (BI (SR R) W (w3.setCell ⟨w.heap.size+1,0,none⟩ (.int .i64 op)) (w.heap.size+1) ⟨op,0,0,[],0,[]⟩ none 0 none 0):=dJ
    (Bx.put ⟨aW.out.mono fun k q=>.inr q,by have:=al.out;omega,aA,Own1.nil _ _ _,Own1.nil _ _ _,fun k h=>by cases h⟩ 0 (.int .i64 op) rfl)
   have M:=dJ (a3.out.set (X:=w.heap.size+1) (i:=0) (by omega) F.out.1 (.int .i64 op));obtain⟨wq,bm⟩:=xJ (w3.setCell ⟨w.heap.size+1,0,none⟩ (.int .i64 op));rw[bm]at aK M ⊢;have q1:=px _ _ 1 _ _ _ M.out.box;have bF:=pz _ _ 1 _ _ M.out.box;clear aA x0 y0 bm
   go_cut [] (fun wx=>Hid (RI w wx R d p.tail b1)/\Hid (BI (SR R) W wx (w.heap.size+1) ⟨op,0,0,[],0,[]⟩ none 0 none 0))
   case first =>
    rcases aZ.out with ⟨rfl,rfl⟩|⟨rfl,rfl⟩
    all_goals
     go_wp2;go_meet;exact⟨dJ (M.out.setW _),dJ (aK.out.step (FrR.set _ _ (FrS.refl _ _)) HS.out)⟩
   case rest =>
    obtain⟨L,aL⟩:=hcut;clear M aK q1 bF aZ
    go_upto_if 66 with (fail)
    go_cut [] (fun wx=>Hid (RI w wx R d p.tail (b1 || b2))/\Hid (BI (SR R) W wx (w.heap.size+1) ⟨op,0,fl,[],0,[]⟩ none 0 none 0))
    case first =>
     rcases aX.out with ⟨rfl,aq⟩|⟨rfl,rfl,rfl⟩
     ·have aj:=dJ (er R d p.tail b1 tl bE.out _ (HT.out _ L.out.fr) L.out.rd);have hq:=Tx.numP_ok tl;rw[aq]at aj hq;have y0:0<=fl:=hq.1;have y1:fl<4294967296:=hq.2;clear aq hq;go_wp2_with (go_at_call 108;refine(aj.out).mono ?_;rintro e w5 ⟨rfl,bh,g5⟩;have a4:=dJ (L.out.num bh g5);have aM:=dJ (aL.out.step g5 HS.out);have x2:=px _ _ 2 _ _ _ aM.out.box;have y2:=pz _ _ 2 _ _ aM.out.box;clear bh g5);go_meet;exact⟨dJ (a4.out.set (by omega) F.out.1 _),dJ (aM.out.put 2 (.int .i64 fl) rfl)⟩
     ·go_wp2;go_meet;exact⟨dJ (by rw[Bool.or_false];exact L.out),aL⟩
    case rest =>
     obtain⟨ad,aN⟩:=hcut;clear L aL aX
     go_upto_if 72 with (fail)
     go_cut [] (fun wx=>∃ab ah x b,Hid (RI w wx R ab ah b)/\Hid (BI (SR R) W wx (w.heap.size+1) x none 0 none 0)/\Hid (Tx.instP ws=Tx.restP ah x b)/\x.args=[]/\x.to=[]/\Hid (∀z∈ah,z.length<=90000))
     case first =>
      cases hs with
      | true =>
       have E:=dJ (fA R _ p.tail _ _ ad.out.rd);obtain⟨z1,aw⟩:=xJ (p.tail.headD [])
       have U:z1.length<=90000:=by
        rw[<-aw]
        cases hq:p.tail with
        | nil=>simp
        | cons a r=>exact N.out a (List.mem_of_mem_tail (by rw[hq];simp))
       rw[aw]at E C;have aj:Hid (∀(left:Value)(b:Bool)(H:World),RI w H R left p.tail.tail b->Calls prog 108 #[.pointer (some ⟨R,0,none⟩),.string (bs z1)] H fun e w'=>e=.returned (.int .u32 (Tx.numP z1).1)/\RdV w' R left p.tail.tail (b || (Tx.numP z1).2)/\FrR R H w'):=dJ fun left b H hr=>er R left p.tail.tail b z1 U H (HT.out _ hr.fr) hr.rd;have hq:=Tx.numP_ok z1;obtain⟨wd,bl⟩:=xJ ((Tx.numP z1).1);rw[bl]at aj hq C;have y0:0<=wd:=hq.1;have y1:wd<4294967296:=hq.2;clear aw U hq bl
       go_wp2_with (first|(go_at_call 64;refine(E.out).mono ?_;rintro e H ⟨rfl,⟨aV,l,m⟩,g7⟩;have aJ:=dJ (ad.out.next l.out m.out g7);have br:=dJ (aN.out.step g7 HS.out);clear l m g7)|(go_at_call 108;refine(aj.out _ _ _ aJ.out).mono ?_;rintro e w8 ⟨rfl,D,Y⟩;have y:=dJ (aJ.out.num D Y);have g:=dJ (br.out.step Y HS.out);have x2:=px _ _ 1 _ _ _ g.out.box;have y2:=pz _ _ 1 _ _ g.out.box;clear D Y))
       go_meet;exact⟨aV,p.tail.tail,⟨op,wd,fl,[],0,[]⟩,_,dJ (y.out.set (by omega) F.out.1 _),dJ (g.out.put 1 (.int .i64 wd) rfl),dJ (by rw[C.out,pB trivial]),rfl,rfl,dJ fun z hz=>N.out z (List.mem_of_mem_tail (List.mem_of_mem_tail hz))⟩
      | false =>
       go_wp2;go_meet;exact⟨_,_,_,_,ad,aN,dJ (by rw[C.out,pC (by decide)]),rfl,rfl,dJ fun z hz=>N.out z (List.mem_of_mem_tail hz)⟩
     case rest =>
      obtain⟨ab,ah,x0,bb,B,HB,af,bL,bM,a5⟩:=hcut
      have bk:ah.length<=100000:=by obtain⟨_,_,_,_,q,_⟩:=B.out.words;exact q
      clear ad aN C N an ay ae;go_wp2
      go_loopw [10] (fun _ wr=>∃(left:Value)(p:List (List UInt8))(x:Ins)(b:Bool)(A3:Option Addr)(c3:Nat)(A5:Option Addr)(c5:Nat),Hid (RI w wr R left p b)/\Hid (BI (SR R) W wr (w.heap.size+1) x A3 c3 A5 c5)/\Hid (Tx.instP ws=Tx.restP p x b)/\x.args.length+p.length<=100000/\x.to.length+p.length<=100000/\Hid (∀z∈p,z.length<=90000)) (fun _ wr=>jE wr R)
      case atStart=>exact⟨ab,ah,x0,bb,none,0,none,0,B,HB,af,by rw[bL];simpa using bk,by rw[bM];simpa using bk,a5⟩
      case round =>
       obtain⟨left,p,x,b,A3,c3,A5,c5,B,HB,af,bG,bH,N⟩:=hrel;have Q:=B.out.box;obtain⟨A,c,rfl,-,-,-⟩:=id B.out.words;have r0:=px _ _ 0 _ _ _ Q
       cases p with
       | nil =>
        rw[List.length_nil]at r0;have HF:Hid (Tx.instP ws=(x,b)):=dJ (by rw[af.out];rfl);have ba:=HB.out.box;obtain⟨k0,k1,k2,k3,k4,k5⟩:=crw6 ba 0 1 2 3 4 5
        have aF:=(HB.out.fr.block w.heap.size (by have:=al.out;omega) (by rintro (e|e);· omega
                                                                          · exact F.out.2 e.symm)).trans bC.out
        obtain⟨s0,s1,s2,s3,s4,s5⟩:=crw6 aF 0 1 2 3 4 5;obtain⟨f0,f1,f2,f3,f4,f5⟩:=frw6 aF 0 1 2 3 4 5;have aR:=dJ aF;have ta:=dJ ((HB.out.o1.ti (by omega)).lower (n₀:=w.heap.size) (by have:=al.out;omega));have tt:=dJ ((HB.out.o2.ti (by omega)).lower (n₀:=w.heap.size) (by have:=al.out;omega));have bw:Hid (FrR R w wr):=dJ (frw HG.out (by omega) HB.out.fr);have a1:=dJ Q;rw[HF.out];clear aF ba Q af;go_wp2;refine pA (fS _ _ 2 _ w.heap.size _ _ _ _ _ _ _ rfl rfl (hO aR.out _ _ _ _ _ _) ⟨_,rfl⟩ ⟨_,rfl⟩ ⟨_,rfl⟩ ⟨_,_,_,rfl⟩ ⟨_,rfl⟩ ⟨_,_,_,rfl⟩) rfl ?_;rw[HF.out];refine⟨A3,c3,A5,c5,rfl,kc aR.out ta.out (by decide) _ _ _ _ _ _,kc aR.out tt.out (by decide) _ _ _ _ _ _,?_,.slice A ([]:List (List UInt8)).length c,?_⟩
        ·refine pV (S:=fun k=>k=R\/k=w.heap.size) ?_ fun k hk q=>q.elim id fun q=>by omega
         iterate 6 refine FrS.setCell ?_ (Or.inr rfl) _
         exact bw.out.mono fun k q=>.inl q
        ·iterate 6 refine(Below.heap_setCell _ _ _ _ (by show R≠w.heap.size;exact F.out.2)).trans ?_
         exact a1.out
       | cons z r =>
        have E:Hid (Calls prog 64 #[.pointer (some ⟨R,0,none⟩)] wr fun e w'=>e=.returned (.string (bs z))/\(∃ax,Hid (∀bO,WordsX R bO (.slice A (z::r).length c) (z::r)->WordsX R bO ax r)/\Hid (w'.heap[R]?=some (.cells #[ax,.bool b] 91 (0,0))))/\FrR R wr w'):=dJ (fA R _ (z::r) b wr B.out.rd);have U:=N.out z (by simp);have am:Hid (∀z∈r,z.length<=90000):=dJ fun q hq=>N.out q (by simp[hq]);have bi:(z::r).length=r.length+1:=rfl;have ac:=B.out.len;rw[bi]at r0 bG bH ac;obtain⟨n,hn⟩:∃n,n=r.length+1:=⟨_,rfl⟩;rw[<-hn]at r0;have n0:(0:Int)<(n:Int):=by omega
        obtain⟨u,hu⟩:=xJ (bs z);have HU:=dJ hu;have I:Hid (∀j,Calls prog 110 #[.string u,.string (bs [35])] j (RS (.bool (decide (z.head?=some 35))) j)):=dJ fun j=>by rw[<-hu];exact gX 35 z j
        have J:Hid (∀j,Calls prog 110 #[.string u,.string (bs [64])] j (RS (.bool (decide (z.head?=some 64))) j)):=dJ fun j=>by rw[<-hu];exact gX 64 z j
        have aY:Hid (∀(left:Value)(b:Bool)(H:World),RI w H R left r b->Calls prog 108 #[.pointer (some ⟨R,0,none⟩),.string u] H fun e w'=>e=.returned (.int .u32 (Tx.numP z).1)/\RdV w' R left r (b || (Tx.numP z).2)/\FrR R H w'):=dJ fun left b H hr=>by rw[<-hu];exact er R left r b z U H (HT.out _ hr.fr) hr.rd
        have aO:Hid (∀(left:Value)(b:Bool)(H:World),RI w H R left r b->Calls prog 108 #[.pointer (some ⟨R,0,none⟩),.string (u.extract 1 u.size)] H fun e w'=>e=.returned (.int .u32 (Tx.numP z.tail).1)/\RdV w' R left r (b || (Tx.numP z.tail).2)/\FrR R H w'):=dJ fun left b H hr=>by rw[hP hu];exact er R left r b z.tail (by simp;omega) H (HT.out _ hr.fr) hr.rd
        have HZ:Hid (Tx.instP ws=if z.head?=some 35 then Tx.restP r ⟨x.op,x.width,x.flags,x.args,(Tx.numP z.tail).1,x.to⟩ (b || (Tx.numP z.tail).2)
          else if z.head?=some 64 then Tx.restP r ⟨x.op,x.width,x.flags,x.args,x.imm,x.to++[(Tx.numP z.tail).1]⟩ (b || (Tx.numP z.tail).2)
          else Tx.restP r ⟨x.op,x.width,x.flags,x.args++[(Tx.numP z).1],x.imm,x.to⟩ (b || (Tx.numP z).2)):=dJ (by rw[af.out];rfl)
        have l:=Tx.numP_ok z;have aE:=Tx.numP_ok z.tail;obtain⟨m1,bd⟩:=xJ ((Tx.numP z).1);obtain⟨m2,be⟩:=xJ ((Tx.numP z.tail).1);rw[bd]at aY HZ l;rw[be]at aO HZ aE;have y0:0<=m1:=l.1;have y1:m1<4294967296:=l.2;have y2:0<=m2:=aE.1;have y3:m2<4294967296:=aE.2;have bJ:IntKind.i64.wrap m1=m1:=IntKind.wrap_i64 _ |>.trans (by omega);have bK:IntKind.i64.wrap m2=m2:=IntKind.wrap_i64 _ |>.trans (by omega);have bA:Hid ((dF x.args).length=x.args.length):=dJ (dM _);have bB:Hid ((dF x.to).length=x.to.length):=dJ (dM _);have mixed:(prog).follows .mixedOrders=true:=by kernel_rfl
        have au:z.length=u.size:=by rw[<-hu,dv]
        rw[hu]at E;have bP:=dJ hn;clear Q U bi l aE bd be hn af;by_cases G:z.head?=some 35
        ·have ao:Hid (Tx.instP ws=Tx.restP r ⟨x.op,x.width,x.flags,x.args,m2,x.to⟩ (b || (Tx.numP z.tail).2)):=dJ (by rw[HZ.out,pB G])
         have bI:(1:Int)<=(u.size:Int):=by rw[<-au];cases z<;>simp at G ⊢;omega
         have az:Hid (∀j,Calls prog 110 #[.string u,.string (bs [35])] j (RS (.bool true) j)):=dJ (by have:=I.out;rw[decide_eq_true G]at this;exact this);clear HZ I J G hu au
         go_wp2_with (first|(go_at_call 64;refine(E.out).mono ?_;rintro e j ⟨rfl,⟨d,l,m⟩,g1⟩;have t:=dJ (B.out.next l.out m.out g1);have V:=dJ (HB.out.step g1 HS.out);clear l m g1)|(go_at_call 110;refine(az.out _).mono ?_;rintro e w2 ⟨rfl,rfl⟩)|(go_at_call 108;refine(aO.out _ _ _ t.out).mono ?_;rintro e w8 ⟨rfl,D,Y⟩;have y:=dJ (t.out.num D Y);have g:=dJ (V.out.step Y HS.out);have x2:=px _ _ 4 _ _ _ g.out.box;have x3:=pz _ _ 4 _ _ g.out.box;clear D Y))
         have K:=dJ (y.out.set (X:=w.heap.size+1) (i:=4) (by omega) F.out.1 (.int .u32 m2));go_roundw;case rel=>exact⟨d,r,⟨x.op,x.width,x.flags,x.args,m2,x.to⟩,_,A3,c3,A5,c5,K,dJ (g.out.put 4 (.int .u32 m2) rfl),ao,by show x.args.length+_<=_;omega,by show x.to.length+_<=_;omega,am⟩
         case measure=>rw[K.out.len,ac];exact Nat.lt_succ_self _
        ·have az:Hid (∀j,Calls prog 110 #[.string u,.string (bs [35])] j (RS (.bool false) j)):=dJ (by have:=I.out;rw[decide_eq_false G]at this;exact this);by_cases Z:z.head?=some 64
         ·have ao:Hid (Tx.instP ws=Tx.restP r ⟨x.op,x.width,x.flags,x.args,x.imm,x.to++[m2]⟩ (b || (Tx.numP z.tail).2)):=dJ (by rw[HZ.out,pC G,pB Z])
          have bI:(1:Int)<=(u.size:Int):=by rw[<-au];cases z<;>simp at Z ⊢;omega
          have aP:Hid (∀j,Calls prog 110 #[.string u,.string (bs [64])] j (RS (.bool true) j)):=dJ (by have:=J.out;rw[decide_eq_true Z]at this;exact this);clear HZ I J G Z hu au
          go_wp2_with (first|(go_at_call 64;refine(E.out).mono ?_;rintro e j ⟨rfl,⟨d,l,m⟩,g1⟩;have t:=dJ (B.out.next l.out m.out g1);have V:=dJ (HB.out.step g1 HS.out);have q5:=px _ _ 5 _ _ _ V.out.box;clear l m g1)|(go_at_call 110;first|(refine(az.out _).mono ?_;rintro e w2 ⟨rfl,rfl⟩)|(refine(aP.out _).mono ?_;rintro e w2 ⟨rfl,rfl⟩)))
          go_region_law_o (first|(refine eo (n:=x.to.length) (v:=.slice A5 x.to.length c5) underlying22 hi bn bo bp rfl (by omega) rfl (.tmp 113) (.tmp 119) rfl bB.out rfl g.out.o2 rfl rfl (by omega) g.out.fr.size ?_;intro A9 c9 w9 ar aa O;have HP:=dJ (g.out.swap.push (qj _) ar aa O 5 rfl);have x0:=px _ _ 5 _ _ _ HP.out.1;have x1:=pz _ _ 5 _ _ HP.out.1;have aQ:=dJ (dC (T:=91) g.out.o2 aa (by decide) _ _ y.out.box);clear ar aa O)|(refine dY rfl (f:=108) (args:=#[.pointer (some ⟨R,0,none⟩),.string (u.extract 1 u.size)]) (by simp[go_sem,Act.eval,Act.put]) ((aO.out _ _ _ (t.out.gr (qj j).drew)).mono ?_);rintro e8 w8 ⟨rfl,D,Y⟩;have y:=dJ ((t.out.gr (qj j).drew).num D Y);have g:=dJ ((V.out.gr (qj j).drew).step Y HS.out);have p5:=px _ _ 5 _ _ _ g.out.box;have P5:=fun o=>px (w8.alloc o) _ 5 _ _ _ (g.out.gr ((qj _).alloc o)).box;clear D Y;refine⟨_,rfl,?_⟩))
          all_goals go_wp2
          all_goals have K:RI w _ R d r _:=⟨(Below.heap_setCell _ _ _ _ (by show R≠w.heap.size+1;exact F.out.1)).trans aQ.out,y.out.words,frw HG.out (by omega) HP.out.2.fr⟩
          all_goals have e9:(x.to++[m2]).length=x.to.length+1:=pT
          all_goals have ak:=HP.out.2.swap
          all_goals try rw[bK]at ak
          all_goals exact⟨⟨d,r,⟨x.op,x.width,x.flags,x.args,x.imm,x.to++[m2]⟩,_,A3,c3,A9,c9,dJ K,dJ (by change Bx _ _ _ _ _ #[_,_,_,_,_,.slice A9 (x.to++[m2]).length c9] _ _ (.slice A9 (x.to++[m2]).length c9) _;rw[e9];exact ak),ao,by show x.args.length+_<=_;omega,by show (x.to++[m2]).length+_<=_;rw[pT,List.length_singleton];omega,am⟩,by rw[K.len,ac];exact Nat.lt_succ_self _⟩
         ·have ao:Hid (Tx.instP ws=Tx.restP r ⟨x.op,x.width,x.flags,x.args++[m1],x.imm,x.to⟩ (b || (Tx.numP z).2)):=dJ (by rw[HZ.out,pC G,pC Z]);have aP:Hid (∀j,Calls prog 110 #[.string u,.string (bs [64])] j (RS (.bool false) j)):=dJ (by have:=J.out;rw[decide_eq_false Z]at this;exact this);clear HZ I J G Z hu au
          go_wp2_with (first|(go_at_call 64;refine(E.out).mono ?_;rintro e j ⟨rfl,⟨d,l,m⟩,g1⟩;have t:=dJ (B.out.next l.out m.out g1);have V:=dJ (HB.out.step g1 HS.out);have q5:=px _ _ 3 _ _ _ V.out.box;clear l m g1)|(go_at_call 110;first|(refine(az.out _).mono ?_;rintro e w2 ⟨rfl,rfl⟩)|(refine(aP.out _).mono ?_;rintro e w2 ⟨rfl,rfl⟩)))
          go_region_law_o (first|(refine eo (n:=x.args.length) (v:=.slice A3 x.args.length c3) underlying22 hi bn bo bp rfl (by omega) rfl (.tmp 93) (.tmp 98) rfl bA.out rfl g.out.o1 rfl rfl (by omega) g.out.fr.size ?_;intro A9 c9 w9 ar aa O;have HP:=dJ (g.out.push (qj _) ar aa O 3 rfl);have x0:=px _ _ 3 _ _ _ HP.out.1;have x1:=pz _ _ 3 _ _ HP.out.1;have aQ:=dJ (dC (T:=91) g.out.o1 aa (by decide) _ _ y.out.box);clear ar aa O)|(refine dY rfl (f:=108) (args:=#[.pointer (some ⟨R,0,none⟩),.string u]) (by simp[go_sem,Act.eval,Act.put]) ((aY.out _ _ _ (t.out.gr (qj j).drew)).mono ?_);rintro e8 w8 ⟨rfl,D,Y⟩;have y:=dJ ((t.out.gr (qj j).drew).num D Y);have g:=dJ ((V.out.gr (qj j).drew).step Y HS.out);have p5:=px _ _ 3 _ _ _ g.out.box;have P5:=fun o=>px (w8.alloc o) _ 3 _ _ _ (g.out.gr ((qj _).alloc o)).box;clear D Y;refine⟨_,rfl,?_⟩))
          all_goals go_wp2
          all_goals have K:RI w _ R d r _:=⟨(Below.heap_setCell _ _ _ _ (by show R≠w.heap.size+1;exact F.out.1)).trans aQ.out,y.out.words,frw HG.out (by omega) HP.out.2.fr⟩
          all_goals have e9:(x.args++[m1]).length=x.args.length+1:=pT
          all_goals have ak:=HP.out.2
          all_goals try rw[bJ]at ak
          all_goals exact⟨⟨d,r,⟨x.op,x.width,x.flags,x.args++[m1],x.imm,x.to⟩,_,A9,c9,A5,c5,dJ K,dJ (by change Bx _ _ _ _ _ #[_,_,_,.slice A9 (x.args++[m1]).length c9,_,_] (.slice A9 (x.args++[m1]).length c9) _ _ _;rw[e9];exact ak),ao,by show (x.args++[m1]).length+_<=_;rw[pT,List.length_singleton];omega,by show x.to.length+_<=_;omega,am⟩,by rw[K.len,ac];exact Nat.lt_succ_self _⟩

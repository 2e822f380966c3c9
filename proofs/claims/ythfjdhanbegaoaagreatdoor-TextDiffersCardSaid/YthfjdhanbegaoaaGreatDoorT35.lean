/- Parts. -/
import Derived.Test.YthfjdhanbegaoaaGreatDoorT34
set_option linter.unusedSimpArgs false
set_option linter.unusedVariables false
set_option maxRecDepth 100000
set_option maxHeartbeats 16000000
open Go.Proofs.Tryz
namespace Go.Proofs.YthfjdhanbegaoaaGreatDoor
section
open Go.RowKit
def oj (w w':World)(x:Ins)(e:Ending):Prop :=
 ∃A3 c3 A5 c5,e=.returned (ef x (.slice A3 x.args.length c3) (.slice A5 x.to.length c5))/\TI w.heap.size w' (.slice A3 x.args.length c3) x.args/\TI w.heap.size w' (.slice A5 x.to.length c5) x.to/\Gr w w'
abbrev ov (x:Ins)(A3:Option Addr)(c3:Nat)(A5:Option Addr)(c5:Nat):Array Value:=#[.int .i64 x.op,.int .i64 x.width,.int .i64 x.flags,.slice A3 x.args.length c3,.int .u32 x.imm,.slice A5 x.to.length c5]
abbrev BI (S:Nat->Prop)(W1 wr:World)(X:Nat)(x:Ins)(A3:Option Addr)(c3:Nat)(A5:Option Addr)(c5:Nat):Prop:=Bx S W1 wr X 50 (ov x A3 c3 A5 c5) (.slice A3 x.args.length c3) x.args (.slice A5 x.to.length c5) x.to
theorem ml (s:List UInt8)(hsl:s.length<=90000)(w:World) :
  Calls prog 39 #[.string (bs s)] w fun e w'=>oj w w' (Tx.instR (Tx.cutS 32 s)) e:=by
 obtain⟨i0,hi,a2,a3,a4⟩:=info_parts lL;have al:Hid ((Tx.cutS 32 s).length<=90001):=dJ (by have:=Tx.cutS_len 32 s;omega);have aH:Hid (Tx.cutS 32 s≠[]):=dJ (Tx.cutS_ne 32 s);have am:Hid (∀z∈Tx.cutS 32 s,z.length<=90000):=dJ fun z p=>by have:=Tx.cutS_mem 32 s z p;omega
 have HC:Hid (∀B,Calls prog 37 #[.string (bs s),.int .u8 32] B fun e w'=>∃v,e=.returned v/\Hid (WordsF B.heap.size w' v (Tx.cutS 32 s))/\Gr B w'):=fun B=>eJ 32 32 rfl s hsl B;obtain⟨d,aY⟩:=xJ (Tx.cutS 32 s);rw[aY]at al aH am HC ⊢;have M:=dJ (Tx.instR_loop d);have aF:Hid (1<=(Tx.usR d).length):=dJ (Tx.usR_ne aH.out);have R:Hid (Tx.usR d=if Tx.hasR d=true then d.drop 2 else d):=dJ rfl;have ad:Hid (Tx.hasR d=(decide (2<d.length) && decide (d.getD 1 []=[61]))):=dJ rfl;obtain⟨E,F⟩:∃b,Hid (Tx.hasR d=b):=⟨_,dJ rfl⟩;have aj:Hid (∀z∈Tx.usR d,z.length<=90000):=dJ fun z p=>am.out z (by rw[R.out]at p;split at p;exact List.mem_of_mem_drop p;exact p);have T:Hid ((Tx.usR d).length<=90001):=dJ (by have:=al.out;rw[R.out];split;rw[List.length_drop];omega;omega);obtain⟨W,hW,aK,aV,aT,aU⟩:=jU w;have HG:=dJ aK;have O:=dJ aV;have bc:=dJ aT;have bd:=dJ aU;clear aY aK aV aT aU
 go_enter func39, ntmps39
 go_upto_region 3 with (go_at_call 37;refine(HC.out _).mono ?_;rintro e B ⟨v,rfl,U,g1⟩;have G1:=dJ g1;clear g1;obtain⟨A,c,hv,bu,-,-⟩:=id U.out;subst hv)
 go_cut [5] (fun s5 wx=>s5=.bool E/\wx=B)
 case first =>
  by_cases h2:2<d.length
  ·have p:=oY (show 1<d.length by omega);obtain⟨z,t⟩:=xJ (d[1]);rw[t]at p;obtain⟨b,a5,rfl,-,hb,Y⟩:=U.out.get p;have z2:(2:Int)<(d.length:Int):=by omega
   have z1:(1:Int)<(d.length:Int):=by omega
   have hg:d.getD 1 []=z:=by rw[pb,p];rfl
   have HH:Hid (Tx.hasR d=decide (z=[61])):=dJ (by rw[ad.out,hg];simp;omega);clear p t hg;by_cases J:z=[61]
   ·have e1:=iq J;have L:Hid (Tx.hasR d=true):=dJ (by rw[HH.out];simpa using J);clear J;go_wp2;go_meet;exact⟨by rw[<-F.out,L.out],rfl⟩
   ·have e1:=gm J;have L:Hid (Tx.hasR d=false):=dJ (by rw[HH.out];simpa using J);clear J;go_wp2;go_meet;exact⟨by rw[<-F.out,L.out],rfl⟩
  ·have z2:decide ((2:Int)<(d.length:Int))=false:=by simp;omega
   have L:Hid (Tx.hasR d=false):=dJ (by rw[ad.out];simp;omega);clear h2;go_wp2;go_meet;exact⟨by rw[<-F.out,L.out],rfl⟩
 case rest =>
  obtain⟨rfl,rfl⟩:=hcut
  go_upto_if 20 with (fail)
  go_cut [4] (fun s4 wx=>∃A c,s4=.slice A (Tx.usR d).length c/\Hid (WordsF W.heap.size wc (.slice A (Tx.usR d).length c) (Tx.usR d))/\wx=wc)
  case first =>
   cases E with
   | true =>
    have Q:Hid (Tx.usR d=d.drop 2):=dJ (by rw[R.out,pB F.out])
    have h2:2<=d.length:=by have:=ad.out;rw[F.out]at this;simp only[Bool.true_eq,pD,decide_eq_true_eq]at this;omega
    have hd:∀w:World,(Instr.slice 58 (.slice A d.length c) (some (.int .i64 2)) none none).run prog w=.ok (.slice (dl A 2 c) (d.length-2) (c-2)) w:=fun w=>fD w A d.length c 2 h2;have aG:=dJ (U.out.drop h2);obtain⟨A',aI⟩:=xJ (dl A 2 c);rw[aI]at aG hd;clear aI;go_wp2;go_meet;exact⟨A',c-2,by rw[Q.out,List.length_drop],dJ (by rw[Q.out,List.length_drop];exact aG.out),rfl⟩
   | false =>
    have Q:Hid (Tx.usR d=d):=dJ (by rw[R.out,pC (by rw[F.out];decide)]);go_wp2;go_meet;exact⟨A,c,by rw[Q.out],dJ (by rw[Q.out];exact U.out),rfl⟩
  case rest =>
   obtain⟨A4,c4,rfl,an,rfl⟩:=hcut;obtain⟨g,aW⟩:=xJ (Tx.usR d);rw[aW]at aF aj T M an ⊢;rw[F.out]at M;clear aW R ad U am al HC;have ay:0<g.length:=aF.out;have p:=oY ay;obtain⟨z0,t⟩:=xJ (g[0]);rw[t]at p;obtain⟨b,a5,rfl,-,hb,Y⟩:=an.out.get p;rw[Nat.add_zero]at Y;have ac:=aj.out z0 (pa p)
   have aL:g.headD []=z0:=by
    cases g with
    | nil=>simp at ay
    | cons q r=>simpa using t
   have aA:Hid (∀B,Calls prog 37 #[.string (bs z0),.int .u8 46] B fun e w'=>∃v,e=.returned v/\Hid (WordsF B.heap.size w' v (Tx.cutS 46 z0))/\Gr B w'):=fun B=>eJ 46 46 rfl z0 ac B;have H:Hid (Tx.nameR (g.headD [])=⟨(Tx.opOf ((Tx.cutS 46 z0).headD [])).1,0,if 1<(Tx.cutS 46 z0).length then Tx.numR ((Tx.cutS 46 z0).getD 1 []) else 0,[],0,[]⟩):=dJ (by rw[aL];rfl);have aD:Hid (∀z∈Tx.cutS 46 z0,z.length<=90000):=dJ fun z p=>by have:=Tx.cutS_mem 46 z0 z p;omega
   have bb:Hid ((Tx.cutS 46 z0).length<=90001):=dJ (by have:=Tx.cutS_len 46 z0;omega);have aB:Hid (0<(Tx.cutS 46 z0).length):=dJ (List.length_pos_iff.2 (Tx.cutS_ne 46 z0));obtain⟨nm,aR⟩:=xJ (Tx.cutS 46 z0);rw[aR]at aA H aD bb aB;have aQ:=aB.out;have hy:=oY aQ;obtain⟨n0,K⟩:=xJ (nm[0]);rw[K]at hy;have HY:=dJ hy
   have aM:nm.headD []=n0:=by
    cases nm with
    | nil=>simp at aQ
    | cons q r=>simpa using K
   rw[aM]at H;have aE:Hid (∀B,Calls prog 20 #[.string (bs n0)] B (RG (.tuple #[.int .i64 (Tx.opOf n0).1,.int .i64 (ew n0)]) B)):=dJ fun B=>mh n0 B;obtain⟨op,ax⟩:=xJ ((Tx.opOf n0).1);obtain⟨oe,aS⟩:=xJ (ew n0);rw[ax,aS]at aE;rw[ax]at H;clear p t ac aL aR hy K aM ax aS
   go_upto_if 37 with (first
     | (go_at_call 37;refine(aA.out _).mono ?_;rintro e I ⟨v2,rfl,ak,g2⟩;have G2:=dJ g2;clear g2;obtain⟨A6,c6,bk,bv,-,-⟩:=id ak.out;subst bk;obtain⟨b6,a6,bh,-,br,bj⟩:=ak.out.get HY.out;subst bh;rw[Nat.add_zero]at bj)
     | (go_at_call 20;refine(aE.out _).mono ?_;rintro e w3 ⟨rfl,g3⟩;have G3:=dJ (G2.out.trans g3);have bf:=dJ (ak.out.gr g3);
         have a7:Hid (Gr W w3):=dJ (G1.out.trans G3.out);
         have V:=(a7.out.heap _ (by have:=O.out;omega)).trans bd.out;
         have x0:=px _ _ 0 _ _ _ V;have y0:=pz _ _ 0 _ _ V;clear g3))
   have G:Hid (BI (fun _=>False) w3 (w3.setCell ⟨w.heap.size+1,0,none⟩ (.int .i64 op)) (w.heap.size+1) ⟨op,0,0,[],0,[]⟩ none 0 none 0):=dJ
    (Bx.put ⟨FrS.refl _ _,dh V,V,Own1.nil _ _ _,Own1.nil _ _ _,fun k h=>by cases h⟩ 0 (.int .i64 op) rfl)
   obtain⟨wq,aX⟩:=xJ (w3.setCell ⟨w.heap.size+1,0,none⟩ (.int .i64 op));rw[aX]at G ⊢;clear V x0 y0 aX
   go_cut [] (fun wx=>Hid (BI (fun _=>False) w3 wx (w.heap.size+1) (Tx.nameR (g.headD [])) none 0 none 0))
   case first =>
    by_cases h1:1<nm.length
    ·have hy:=oY h1;obtain⟨n1,K⟩:=xJ (nm[1]);rw[K]at hy;obtain⟨b7,bo,aq,q7,bi,ag⟩:=bf.out.get hy;injection aq with aq;injection aq with e1 e2 _;subst e1;subst e2;have bw:wq.cell? ⟨b6,a6+1,none⟩=some (.string (bs n1)):=(eL (G.out.fr.block b6 bi (by have:=O.out;have:=G1.out.size;rintro (e|e)<;>omega)) _).trans ag;have aC:Hid (∀I,Calls prog 70 #[.string (bs n1)] I (RS (.int .i64 (Tx.numR n1)) I)):=dJ fun I=>eK n1 (aD.out n1 (pa hy)) I;have hg:nm.getD 1 []=n1:=by rw[pb,hy];rfl
     obtain⟨fl,au⟩:=xJ (Tx.numR n1);have HE:Hid (Tx.nameR (g.headD [])=⟨op,0,fl,[],0,[]⟩):=dJ (by rw[H.out,pB h1,hg,au]);rw[au]at aC;have z1:(1:Int)<(nm.length:Int):=by omega
     have x2:=px _ _ 2 _ _ _ G.out.box;have y2:=pz _ _ 2 _ _ G.out.box;have a8:=dJ (G.out.put 2 (.int .i64 fl) rfl);clear hy K ag hg au h1;go_wp2_with (go_at_call 70;refine(aC.out _).mono ?_;rintro e9 w9 ⟨rfl,rfl⟩);go_meet;exact dJ (by rw[HE.out];exact a8.out)
    ·have z1:(nm.length:Int)<=1:=by omega
     have z2:¬(1:Int)<(nm.length:Int):=by omega
     have HE:Hid (Tx.nameR (g.headD [])=⟨op,0,0,[],0,[]⟩):=dJ (by rw[H.out,pC h1]);clear h1;go_wp2;go_meet;exact dJ (by rw[HE.out];exact G.out)
   case rest =>
    have l:=dJ hcut.out;have ah:Hid ((Tx.nameR (g.headD [])).args=[]/\(Tx.nameR (g.headD [])).to=[]):=dJ (by rw[H.out];exact⟨rfl,rfl⟩);obtain⟨x0,aZ⟩:=xJ (Tx.nameR (g.headD []));rw[aZ]at l ah M;obtain⟨a0,a1⟩:=ah.out;have aO:x0.args.length<1:=by rw[a0];exact Nat.zero_lt_one
    have aP:x0.to.length<1:=by rw[a1];exact Nat.zero_lt_one
    clear aZ a0 a1 ah H hcut G;go_wp2
    go_loopw [7,8] (fun s7 _ wr=>∃(k:Nat)(x:Ins)(A3:Option Addr)(c3:Nat)(A5:Option Addr)(c5:Nat),1<=k/\k<=g.length/\s7=.int .i64 k/\Hid (Tx.instR d=Tx.loopR E (g.drop k) k x)/\x.args.length<k/\x.to.length<k/\Hid (BI (fun _=>False) w3 wr (w.heap.size+1) x A3 c3 A5 c5)) (fun i _ _=>g.length-(intOf i).toNat)
    case atStart=>exact⟨1,x0,none,0,none,0,pS _,ay,rfl,dJ (by rw[M.out,List.drop_one]),aO,aP,l⟩
    case round =>
     clear l aO aP M Y hb;obtain⟨k,x,A3,c3,A5,c5,bx,bz,rfl,HH,bA,bn,l⟩:=hrel;have aJ:=l.out.box;obtain⟨k0,k1,k2,k3,k4,k5⟩:=crw6 aJ 0 1 2 3 4 5;have bg:Hid (WordsF W.heap.size wr (.slice (some ⟨b,a5,none⟩) g.length c4) g):=dJ ((an.out.gr G3.out).same l.out.fr.size fun k q1 q2=>l.out.fr.block k q2 (by have:=O.out;rintro (e|e)<;>omega));clear aJ;by_cases av:k<g.length
     ·have p:=oY av;obtain⟨z,t⟩:=xJ (g[k]);rw[t]at p;obtain⟨b9,bp,ar,-,bt,Y⟩:=bg.out.get p;injection ar with ar;injection ar with e1 e2 _;subst e1;subst e2;have ac:=aj.out z (pa p)
      have hd:g.drop k=z::g.drop (k+1):=by rw[po av,t]
      have HZ:Hid (Tx.instR d=if E=true/\k=1 then Tx.loopR E (g.drop (k+1)) (k+1) ⟨x.op,Tx.numR z,x.flags,x.args,x.imm,x.to⟩
          else if z.head?=some 35 then Tx.loopR E (g.drop (k+1)) (k+1) ⟨x.op,x.width,x.flags,x.args,Tx.numR z.tail,x.to⟩
          else if z.head?=some 64 then Tx.loopR E (g.drop (k+1)) (k+1) ⟨x.op,x.width,x.flags,x.args,x.imm,x.to++[Tx.numR z.tail]⟩
          else Tx.loopR E (g.drop (k+1)) (k+1) ⟨x.op,x.width,x.flags,x.args++[Tx.numR z],x.imm,x.to⟩):=dJ (by rw[HH.out,hd];rfl)
      have bl:=T.out;have z1:(k:Int)<(g.length:Int):=by omega
      obtain⟨u,hu⟩:=xJ (bs z);have HU:=dJ hu;rw[hu]at Y;have HN:Hid (∀I,Calls prog 70 #[.string u] I (RS (.int .i64 (Tx.numR z)) I)):=dJ fun I=>by rw[<-hu];exact eK z ac I
      have HT:Hid (∀I,Calls prog 70 #[.string (u.extract 1 u.size)] I (RS (.int .i64 (Tx.numR z.tail)) I)):=dJ fun I=>by rw[hP hu];exact eK z.tail (by simp;omega) I
      obtain⟨m,hm⟩:=xJ (Tx.numR z);obtain⟨n,hn⟩:=xJ (Tx.numR z.tail);have aw:Tx.Ok n:=by rw[<-hn];exact Tx.numR_ok _
      have bB:0<=n:=aw.1;have bC:n<4294967296:=aw.2;rw[hm]at HN HZ;rw[hn]at HT HZ;have mixed:(prog).follows .mixedOrders=true:=by kernel_rfl
      have Q3:=fun o=>px (wr.alloc o) _ 3 _ _ _ (l.out.gr ((qj _).alloc o)).box;have Q5:=fun o=>px (wr.alloc o) _ 5 _ _ _ (l.out.gr ((qj _).alloc o)).box;have a9:Hid ((dF x.args).length=x.args.length):=dJ (dM _);have ba:Hid ((dF x.to).length=x.to.length):=dJ (dM _);clear p t ac hd hm hn aw HH hu;by_cases ab:E=true/\k=1
      ·have C:Hid (Tx.instR d=Tx.loopR E (g.drop (k+1)) (k+1) ⟨x.op,m,x.flags,x.args,x.imm,x.to⟩):=dJ (by rw[HZ.out,pB ab]);obtain⟨h1,h2⟩:=ab;have b1:((k:Int) == 1)=true:=by simp;omega
       have y1:=pz _ _ 1 _ _ l.out.box;have N:=dJ (l.out.put 1 (.int .i64 m) rfl);clear HZ h2;subst h1;go_wp2_with (go_at_call 70;refine(HN.out _).mono ?_;rintro e9 w9 ⟨rfl,rfl⟩);go_roundw;case rel=>exact⟨k+1,⟨x.op,m,x.flags,x.args,x.imm,x.to⟩,A3,c3,A5,c5,by omega,by omega,by go_num,C,by show x.args.length<_;omega,by show x.to.length<_;omega,N⟩
       case measure=>simp[intOf]<;>omega
      ·have C:Hid (Tx.instR d=if z.head?=some 35 then Tx.loopR E (g.drop (k+1)) (k+1) ⟨x.op,x.width,x.flags,x.args,n,x.to⟩
          else if z.head?=some 64 then Tx.loopR E (g.drop (k+1)) (k+1) ⟨x.op,x.width,x.flags,x.args,x.imm,x.to++[n]⟩
          else Tx.loopR E (g.drop (k+1)) (k+1) ⟨x.op,x.width,x.flags,x.args++[m],x.imm,x.to⟩):=dJ (by rw[HZ.out,pC ab])
       have be:=dJ ab;clear HZ ab
       go_upto_region 15 with (fail)
       go_cut [60] from 43 to 97 (fun bm wx=>bm=.bool false/\wx=wr)
       case first =>
        cases E with
        | true =>
         have b1:((k:Int) == 1)=false:=by have:=be.out;simp at this;simp;omega
         go_wp2;go_meet;exact⟨rfl,rfl⟩
        | false =>
         go_wp2;go_meet;exact⟨rfl,rfl⟩
       case rest =>
        obtain⟨rfl,rfl⟩:=hcut;by_cases j:z.head?=some 35
        ·have X:Hid (Tx.instR d=Tx.loopR E (g.drop (k+1)) (k+1) ⟨x.op,x.width,x.flags,x.args,n,x.to⟩):=dJ (by rw[C.out,pB j]);have af:0<u.size:=by rw[<-HU.out,dv];cases z<;>simp at j ⊢
         have c1:((u[0].toNat:Int) == 35)=true:=(eM HU.out af 35).trans (by simpa using j);have ao:u.toList.isEmpty=false:=by rw[<-HU.out,dB];cases z<;>simp at j ⊢
         have ap:(u.toList == [])=false:=by rw[<-HU.out,dB];cases z<;>simp at j ⊢
         have y4:=pz _ _ 4 _ _ l.out.box;have N:=dJ (l.out.put 4 (.int .u32 n) rfl);have u1:(1:Int)<=(u.size:Int):=by omega
         clear C j;go_wp2_with (go_at_call 70;refine(HT.out _).mono ?_;rintro e9 w9 ⟨rfl,rfl⟩);go_roundw;case rel=>exact⟨k+1,⟨x.op,x.width,x.flags,x.args,n,x.to⟩,A3,c3,A5,c5,by omega,by omega,by go_num,X,by show x.args.length<_;omega,by show x.to.length<_;omega,N⟩
         case measure=>simp[intOf]<;>omega
        ·by_cases y:z.head?=some 64
         ·have X:Hid (Tx.instR d=Tx.loopR E (g.drop (k+1)) (k+1) ⟨x.op,x.width,x.flags,x.args,x.imm,x.to++[n]⟩):=dJ (by rw[C.out,pC j,pB y]);have af:0<u.size:=by rw[<-HU.out,dv];cases z<;>simp at y ⊢
          have c1:((u[0].toNat:Int) == 35)=false:=(eM HU.out af 35).trans (by simpa using j);have c2:((u[0].toNat:Int) == 64)=true:=(eM HU.out af 64).trans (by simpa using y);have ao:u.toList.isEmpty=false:=by rw[<-HU.out,dB];cases z<;>simp at y ⊢
          have ap:(u.toList == [])=false:=by rw[<-HU.out,dB];cases z<;>simp at y ⊢
          have u1:(1:Int)<=(u.size:Int):=by omega
          clear C j y;go_wp2
          go_region_law_o (first|(refine eo (n:=x.to.length) (v:=.slice A5 x.to.length c5) underlying22 hi a2 a3 a4 rfl (by omega) rfl (.tmp 91) (.tmp 95) rfl ba.out rfl (l.out.gr (qj wc).drew).o2 rfl rfl (by omega) (by have:=l.out.fr.size;exact this) ?_;intro A8 c8 w8 aa Z D;have N:=dJ (l.out.swap.push ((qj wc).drew) aa Z D 5 rfl);have y0:=px _ _ 5 _ _ _ N.out.1;have y1:=pz _ _ 5 _ _ N.out.1;clear aa Z D)|(refine dY rfl (f:=70) (args:=#[.string (u.extract 1 u.size)]) (by simp[go_sem,Act.eval,Act.put]) ((HT.out _).mono ?_);rintro e9 w9 ⟨rfl,rfl⟩;refine⟨_,rfl,?_⟩))
          all_goals go_wp2
          all_goals exact⟨⟨k+1,⟨x.op,x.width,x.flags,x.args,x.imm,x.to++[n]⟩,A3,c3,A8,c8,by omega,by omega,by go_num,X,by show x.args.length<_;omega,by simp only[pT,List.length_singleton];omega,dJ (by have q:=N.out.2.swap;have e:(x.to++[n]).length=x.to.length+1:=pT;show Bx _ _ _ _ _ #[_,_,_,_,_,.slice A8 (x.to++[n]).length c8] _ _ (.slice A8 (x.to++[n]).length c8) _;rw[e];exact q)⟩,by simp[intOf]<;>omega⟩
         ·have X:Hid (Tx.instR d=Tx.loopR E (g.drop (k+1)) (k+1) ⟨x.op,x.width,x.flags,x.args++[m],x.imm,x.to⟩):=dJ (by rw[C.out,pC j,pC y])
          have HQ:Hid ((z=[]/\u.toList=[]/\u.toList.isEmpty=true/\(u.toList == [])=true)\/∃h0:0<u.size,u.toList.isEmpty=false/\(u.toList == [])=false/\((u[0].toNat:Int) == 35)=false/\((u[0].toNat:Int) == 64)=false):=dJ (by
            rw[<-HU.out]
            rcases z with _|⟨b,r⟩
            · left;rw[dB];exact⟨rfl,rfl,rfl,rfl⟩
            · right
              have h0:0<(bs (b::r)).size:=by rw[dv];simp
              exact⟨h0,by rw[dB];rfl,by rw[dB];rfl,(eM rfl h0 35).trans (by simpa using j),(eM rfl h0 64).trans (by simpa using y)⟩)
          clear C j y;rcases HQ.out with ⟨-,bq,ao,ap⟩|⟨h0,ao,ap,c1,c2⟩
          all_goals
           go_wp2
           go_region_law_o (first|(refine eo (n:=x.args.length) (v:=.slice A3 x.args.length c3) underlying22 hi a2 a3 a4 rfl (by omega) rfl (.tmp 54) (.tmp 57) rfl a9.out rfl (l.out.gr (qj wc).drew).o1 rfl rfl (by omega) (by have:=l.out.fr.size;exact this) ?_;intro A8 c8 w8 aa Z D;have N:=dJ (l.out.push ((qj wc).drew) aa Z D 3 rfl);have y0:=px _ _ 3 _ _ _ N.out.1;have y1:=pz _ _ 3 _ _ N.out.1;clear aa Z D)|(refine dY rfl (f:=70) (args:=#[.string u]) (by simp[go_sem,Act.eval,Act.put]) ((HN.out _).mono ?_);rintro e9 w9 ⟨rfl,rfl⟩;refine⟨_,rfl,?_⟩))
           all_goals go_wp2
           all_goals exact⟨⟨k+1,⟨x.op,x.width,x.flags,x.args++[m],x.imm,x.to⟩,A8,c8,A5,c5,by omega,by omega,by go_num,X,by simp only[pT,List.length_singleton];omega,by show x.to.length<_;omega,dJ (by have q:=N.out.2;have e:(x.args++[m]).length=x.args.length+1:=pT;show Bx _ _ _ _ _ #[_,_,_,.slice A8 (x.args++[m]).length c8,_,_] (.slice A8 (x.args++[m]).length c8) _ _ _;rw[e];exact q)⟩,by simp[intOf]<;>omega⟩
     ·have aN:k=g.length:=by omega
      have bl:=T.out;have hd:decide (k<g.length)=false:=by simpa using av
      have HF:Hid (Tx.instR d=x):=dJ (by rw[HH.out,aN,List.drop_length];rfl);have az:Hid (w.heap.size+2<=w3.heap.size):=dJ (by have:=O.out;have:=G1.out.size;have:=G3.out.size;omega);have ae:=(l.out.fr.block w.heap.size (by have:=az.out;omega) (by rintro (e|e)<;>omega)).trans (((G1.out.trans G3.out).heap _ (by have:=O.out;omega)).trans bc.out);obtain⟨r0,r1,r2,r3,r4,r5⟩:=crw6 ae 0 1 2 3 4 5;obtain⟨f0,f1,f2,f3,f4,f5⟩:=frw6 ae 0 1 2 3 4 5;have ai:=dJ ae;have ta:=dJ ((l.out.o1.ti (by omega)).lower (n₀:=w.heap.size) (by have:=az.out;omega));have tt:=dJ ((l.out.o2.ti (by omega)).lower (n₀:=w.heap.size) (by have:=az.out;omega));clear ae aN;go_wp2;refine pA (fS _ _ 2 _ w.heap.size _ _ _ _ _ _ _ rfl rfl (hO ai.out _ _ _ _ _ _) ⟨_,rfl⟩ ⟨_,rfl⟩ ⟨_,rfl⟩ ⟨_,_,_,rfl⟩ ⟨_,rfl⟩ ⟨_,_,_,rfl⟩) rfl ?_;rw[HF.out];refine⟨A3,c3,A5,c5,rfl,kc ai.out ta.out (by decide) _ _ _ _ _ _,kc ai.out tt.out (by decide) _ _ _ _ _ _,?_⟩
      iterate 6 refine Gr.setCell ?_ (by show w.heap.size<=w.heap.size;omega) _
      exact gN (HG.out.trans (G1.out.trans G3.out)) l.out.fr (by
        rintro k (e|e)
        · omega
        · exact e.elim)
theorem jc {P:Program}{w:World}{ops:Array Oper}{o:Oper}{a:Act}{K:Act->World->Prop}{Q:Exit->Act->World->Prop}{F:Prop}{B:Nat}{t e:TypeId}{i:TypeInfo}{z:Value}{bytes:Nat}
  (ht:P.underlying t=some (.slice e)) (hi:P.info? e=some i) (hz:i.zero=some z) (hsize:i.size=6) (hby:i.bytes=bytes) (hzs:z.cells.size=6) (hbb:bytes<=128)
  (hgd:o.guard=none) (s x:Operand) (ho:o.op=.call {callee:=.builtin .append,args:=#[s,x],argTypes:=#[t,t]})
  {v:Value} {n:Nat} {rows:List Value} (hs:a.eval s=v) (hown:w.ownsRow B e 6 v n rows) {y0 y1 y2 y3 y4 y5:Value} {e':TypeId} (hy:∀y∈[y0,y1,y2,y3,y4,y5],y.oneCell'=true) (hx:a.eval x=.slice (some ⟨w.heap.size,0,none⟩) 1 1) (hlt:n<1099511627776) (hB:B<=w.heap.size)
  (h:∀A c w',w'.ownsRow B e 6 (.slice A (n+1) c) (n+1) (rows++[y0,y1,y2,y3,y4,y5])->(w.alloc (.cells #[y0,y1,y2,y3,y4,y5] e')).grownBy w' v.ownBlock->K (a.put o.dst (.slice A (n+1) c)) w') :
  if Region.wanted o (yielded ops a.tmps)=true then Oper.wp P o a (w.alloc (.cells #[y0,y1,y2,y3,y4,y5] e')) K Q else F:=by
 have l:Region.wanted o (yielded ops a.tmps)=true:=by simp[Region.wanted,hgd]
 rw[pB l];refine dT s x t ho B e i z 6 bytes ht hi hz hsize hby hzs (by omega) v n rows hs (eT hown ((qj _).alloc _)) _ 1 [y0,y1,y2,y3,y4,y5] hx (Src.newN w [y0,y1,y2,y3,y4,y5] e') hy ?_ ?_ ?_ ?_
 ·simp only[maxLen];omega
 ·have:(n+1)*bytes<=(n+1)*128:=Nat.mul_le_mul_left _ hbb;omega
 ·simp;omega
 ·intro m w' d g _;obtain⟨A,c,j,_⟩:=eu d;subst j;exact h A c w' d g
def KeptT (T:TypeId)(w w':World):Prop:=∀(k:Nat)(cur:Array Value),w.heap[k]?=some (.cells cur T (0,0))->w'.heap[k]?=some (.cells cur T (0,0))
theorem Gr.kept {w w':World}(g:Gr w w')(T:TypeId):KeptT T w w':=fun k d h=>(g.heap k (dh h)).trans h
theorem eE {w w':World}{B sz n:Nat}{e:TypeId}{v:Value}{xs:List Value}(h:w.ownsRow B e sz v n xs)(hk:KeptT e w w'):w'.ownsRow B e sz v n xs:=by
 obtain⟨m,l⟩:=h;refine⟨m,?_⟩;rcases l with l|⟨g,j,d,t,p,q,r⟩
 ·exact .inl l
 ·exact .inr ⟨g,j,d,t,p,hk g d q,r⟩
theorem eQ {w w':World}(h1:KeptT 3 w w')(h2:KeptT 50 w w'):Kt w w':=fun k c t h d=>by
 rcases d with rfl|rfl
 ·exact h1 k c h
 ·exact h2 k c h
theorem OwnI.kept {n₀ B:Nat}{w w':World}{v:Value}{l:List Ins}(h:OwnI n₀ B w v l)(h1:KeptT 3 w w')(h2:KeptT 50 w w'):OwnI n₀ B w' v l:=by obtain⟨d,m,p⟩:=h;exact⟨d,eE m h2,fun j x g=>(p j x g).kt (eQ h1 h2)⟩
theorem dC {w w':World}{B n sz:Nat}{e T:TypeId}{v:Value}{xs:List Value}{tmp:Obj}(ho:w.ownsRow B e sz v n xs)(hg:(w.alloc tmp).grownBy w' v.ownBlock)(hT:T≠e):KeptT T w w':=fun k q h=>by
 have l:=dh h;refine(hg.block k (by simp;omega) (fun d=>?_)).trans ((((qj w).alloc tmp).heap k l).trans h);rcases ho.2 with ⟨rfl,_⟩|⟨g,p,m,rfl,_,j,_⟩
 ·simp[Value.ownBlock]at d
 ·simp[Value.ownBlock]at d;subst d;rw[j]at h;simp at h;exact hT h.2.symm
theorem dS {w:World}{B i:Nat}{u:Value}{row:Array Value}{e T:TypeId}(hb:w.heap[B]?=some (.cells row e (0,0)))(hT:T≠e):KeptT T w (w.setCell ⟨B,i,none⟩ u):=fun k d h =>
 (Below.heap_setCell _ _ _ _ (by
   show k≠B
   intro g;subst g
   rw[hb]at h;simp at h
   exact hT h.2.symm)).trans h
theorem KeptT.trans {T:TypeId}{a b c:World}(h:KeptT T a b)(k:KeptT T b c):KeptT T a c:=fun q d x=>k q d (h q d x)
structure LastB (n₀ B1:Nat)(w:World)(us:List Value)(bs:List (List Ins)):Prop where
 len:us.length=bs.length
 init:∀(j:Nat)(v:Value)(m:List Ins),j+1<bs.length->us[j]?=some v->bs[j]?=some m->TB n₀ w v m/\∀b,v.ownBlock=some b->b<B1
 last:∀(j:Nat)(v:Value)(m:List Ins),j+1=bs.length->us[j]?=some v->bs[j]?=some m->OwnI n₀ B1 w v m
theorem LastB.kept {n₀ B1:Nat}{w w':World}{us:List Value}{bs:List (List Ins)}(h:LastB n₀ B1 w us bs)(h1:KeptT 3 w w')(h2:KeptT 50 w w'):LastB n₀ B1 w' us bs :=
 ⟨h.len,fun j v m d l g=>⟨(h.init j v m d l g).1.kt (eQ h1 h2),(h.init j v m d l g).2⟩,fun j v m d l g=>(h.last j v m d l g).kept h1 h2⟩
abbrev fe (vp:Value)(r:Int)(vs vb:Value):Array Value:=#[vp,.int .i64 r,vs,vb]
structure PI (n₀:Nat)(W1 wr:World)(Bf:Nat)(f:Fn)(vp vs vb:Value)(us:List Value)(B1:Nat):Prop where
 fr:FrS (fun k=>k=Bf) W1 wr
 lt:Bf<W1.heap.size
 le:n₀<=B1
 box:wr.heap[Bf]?=some (.cells (fe vp f.ret vs vb) 25 (0,0))
 tp:TI n₀ wr vp f.params
 ts:TI n₀ wr vs f.slots
 own:Own1 W1.heap.size 46 wr vb us
 b1:W1.heap.size<=B1
 b2:B1<=wr.heap.size
 last:LastB n₀ B1 wr us f.blocks
 fit:∀l∈f.blocks,l.length<=100000
section
variable {n₀:Nat}{W1 wr w2 w7:World}{Bf:Nat}{f:Fn}{vp vs vb v':Value}{us:List Value}{B1:Nat}{tmp:Obj}
theorem PI.kept (h:PI n₀ W1 wr Bf f vp vs vb us B1)(hF:FrS (fun k=>k=Bf) W1 w2)(hs:wr.heap.size<=w2.heap.size)(k1:KeptT 3 wr w2)(k2:KeptT 50 wr w2)(k3:KeptT 46 wr w2)(k4:KeptT 25 wr w2):PI n₀ W1 w2 Bf f vp vs vb us B1 :=
 ⟨hF,h.lt,h.le,k4 _ _ h.box,h.tp.kt (eQ k1 k2),h.ts.kt (eQ k1 k2),eE h.own k3,h.b1,Nat.le_trans h.b2 hs,h.last.kept k1 k2,h.fit⟩
theorem PI.gr (h:PI n₀ W1 wr Bf f vp vs vb us B1)(g:Gr wr w2):PI n₀ W1 w2 Bf f vp vs vb us B1 :=
 h.kept (h.fr.trans (pU g)) g.size (g.kept _) (g.kept _) (g.kept _) (g.kept _)
theorem OwnI.block {n₀ B:Nat}{w:World}{v:Value}{l:List Ins}(h:OwnI n₀ B w v l){b:Nat}(hb:v.ownBlock=some b):b<w.heap.size:=by obtain⟨d,q,-⟩:=h;exact(dP q b hb).2
theorem PI.open (h:PI n₀ W1 wr Bf f vp vs vb us B1)(g7:Gr wr w7)(ho:Own1 W1.heap.size 46 w2 v' (us++[dy]))(hg:(w7.alloc tmp).grownBy w2 vb.ownBlock) :
  w2.heap[Bf]?=some (.cells (fe vp f.ret vs vb) 25 (0,0))/\PI n₀ W1 (w2.setCell ⟨Bf,3,none⟩ v') Bf ⟨f.params,f.ret,f.slots,f.blocks++[[]]⟩ vp vs v' (us++[dy]) w2.heap.size:=by
 have g:=h.gr g7;have y:FrS (fun q=>vb.ownBlock=some q) w7 w2:=((FrS.refl _ w7).alloc tmp).grown hg (fun q hq=>.inl hq);have d:w2.heap[Bf]?=some (.cells (fe vp f.ret vs vb) 25 (0,0)):=dC g.own hg (by decide) _ _ g.box;have D:KeptT 3 w7 (w2.setCell ⟨Bf,3,none⟩ v'):=(dC g.own hg (by decide)).trans (dS d (by decide));have E:KeptT 50 w7 (w2.setCell ⟨Bf,3,none⟩ v'):=(dC g.own hg (by decide)).trans (dS d (by decide));have H:KeptT 46 w2 (w2.setCell ⟨Bf,3,none⟩ v'):=dS d (by decide);have G:(w2.setCell ⟨Bf,3,none⟩ v').heap.size=w2.heap.size:=by simp
 have F:=g.last.kept D E;have t:=g.last.len;refine⟨d,?_,h.lt,?_,by have:=de (i:=3) v' d;exact this,g.tp.kt (eQ D E),g.ts.kt (eQ D E),eE ho H,?_,by omega,?_,?_⟩
 ·refine(pV (S:=fun k=>k=Bf\/W1.heap.size<=k) ((g.fr.mono fun k q=>.inl q).trans (y.mono fun k e=>.inr (dE g.own e).1)) fun k hk q=>q.elim id fun q=>by omega).setCell (p:=⟨Bf,3,none⟩) rfl v'
 ·exact Nat.le_trans h.le (Nat.le_trans g.b2 y.size)
 ·exact Nat.le_trans g.fr.size y.size
 ·refine⟨by simp[t],fun j v m C u r=>?_,fun j v m C u r=>?_⟩
  ·simp only[pT,List.length_singleton]at C;rw[pl (by omega)]at u r;rcases pF (j+1) f.blocks.length with z|z
   ·obtain⟨I,J⟩:=F.init j v m z u r;exact⟨I,fun b B=>by have:=J b B;have:=g.b2;have:=y.size;omega⟩
   ·have q:=g.last.last j v m (by omega) u r;refine⟨(F.last j v m (by omega) u r).tb ?_ h.le,fun b B=>?_⟩
    ·have:=h.fit m (pa r);omega
    ·have:=q.block B;have:=y.size;omega
  ·simp only[pT,List.length_singleton]at C;obtain rfl:j=f.blocks.length:=by omega
   rw[pm (by omega),t,Nat.sub_self]at u;rw[pm (by omega),Nat.sub_self]at r;simp at u r;subst u;subst r;exact OwnI.nil _ _ _
 ·intro l A;rcases pI.1 A with A|A
  ·exact h.fit l A
  ·rw[List.mem_singleton.1 A];simp
theorem nU {B:Nat}{e:TypeId}{w:World}{g m c n:Nat}{us:List Value}(h:Own1 B e w (.slice (some ⟨g,0,none⟩) m c) us)(u:Value) :
  (∃cur,w.heap[g]?=some (.cells cur e (0,0))/\(∀j,j<us.length->cur[j]?=us[j]?))/\Own1 B e (w.setCell ⟨g,n,none⟩ u) (.slice (some ⟨g,0,none⟩) m c) (us.set n u):=by
 obtain⟨L,F⟩:=h;rcases F with ⟨C,_⟩|⟨K,A,cur,H,G,y,I,J,z,t⟩
 ·cases C
 ·injection H with p D E;injection p with p;injection p with p _ _;subst p;subst E;rw[Nat.mul_one]at t;refine⟨⟨cur,y,fun j q=>?_⟩,by simp,.inr ⟨g,c,cur.setIfInBounds n u,by rw[List.length_set,D],G,de u y,by rw[List.length_set];exact I,J,by simpa using z,?_⟩⟩
  ·rw[<-t,pn,pB q];simp
  ·rw[List.length_set,Nat.mul_one];apply List.ext_getElem?;intro j;rw[pn,List.getElem?_set];have d:=congrArg (fun l=>l[j]?) t;simp only[pn]at d;by_cases q:j<us.length
   ·rw[pB q]at d ⊢;rw[Array.getElem?_toList,Array.getElem?_setIfInBounds];rw[Array.getElem?_toList]at d;by_cases r:n=j
    ·subst r;have:n<cur.size:=by rw[z];omega
     rw[pB rfl,pB this,pB rfl,pB q]
    ·rw[pC r,pC r];exact d
   ·rw[pC q];split
    ·rw[pC (by omega)]
    ·rw[pr (by omega)]
end
theorem pX {bs:List (List Ins)}{n:Nat}{l:List Ins}(hn:bs.length=n+1)(hl:bs[n]?=some l)(x:Ins):Tx.addLast bs x=bs.set n (l++[x]):=by
 rcases List.eq_nil_or_concat bs with rfl|⟨a,b,rfl⟩
 ·simp at hn
 ·rw[List.concat_eq_append]at hn hl ⊢;rw[pT,List.length_singleton]at hn;have d:a.length=n:=by omega
  subst d;simp at hl;subst hl;rw[Tx.addLast_snoc];simp
theorem TB.same {n₀:Nat}{w w':World}{v:Value}{l:List Ins}(h:TB n₀ w v l)(hb:∀b cur,v.ownBlock=some b->w.heap[b]?=some (.cells cur 50 (0,0))->w'.heap[b]?=some (.cells cur 50 (0,0)))(h1:KeptT 3 w w'):TB n₀ w' v l:=by
 obtain⟨A,c,rfl,B,C,D⟩:=h
 have r:∀{u:Value} {zs:List Int},TI n₀ w u zs->TI n₀ w' u zs:=by intro u zs q;obtain⟨t,y,rfl,E,F,G⟩:=q;refine⟨t,y,rfl,E,F,fun g=>?_⟩;obtain⟨b,cur,e,p,d,m⟩:=G g;exact⟨b,cur,e,p,h1 _ _ d,m⟩
 refine⟨A,c,rfl,B,C,fun g=>?_⟩;obtain⟨b,cur,rfl,p,d,m⟩:=D g;refine⟨b,cur,rfl,p,hb b cur rfl d,fun j x z=>?_⟩;obtain⟨va,vt,s0,s1,s2,s3,s4,s5,H,st⟩:=m j x z;exact⟨va,vt,s0,s1,s2,s3,s4,s5,r H,r st⟩
section
variable {n₀:Nat}{W1 wr w2 w7:World}{Bf:Nat}{f:Fn}{vp vs vb v':Value}{us:List Value}{B1:Nat}{tmp:Obj}
theorem PI.add {g n c:Nat}(h:PI n₀ W1 wr Bf f vp vs (.slice (some ⟨g,0,none⟩) (n+1) c) us B1)(hn:f.blocks.length=n+1){u u':Value}{l:List Ins}(hu:us[n]?=some u)(hl:f.blocks[n]?=some l)(hll:l.length+1<=100000)(g7:Gr wr w7){rows:List Value}
  (hr:w7.ownsRow B1 50 6 u l.length rows) (h6:∀(j:Nat)(x:Ins),l[j]?=some x->Six n₀ w7 (fun i=>rows[j*6+i]?) x) {x:Ins} {va vt:Value}
  (hown:w2.ownsRow B1 50 6 u' (l.length+1) (rows++[.int .i64 x.op,.int .i64 x.width,.int .i64 x.flags,va,.int .u32 x.imm,vt])) (hg:(w7.alloc tmp).grownBy w2 u.ownBlock) (ha:TI n₀ w7 va x.args) (ht:TI n₀ w7 vt x.to) :
  (w2.cell? ⟨g,n,none⟩=some u/\w2.frozen? ⟨g,n,none⟩=false/\w2.heap[Bf]?=some (.cells (fe vp f.ret vs (.slice (some ⟨g,0,none⟩) (n+1) c)) 25 (0,0))) /\
   PI n₀ W1 (w2.setCell ⟨g,n,none⟩ u') Bf ⟨f.params,f.ret,f.slots,Tx.addLast f.blocks x⟩ vp vs (.slice (some ⟨g,0,none⟩) (n+1) c) (us.set n u') B1:=by
 have t:=h.gr g7;have B:=h.last.len;have T:OwnI n₀ B1 w7 u l:=⟨rows,hr,h6⟩;obtain⟨o1,o2⟩:=T.snoc hr h6 hown hg ha ht t.b2;have J:FrS (fun q=>u.ownBlock=some q) w7 w2:=((FrS.refl _ w7).alloc tmp).grown hg (fun q hq=>.inl hq);have Y:KeptT 3 w7 w2:=dC hr hg (by decide);have Z:KeptT 46 w7 w2:=dC hr hg (by decide);have M:KeptT 25 w7 w2:=dC hr hg (by decide);have C:Own1 W1.heap.size 46 w2 (.slice (some ⟨g,0,none⟩) (n+1) c) us:=eE t.own Z;obtain⟨⟨z,d,A⟩,D⟩:=nU (n:=n) C u';have H:W1.heap.size<=g:=(dE C (k:=g) rfl).1;have K:KeptT 3 w7 (w2.setCell ⟨g,n,none⟩ u'):=Y.trans (dS d (by decide));have L:KeptT 50 w2 (w2.setCell ⟨g,n,none⟩ u'):=dS d (by decide);have X:KeptT 25 w7 (w2.setCell ⟨g,n,none⟩ u'):=M.trans (dS d (by decide));have I:(w2.setCell ⟨g,n,none⟩ u').heap.size=w2.heap.size:=by simp
 have E:∀{v:Value} {zs:List Int},TI n₀ w7 v zs->TI n₀ (w2.setCell ⟨g,n,none⟩ u') v zs:=by intro v zs q;obtain⟨O,P,rfl,r1,r2,r3⟩:=q;refine⟨O,P,rfl,r1,r2,fun V=>?_⟩;obtain⟨b,z,e,r4,G,W⟩:=r3 V;exact⟨b,z,e,r4,K _ _ G,W⟩
 refine⟨⟨?_,pz _ _ n _ _ d,M _ _ t.box⟩,⟨?_,h.lt,h.le,X _ _ t.box,E t.tp,E t.ts,D,h.b1,by rw[I];exact Nat.le_trans t.b2 J.size,?_,?_⟩⟩
 ·rw[px _ _ n _ _ _ d,A n (by omega),hu]
 ·have R:FrS (fun k=>k=Bf\/W1.heap.size<=k) W1 (w2.setCell ⟨g,n,none⟩ u') :=
   ((t.fr.mono fun k q=>.inl q).trans (J.mono fun k e=>.inr (by have:=(dP hr k e).1;have:=h.b1;omega))).setCell (p:=⟨g,n,none⟩) (.inr H) u'
  exact pV R fun k hk q=>q.elim id fun q=>by omega
 ·rw[pX hn hl];refine⟨by rw[List.length_set,List.length_set];exact B,fun j v m F y r=>?_,fun j v m F y r=>?_⟩
  ·rw[List.length_set]at F;rw[List.getElem?_set_ne (by omega)]at y r;obtain⟨q1,N⟩:=t.last.init j v m F y r;exact⟨q1.same (fun b Q U G=>L b Q ((o2.block b (N b U)).trans G)) K,N⟩
  ·rw[List.length_set]at F;obtain rfl:j=n:=by omega
   rw[List.getElem?_set_self (by omega)]at y r;injection y with y;injection r with r;subst y;subst r;exact o1.kept (dS d (by decide)) L
 ·intro m r;rw[pX hn hl]at r;rcases List.mem_or_eq_of_mem_set r with r|r
  ·exact h.fit m r
  ·rw[r,pT,List.length_singleton];exact hll
end
theorem oq:((prog).info? 46).map (fun i=>(i.zero,i.size,i.bytes))=some (some dy,1,24):=by kernel_rfl
theorem ou:((prog).info? 50).map (fun i=>(i.zero,i.size,i.bytes))=some (some (.agg #[.int .i64 0,.int .i64 0,.int .i64 0,dy,.int .u32 0,dy]),6,80):=by kernel_rfl
theorem lV {u:ByteArray}{z:List UInt8}(hu:bs z=u){q:Nat}(hq:u.size=q+1)(h:q<u.size)(d:UInt8):(((u[q]'h).toNat:Int) == (d.toNat:Int))=decide (z.getLast?=some d):=by
 have l:z=[]\/∃a b,z=a++[b]:=by
  rcases List.eq_nil_or_concat z with e|⟨a,b,e⟩
  ·exact .inl e
  ·exact .inr ⟨a,b,by rw[e,List.concat_eq_append]⟩
 subst hu;rw[dv]at hq;rcases l with rfl|⟨a,b,rfl⟩
 ·simp at hq
 ·rw[pT,List.length_singleton]at hq;have j:a.length=q:=by omega
  subst j
  have e:(bs (a++[b]))[a.length]'h=b:=by
   have g:(bs (a++[b])).data.toList[a.length]?=some ((bs (a++[b]))[a.length]'h):=by rw[oY (by rw[dt];simp)];rfl
   rw[dt]at g;simp at g;exact g.symm
  rw[e,Bool.eq_iff_iff];simp only[beq_iff_eq,List.getLast?_append,List.getLast?_singleton,Option.some_or,Option.some.injEq,decide_eq_true_eq];constructor
  ·intro q;exact UInt8.toNat_inj.1 (by omega)
  ·intro q;rw[q]
section
variable {n₀:Nat}{W1 wr:World}{Bf:Nat}{f:Fn}{vp vs vb:Value}{us:List Value}{B1:Nat}
theorem PI.fn (h:PI n₀ W1 wr Bf f vp vs vb us B1)(hb:f.blocks.length<=100000):FnAt wr.heap.size wr (.agg #[vp,.int .i64 f.ret,vs,vb]) f:=by
 refine⟨vp,vs,vb,rfl,h.tp.ints,h.ts.ints,?_⟩;have B:=h.last.len;obtain⟨A,c,D⟩:=h.own.form;have p:=h.own;unfold Own1 at p;subst D
 have F:us.length<=c:=by
  rcases p.2 with ⟨e,h0⟩|⟨g,t,y,e,-,-,E,-⟩
  ·injection e with _ _ e;omega
  ·injection e with _ _ e;omega
 refine⟨A,c,by rw[B],by omega,by omega,fun G=>?_⟩;obtain⟨b,rfl,m,-,z⟩:=dr p rfl (by omega);refine⟨b,0,rfl,m,fun j l d=>?_⟩;have C:=(oZ.1 d).1;obtain⟨u,r⟩:∃u,us[j]?=some u:=⟨_,oY (by omega)⟩;refine⟨u,by rw[Nat.zero_add,z j (by omega),r],?_⟩;rcases pF (j+1) f.blocks.length with q|q
 ·exact(h.last.init j u l q r d).1.blk
 ·exact((h.last.last j u l (by omega) r d).tb (by have:=h.fit l (pa d);omega) h.le).blk
theorem PI.mk0 {w2:World}(hb:w2.heap[Bf]?=some (.cells (fe vp f.ret vs dy) 25 (0,0)))(tp:TI n₀ w2 vp f.params)(ts:TI n₀ w2 vs f.slots)(hn:n₀<=w2.heap.size)(hf:f.blocks=[]):PI n₀ w2 w2 Bf f vp vs dy [] w2.heap.size :=
 ⟨FrS.refl _ _,dh hb,hn,hb,tp,ts,Own1.nil _ _ _,pS _,pS _,⟨by rw[hf];rfl,fun j v m d=>by rw[hf]at d;simp at d,fun j v m d=>by rw[hf]at d;simp at d⟩,fun l g=>by rw[hf]at g;cases g⟩
theorem PI.form (h:PI n₀ W1 wr Bf f vp vs vb us B1):∃A c,vb=.slice A f.blocks.length c:=by obtain⟨A,c,e⟩:=h.own.form;rw[h.last.len]at e;exact⟨A,c,e⟩
theorem PI.get {A:Option Addr}{c n:Nat}(h:PI n₀ W1 wr Bf f vp vs (.slice A f.blocks.length c) us B1)(hn:f.blocks.length=n+1):∃g Au cu l,A=some ⟨g,0,none⟩/\f.blocks[n]?=some l/\us[n]?=some (.slice Au l.length cu)/\wr.cell? ⟨g,n,none⟩=some (.slice Au l.length cu)/\g<wr.heap.size:=by have r:=h.last.len;obtain⟨l,d⟩:∃l,f.blocks[n]?=some l:=⟨_,oY (by omega)⟩;obtain⟨u,m⟩:∃u,us[n]?=some u:=⟨_,oY (by omega)⟩;obtain⟨Au,cu,t⟩:=(h.last.last n u l (by omega) m d).form;subst t;have j:=h.own;unfold Own1 at j;rw[r]at j;obtain⟨g,rfl,q,-,p⟩:=dr j rfl (by omega);exact⟨g,Au,cu,l,rfl,d,m,by rw[p n (by omega),m],q⟩
end
def gL (w w':World)(r:Option Fn)(e:Ending):Prop:=∃v,e=.returned (.tuple #[v,.int .i64 (if r.isSome=true then 0 else 2)])/\FnAt w'.heap.size w' v (r.getD Tx.fn0)/\Gr w w'
theorem nH (B:Nat)(w:World):FnAt B w (.agg #[dy,.int .i64 0,dy,dy]) Tx.fn0:=by
 have d:∀{n:Nat} {R:Nat->Nat->Prop},n=0->SlAt B dy n R:=by intro n R e;subst e;exact⟨none,0,rfl,pS _,by omega,fun h=>by omega⟩
 exact⟨dy,dy,dy,rfl,d rfl,d rfl,d rfl⟩
end

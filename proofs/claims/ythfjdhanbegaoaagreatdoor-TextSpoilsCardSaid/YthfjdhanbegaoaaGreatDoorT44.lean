/- Parts. -/
import Derived.Test.YthfjdhanbegaoaaGreatDoorT41
import Derived.Lib.SlBytesRow
set_option linter.unusedSimpArgs false
set_option linter.unusedVariables false
set_option maxRecDepth 100000
set_option maxHeartbeats 16000000
open Go.Proofs.Tryz
namespace Go.Proofs.YthfjdhanbegaoaaGreatDoor
open Go.RowKit
theorem nG (l:List UInt8)(i j:Nat):(bs l).extract i j=bs ((l.drop i).take (j-i)):=by rw[<-ie ((bs l).extract i j),Lib.extract_data,dt]
theorem lr {W:World}{g:Nat}{b:UInt8}(h:W.cell? ⟨g,0,none⟩=some (.int .u8 (b.toNat:Int))):(convert 36 9 (.slice (some ⟨g,0,none⟩) 1 1)).run prog W=.ok (.string (bs [b])) W:=by
 refine Lib.run_convert_whole W 36 5 9 underlying36 underlying5 underlying9 g 0 (bs [b]) (fun i d=>?_) 1;have j:i<1:=by simpa[dv] using d
 obtain rfl:i=0:=by omega
 exact h
theorem nk (z:Int){n:Nat}(h0:0<n)(h1:n<=30000):∃p:Nat,p<n/\wrap64 ((IntKind.u64.wrap z).tmod (n:Int))=(p:Int):=by
 have l:IntKind.u64.wrap z=z%18446744073709551616:=by simp[IntKind.wrap,IntKind.bits,IntKind.signed]
 have d:0<=z%18446744073709551616:=Int.emod_nonneg _ (by decide);have g:(IntKind.u64.wrap z).tmod (n:Int)=(z%18446744073709551616)%(n:Int):=by rw[l,Int.tmod_eq_emod_of_nonneg d]
 have j:0<=(z%18446744073709551616)%(n:Int):=Int.emod_nonneg _ (by omega);have m:(z%18446744073709551616)%(n:Int)<n:=Int.emod_lt_of_pos _ (by omega);refine⟨((z%18446744073709551616)%(n:Int)).toNat,by omega,?_⟩;rw[g,Int.toNat_of_nonneg j];exact IntWalk.wrap64_in _ ⟨by omega,by omega⟩
def gD (S:List UInt8)(p:Nat)(b:UInt8):List UInt8:=S.take p++[b]++S.drop (p+1)
theorem mB {S:List UInt8}{p:Nat}(h:p<S.length)(b:UInt8):(gD S p b).length=S.length:=by unfold gD;simp;omega
theorem nw {S:List UInt8}{p:Nat}(h:p<S.length){b:UInt8}(hb:S[p]≠b):gD S p b≠S:=by
 intro e
 have d:(gD S p b)[p]?=some b:=by unfold gD;rw[List.append_assoc,pm (by simp;omega)];simp[Nat.min_eq_left (Nat.le_of_lt h)]
 rw[e,oY h]at d;exact hb (Option.some.inj d)
theorem lawTextSpoils_any (vf:Value)(f:Fn)(z b:Int)(hz:-9223372036854775808<=z/\z<=9223372036854775807)(hb:0<=b/\b<256)(w:World)(hf:FnAt w.heap.size w vf f)(hn:dA f=false->ia f)(hi:Tx.Im f)(ht:TabW w) :
  Calls prog 5 #[vf,.int .i64 z,.int .u8 b] w (RG (.bool true) w):=by
 have HL:=gn hf;have HK:=eG ht;have HF:=dJ hf;have HT:=dJ ht;have HP:Hid (dA f=false->∀j,Gr w j->Calls prog 12 #[vf] j (RG (.tuple #[.string (bs (di f)),.int .i64 (Ref.validate f)]) j)):=dJ fun h j q=>dW vf f j (hf.gr q) (hn h) hi (ht.gr q)
 have HS:Hid (Ref.validate f=0->Tx.readP (di f)=some f/\0<(di f).length/\(di f).length<=30000):=dJ fun h=>by
  have e:di f=Tx.textS f:=by unfold di;rw[pB h]
  rw[e];obtain⟨aP,aH⟩:=Tx.text_body f;exact⟨Tx.readP_text h hi,by rw[aH];simp,Tx.textS_len h hi⟩
 obtain⟨vp,vs,vb,rfl,hp,hs,aI⟩:=hf;obtain⟨Ap,cp,rfl,-⟩:=hp;obtain⟨As,cs,rfl,-⟩:=hs;obtain⟨Ab,cb,rfl,-⟩:=aI;obtain⟨W,hW,t,KP⟩:=dz w (.slice Ap f.params.length cp) (.int .i64 f.ret) (.slice As f.slots.length cs) (.slice Ab f.blocks.length cb);obtain⟨k0,k1,k2,k3⟩:=KP.out W (qj _);obtain⟨lg,ay⟩:=xJ (dA f);obtain⟨e,he⟩:=xJ (Ref.validate f);obtain⟨S,hS⟩:=xJ (di f);rw[ay]at HL HP;rw[he,hS]at HP HS;clear ay he hS hn hi ht
 cases lg with
 | true =>
  clear HP HS
  go_enter func5, ntmps5
  go_wp2_with (first|(go_at_call 10;refine(HL.out _ t.out).mono ?_;rintro e j ⟨rfl,g1⟩;have B:=dJ (t.out.trans g1);clear g1)|(go_at_call 11;refine(HK.out _ B.out).mono ?_;rintro e w2 ⟨rfl,g2⟩))
  go_ret;exact⟨rfl,B.out.trans g2⟩
 | false =>
  have J:=dJ (HP.out rfl);clear HP;by_cases h0:e=0
  ·obtain⟨az,ax,ao⟩:=HS.out h0;have au:=dJ az;subst h0;obtain⟨p,hp,hw⟩:=nk z ax ao;have aC:=dJ hp;have aD:=dJ ao
   obtain⟨y,hy⟩:∃y:UInt8,b=(y.toNat:Int):=by
    obtain⟨k,rfl⟩:=pg hb.1
    exact⟨UInt8.ofNat k,by have:(UInt8.ofNat k).toNat=k:=by {simp;omega}
                           rw[this]⟩
   obtain⟨u,hu⟩:=xJ (bs S);have D:u.size=S.length:=by rw[<-hu,dv]
   have aR:p<u.size:=by omega
   have aA:u[p]'aR=S[p]:=by subst hu;rfl
   have ad:Hid ((((u[p]'aR).toNat:Int) == b)=false->gD S p y≠S):=dJ fun h=>nw hp (by
     intro aO
     have h3:u[p]'aR=y:=aA.trans aO
     rw[h3,hy]at h
     simp at h)
   have aa:Hid (u.extract 0 p=bs (S.take p)):=dJ (by rw[<-hu,nG];rfl);have ab:Hid (u.extract (p+1) u.size=bs (S.drop (p+1))):=dJ (by rw[D,<-hu,nG,pq (by simp)]);have HU:=dJ hu;rw[<-D]at ax ao hw;rw[hu]at J;have aJ:¬(u.size:Int)=0:=by omega
   have aQ:((u.size:Int) == 0)=false:=beq_eq_false_iff_ne.2 aJ;subst hy;clear HS az D hp aA hu
   cases hc:(((u[p]'aR).toNat:Int) == (y.toNat:Int)) with
   | true =>
    clear ad aa ab
    go_enter func5, ntmps5
    go_wp2_with (first|(go_at_call 10;refine(HL.out _ t.out).mono ?_;rintro e j ⟨rfl,g1⟩;have B:=dJ (t.out.trans g1);have F:=dJ g1;obtain⟨l0,l1,l2,l3⟩:=KP.out j g1;clear g1)|(go_at_call 12;refine(J.out _ B.out).mono ?_;rintro e w2 ⟨rfl,g2⟩;have G2:=dJ (B.out.trans g2);have ar:=dJ (F.out.trans g2);clear g2)|(go_at_call 11;refine(HK.out _ G2.out).mono ?_;rintro e w3 ⟨rfl,g3⟩))
    go_ret;exact⟨rfl,G2.out.trans g3⟩
   | false =>
    have O:=dJ (ad.out hc);clear ad
    go_enter func5, ntmps5
    go_wp2_with (first|(go_at_call 10;refine(HL.out _ t.out).mono ?_;rintro e j ⟨rfl,g1⟩;have B:=dJ (t.out.trans g1);have F:=dJ g1;obtain⟨l0,l1,l2,l3⟩:=KP.out j g1;clear g1)|(go_at_call 12;refine(J.out _ B.out).mono ?_;rintro e w2 ⟨rfl,g2⟩;have G2:=dJ (B.out.trans g2);have ar:=dJ (F.out.trans g2);clear g2))
    obtain⟨a,ha⟩:=xJ (bs (S.take p));obtain⟨c,an⟩:=xJ (bs (S.drop (p+1)));obtain⟨d,hd⟩:=xJ (bs [y]);obtain⟨x,hx⟩:=xJ (bs (S.take p++[y]));obtain⟨tt,aq⟩:=xJ (bs (gD S p y));have aE:S.length<=30000:=aD.out;have ap:(gD S p y).length<=80000:=by rw[mB aC.out];omega
    obtain⟨r,hr⟩:=xJ (Tx.readP (gD S p y));have K:Hid (∀j,Gr w j->Calls prog 14 #[.string (bs (gD S p y))] j fun e w'=>ff j w' (r.getD Tx.fn0) (dU r) e):=fI ap hr HT.out;have L:Hid (∀j,Gr w j->Calls prog 16 #[.string (bs (gD S p y))] j fun e w'=>ff j w' (r.getD Tx.fn0) (dU r) e):=gv ap hr HT.out
    have I:Hid (dU r=0->decide (f=r.getD Tx.fn0)=false):=dJ fun h=>by
     cases r with
     | none=>simp[dU]at h
     | some g =>
      rw[decide_eq_false_iff_not];show f≠g;rintro rfl;exact O.out ((Tx.read_iff.1 hr).2.1.symm.trans (Tx.read_iff.1 au.out).2.1)
    obtain⟨g,hg⟩:=xJ (r.getD Tx.fn0);obtain⟨E,hE⟩:=xJ (dU r);rw[hg,hE]at K L I;have av:=gB g;have ae:Hid (∀(v1 v2:Value)(j:World),FnAt j.heap.size j v1 f->FnAt j.heap.size j v2 g->Calls prog 15 #[v1,v2] j (RG (.bool (decide (f=g))) j)):=dJ fun v1 v2 j h1 h2=>gx v1 v2 f g j h1 h2;rw[aq]at K L;have A1:∀W:World,(Op.stringOp .add a d).run prog W=.ok (.string x) W:=fun W=>by rw[<-ha,<-hd,<-hx];exact dq W _ _ (by simp;omega)
    have A2:∀W:World,(Op.stringOp .add x c).run prog W=.ok (.string tt) W:=fun W=>by rw[<-an,<-hx,<-aq];exact dq W _ _ (by simp;omega)
    have E1:u.extract 0 p=a:=by rw[aa.out,ha]
    have E2:u.extract (p+1) u.size=c:=by rw[ab.out,an]
    have cv:∀(W:World)(g:Nat),W.cell? ⟨g,0,none⟩=some (.int .u8 (y.toNat:Int))->(convert 36 9 (.slice (some ⟨g,0,none⟩) 1 1)).run prog W=.ok (.string d) W:=fun W g q=>by rw[<-hd];exact lr q
    have mixed:(prog).follows .mixedOrders=true:=by kernel_rfl
    obtain⟨m,hm⟩:∃m,m=p+1:=⟨_,rfl⟩;have aK:(p:Int)+1=(m:Int):=by omega
    have aN:IntKind.i64.wrap (m:Int)=(m:Int):=IntKind.wrap_i64 _ |>.trans (by omega);have aL:(m:Int)<=(u.size:Int):=by omega
    have aM:(p:Int)<=(u.size:Int):=by omega
    rw[<-hm]at E2;clear ha an hd hx aq aE aa ab hm hr hg hE ap O au
    go_region_law_o (fail)
    obtain⟨W3,am⟩:=xJ ((w2.alloc (.cells #[.int .u8 (y.toNat:Int)] 5)).drew);have aw:Gr w2 W3:=by rw[<-am];exact((qj w2).alloc _).drew
    have G:=dJ (ar.out.trans aw);rw[am];clear am aw A1 A2 E1 E2 cv mixed aK aN aL aM;by_cases h0:E=0
    ·have aB:=dJ (I.out h0);rw[aB.out]at ae;subst h0;clear I;have tk:=True.intro
     go_wp2_with (first|(go_at_call 14;refine(K.out _ (t.out.trans G.out)).mono ?_;rintro e w4 ⟨U,ai,X,ak,R,ag,rfl,H,g4⟩;obtain⟨Q,aF,A,M⟩:=dz w4 (.slice U g.params.length ai) (.int .i64 g.ret) (.slice X g.slots.length ak) (.slice R g.blocks.length ag);have l:Hid (Gr W Q):=dJ (G.out.trans (g4.trans A.out));clear g4)|(go_at_call 16;refine(L.out _ (t.out.trans l.out)).mono ?_;rintro e w5 ⟨V,aj,Y,al,T,ah,rfl,ac,g5⟩;obtain⟨W5,aG,C,af⟩:=dz w5 (.slice V g.params.length aj) (.int .i64 g.ret) (.slice Y g.slots.length al) (.slice T g.blocks.length ah);have Z:Hid (Gr Q W5):=dJ (g5.trans C.out);obtain⟨n0,n1,n2,n3⟩:=M.out W5 Z.out;obtain⟨p0,p1,p2,p3⟩:=af.out W5 (qj _);clear g5)|(have _t:=tk;go_at_call 15;(with_reducible refine(av.out _ _ _ (H.out.gr (A.out.trans Z.out)) (ac.out.gr C.out)).mono ?_);rintro e w6 ⟨rfl,g6⟩;have N:Hid (Gr Q w6):=dJ (Z.out.trans g6);obtain⟨q0,q1,q2,q3⟩:=M.out w6 N.out;obtain⟨y0,y1,y2,y3⟩:=KP.out w6 (l.out.trans N.out);clear g6 tk _t)|(go_at_call 15;(with_reducible refine(ae.out _ _ _ (HF.out.gr (t.out.trans (l.out.trans N.out))) (H.out.gr (A.out.trans N.out))).mono ?_);rintro e w7 ⟨rfl,g7⟩;have G7:Hid (Gr Q w7):=dJ (N.out.trans g7);clear g7)|(go_at_call 11;refine(HK.out _ (t.out.trans (l.out.trans G7.out))).mono ?_;rintro e w8 ⟨rfl,g8⟩))
     go_ret;exact⟨rfl,(t.out.trans (l.out.trans G7.out)).trans g8⟩
    ·have c1:(E != 0)=true:=by simpa using h0
     have c2:(E == E)=true:=by simp
     clear I h0 ae
     go_wp2_with (first|(go_at_call 14;refine(K.out _ (t.out.trans G.out)).mono ?_;rintro e w4 ⟨U,ai,X,ak,R,ag,rfl,H,g4⟩;obtain⟨Q,aF,A,M⟩:=dz w4 (.slice U g.params.length ai) (.int .i64 g.ret) (.slice X g.slots.length ak) (.slice R g.blocks.length ag);have l:Hid (Gr W Q):=dJ (G.out.trans (g4.trans A.out));clear g4)|(go_at_call 16;refine(L.out _ (t.out.trans l.out)).mono ?_;rintro e w5 ⟨V,aj,Y,al,T,ah,rfl,ac,g5⟩;obtain⟨W5,aG,C,af⟩:=dz w5 (.slice V g.params.length aj) (.int .i64 g.ret) (.slice Y g.slots.length al) (.slice T g.blocks.length ah);have Z:Hid (Gr Q W5):=dJ (g5.trans C.out);obtain⟨n0,n1,n2,n3⟩:=M.out W5 Z.out;obtain⟨p0,p1,p2,p3⟩:=af.out W5 (qj _);clear g5)|(go_at_call 15;refine(av.out _ _ _ (H.out.gr (A.out.trans Z.out)) (ac.out.gr C.out)).mono ?_;rintro e w6 ⟨rfl,g6⟩;have N:Hid (Gr Q w6):=dJ (Z.out.trans g6);clear g6)|(go_at_call 11;refine(HK.out _ (t.out.trans (l.out.trans N.out))).mono ?_;rintro e w8 ⟨rfl,g8⟩))
     go_ret;exact⟨rfl,(t.out.trans (l.out.trans N.out)).trans g8⟩
  ·have c1:(e != 0)=true:=by simpa using h0
   clear HS h0
   go_enter func5, ntmps5
   go_wp2_with (first|(go_at_call 10;refine(HL.out _ t.out).mono ?_;rintro e j ⟨rfl,g1⟩;have B:=dJ (t.out.trans g1);have F:=dJ g1;obtain⟨l0,l1,l2,l3⟩:=KP.out j g1;clear g1)|(go_at_call 12;refine(J.out _ B.out).mono ?_;rintro e w2 ⟨rfl,g2⟩;have G2:=dJ (B.out.trans g2);clear g2)|(go_at_call 11;refine(HK.out _ G2.out).mono ?_;rintro e w3 ⟨rfl,g3⟩))
   go_ret;exact⟨rfl,G2.out.trans g3⟩

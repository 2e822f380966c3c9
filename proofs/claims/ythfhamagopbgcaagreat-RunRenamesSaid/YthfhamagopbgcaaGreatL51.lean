/- Parts. -/
import Derived.Test.YthfhamagopbgcaaGreatL50
set_option linter.unusedSimpArgs false
set_option linter.unusedVariables false
set_option maxRecDepth 100000
set_option maxHeartbeats 16000000
open Go.Proofs.Tryz
namespace Go.Proofs.YthfhamagopbgcaaGreat
section
open Go.RowKit
section
variable {w wb wr wr':World}{Bo:Nat}{f:Fn}{vp vs vb:Value}{row:Array Value}{k:Nat}
theorem CInv.append3 {ops:Array Oper}{rest:List Oper}{o:Oper}{a:Act}{Q:Exit->Act->World->Prop}{u:Value}{l:List Ins}(h:CInv w wb Bo f vp vs row k vb wr)(hu:TB w.heap.size wr u l)(hl:f.blocks[k]?=some l)(hk:k<1000000000)
  (hgd:o.guard=none) (s x:Operand) (ho:o.op=.call {callee:=.builtin .append,args:=#[s,x],argTypes:=#[23,23]}) (hs:a.eval s=vb) (hx:a.eval x=.slice (some ⟨wr.heap.size,0,none⟩) 1 1) {e':TypeId}
  (hK:∀g c w1,w1.heap[Bo]?=some (.cells #[vp,.int .i64 f.ret,vs,vb] 25 (0,0))->CInv w wb Bo f vp vs row (k+1) (.slice (some ⟨g,0,none⟩) (k+1) c) (w1.setCell ⟨Bo,3,none⟩ (.slice (some ⟨g,0,none⟩) (k+1) c))->Kt wr (w1.setCell ⟨Bo,3,none⟩ (.slice (some ⟨g,0,none⟩) (k+1) c))->KeepsOthers wr (w1.setCell ⟨Bo,3,none⟩ (.slice (some ⟨g,0,none⟩) (k+1) c))->wpList prog ops Q rest (a.put o.dst (.slice (some ⟨g,0,none⟩) (k+1) c)) w1) :
  wpList prog ops Q (o::rest) a (wr.alloc (.cells #[u] e')):=by
 obtain⟨i,hi,hz,r,H⟩:=info_parts xX;obtain⟨us,J,K,F,X,Y,Z,L,h8,h9,W,E,z⟩:=h;have I:=hu;obtain⟨B,C,rfl,-,-,-⟩:=hu;refine dG hgd s x 23 ho wb.heap.size 68 i _ 1 24 underlying23 hi hz r H rfl (by omega) vb us.length us hs (ew K ((wL _).alloc _)) _ 1 [.slice B l.length C] hx (wM _ _ _) ?_ ?_ ?_ ?_ ?_
 ·intro y O;simp at O;subst O;rfl
 ·simp only[maxLen];omega
 ·omega
 ·simp;omega
 ·intro v' w1 m M G;obtain⟨g,c,rfl⟩:=ownsRow_succ m;have p:Own1 wb.heap.size 68 w1 (.slice (some ⟨g,0,none⟩) (us.length+1) c) (us++[.slice B l.length C]):=by unfold Own1;rw[vW];exact m
  obtain⟨m1,R,S,T,m5,m6,U,D⟩:=eS (i:=3) (n₀:=wb.heap.size) (ys:=us++[.slice B l.length C]) J (by decide) K p M G;rw[F]at p R S T U D ⊢;have N:wr.heap.size<=w1.heap.size:=by have:=M.size;simp at this;omega
  have d:Kt wr (w1.setCell ⟨Bo,3,none⟩ (.slice (some ⟨g,0,none⟩) (k+1) c)):=fun b cc t hb ht=>D b cc t hb (by rcases ht with rfl|rfl<;>decide) (fun e=>by rw[e,J]at hb;rcases ht with rfl|rfl<;>cases hb)
  refine hK g c w1 m1 ⟨us++[.slice B l.length C],R,S,by simp[F],fun j l' hj q=>?_,Y.kt d,Z.kt d,L.below (U w.heap.size z (by omega) L.size) (vV _),D _ _ _ h8 (by decide) (by omega),D _ _ _ h9 (by decide) (by omega),?_,E,z⟩ d T
  ·rcases wh j k with A|A
   ·obtain⟨u',q1,q2⟩:=X j l' A q;exact⟨u',by rw[vJ (by omega)];exact q1,q2.kt d⟩
   ·obtain rfl:j=k:=by omega
    rw[hl]at q;cases q;exact⟨_,by rw[<-F];simp,I.kt d⟩
  ·have:=(KeepsWalks.setCell w1 ⟨Bo,3,none⟩ (.slice (some ⟨g,0,none⟩) (k+1) c)).size;omega
end
theorem xL {W a b:World}{r:Nat}(h:Gr W a)(g:a.grownBy b (some r))(hr:W.heap.size<=r):Gr W b :=
 h.grown g fun k d=>by injection d with d;omega
theorem vi (v vo:Value)(f:Fn)(o:List Nat)(w:World)(hf:FnAt w.heap.size w v f)(hvo:IntsAt w.heap.size w vo (o.map fun b:Nat=>(b:Int)))(hv:Ref.Val f)(hk:Ref.Keeps f o) :
  Calls prog 60 #[v,vo] w fun e w'=>∃A1 c1 A2 c2 A3 c3,e=.returned (.agg #[.slice A1 f.params.length c1,.int .i64 f.ret,.slice A2 f.slots.length c2,.slice A3 o.length c3])/\Hid (CpAt w.heap.size w' (.agg #[.slice A1 f.params.length c1,.int .i64 f.ret,.slice A2 f.slots.length c2,.slice A3 o.length c3]) (Ref.moved f o))/\Gr w w':=by
 have Q:=dJ hv;have HK:=dJ hk;obtain⟨cK,cL,cM,cN,cO⟩:=hv.size;have cH:=hk.toOrd.short;have cz:Ref.count f<=43:=by unfold Ref.count Ref.number;rw[wg];omega
 obtain⟨vp,vs,vb,rfl,hp,bO,T⟩:=hf;have HP:=dJ hp;have HS:=dJ bO;obtain⟨Ap,cp,rfl,cI,ch,-⟩:=hp;obtain⟨As,cs,rfl,cJ,ci,-⟩:=bO;obtain⟨Ab,cb,rfl,cE,a3,U⟩:=T;obtain⟨bb,ob,rfl,b9,ae⟩:=U (by omega);obtain⟨Ao,co,rfl,cg,aF,a8⟩:=hvo;rw[vS]at cg aF a8 ⊢;obtain⟨bo,oo,rfl,cc,bN⟩:=a8 (by have:=o_pos' hk;omega);have bu:Hid (∀w',Gr w w'->∀(k b:Nat),o[k]?=some b->w'.cell? ⟨bo,oo+k,none⟩=some (.int .i64 (b:Int))):=fun w' g k b hkb=>(g.cell _ _ cc).trans (bN k b (by rw[vH,hkb];rfl))
 have aN:Hid (∀(b:Nat)(l:List Ins),f.blocks[b]?=some l->∃Al cl,(∀w',Gr w w'->w'.cell? ⟨bb,ob+b,none⟩=some (.slice Al l.length cl))/\l.length<=cl/\l.length<=17592186044416/\(0<l.length->∃b off,Al=some ⟨b,off,none⟩/\b<w.heap.size/\∀j x,l[j]?=some x->InsAt w.heap.size w b (off+j*6) x)):=fun b l hl=>by obtain⟨u,ck,Al,cl,rfl,h1,h2,h4⟩:=ae b l hl;exact⟨Al,cl,fun w' g=>(g.cell _ _ b9).trans ck,h1,h2,h4⟩
 obtain⟨W,hW⟩:=xJ ((w.alloc (.cells #[.slice Ap f.params.length cp,.int .i64 f.ret,.slice As f.slots.length cs,.slice (some ⟨bb,ob,none⟩) f.blocks.length cb] 25)).alloc (.cells #[.slice none 0 0,.int .i64 0,.slice none 0 0,.slice none 0 0] 25));have bD:Gr w W:=by rw[<-hW];exact((wL w).alloc _).alloc _
 have bG:W.heap.size=w.heap.size+2:=by rw[<-hW];simp
 obtain⟨row,ay⟩:∃row:Array Value,#[.slice Ap f.params.length cp,.int .i64 f.ret,.slice As f.slots.length cs,.slice (some ⟨bb,ob,none⟩) f.blocks.length cb]=row:=⟨_,rfl⟩
 have aw:W.heap[w.heap.size]?=some (.cells #[.slice Ap f.params.length cp,.int .i64 f.ret,.slice As f.slots.length cs,.slice (some ⟨bb,ob,none⟩) f.blocks.length cb] 25 (0,0)):=by rw[<-hW];exact(((wL _).alloc _).heap _ (by simp)).trans (heap_alloc_new w _)
 have ax:W.heap[w.heap.size+1]?=some (.cells #[.slice none 0 0,.int .i64 0,.slice none 0 0,.slice none 0 0] 25 (0,0)):=by rw[<-hW];exact heap_alloc2_new w _ _
 have bx:=dJ ay
 have ac:Hid (∀w',Gr W w'->w'.cell? ⟨w.heap.size,0,none⟩=some (.slice Ap f.params.length cp)/\w'.cell? ⟨w.heap.size,1,none⟩=some (.int .i64 f.ret)/\w'.cell? ⟨w.heap.size,2,none⟩=some (.slice As f.slots.length cs)/\w'.cell? ⟨w.heap.size,3,none⟩=some (.slice (some ⟨bb,ob,none⟩) f.blocks.length cb)):=fun w' q=>by have h:=(q.heap _ (by omega)).trans aw;exact⟨vX _ _ 0 _ _ _ h,vX _ _ 1 _ _ _ h,vX _ _ 2 _ _ _ h,vX _ _ 3 _ _ _ h⟩
 have bv:Hid (W.heap[w.heap.size]?=some (.cells row 25 (0,0))):=by show _=_;rw[<-ay];exact aw
 have bw:=dJ ax;have af:=dJ bD;have aZ:=dJ bG;obtain⟨k0,k1,k2,k3⟩:=ac.out W (wL W);have aK:Hid (∀k b:Nat,o[k]?=some b->∃l,f.blocks[b]?=some l/\b<f.blocks.length):=fun k b h=>⟨_,vu (hk.lt b (vz h)),hk.lt b (vz h)⟩;have cG:=@run_makeMap prog;clear aw ax U ay hv hk ae a8 bN bD bG
 go_enter func60, ntmps60
 go_upto_block 0 with (at_make;refine xg rfl _ _ rfl w.heap.size f.blocks.length rfl rfl (by omega) af.out.size ?_;intro w2 az a4;have aD:=dJ az;have aB:=dJ a4;clear k0 k1 k2 k3;obtain⟨k0,k1,k2,k3⟩:=ac.out _ a4;clear az a4)
 have aC:Hid (W.heap.size<=W.heap.size):=vV _;have aA:Hid (W.heap.size<w2.heap.size):=aD.out.lt.2;obtain⟨T,au⟩:=xJ W.heap.size;have cC:Hid (W.heap.size=T):=au;rw[au]at aD ⊢;replace aC:Hid (W.heap.size<=T):=by rw[au]at aC ⊢;exact aC
 replace aA:Hid (T<w2.heap.size):=by rw[au]at aA;exact aA
 clear au
 go_cut [] (fun wx=>∃ns:List Int,Hid (NRow w.heap.size T f.blocks.length wx ns)/\Hid (Gr W wx)/\Hid (∀v:Nat,v<f.blocks.length->ns[v]?=some ((Ref.number f v:Nat):Int)))
 case first =>
  go_wp2_with (fail)
  go_loopw [6,32] (fun s6 i wr=>∃(k:Nat)(ns:List Int),k<=f.blocks.length/\i=.int .i64 k/\s6=.int .i64 (Ref.number f k:Nat)/\Hid (NRow w.heap.size T f.blocks.length wr ns)/\Hid (Gr W wr)/\Hid (∀v:Nat,v<k->ns[v]?=some ((Ref.number f v:Nat):Int))) (fun _ i _=>f.blocks.length-(intOf i).toNat)
  case atStart=>exact⟨0,_,vU _,rfl,by simp[Ref.number,Ref.total],aD,aB,dJ fun v h=>by omega⟩
  case round =>
   clear k0 k1 k2 k3;obtain⟨k,ns,hk,rfl,rfl,HR,HG,HV⟩:=hrel;by_cases t:k<f.blocks.length
   ·obtain⟨l,hl⟩:∃l,f.blocks[k]?=some l:=⟨_,vu t⟩;obtain⟨Al,cl,R,bI,bJ,aj⟩:=aN.out k l hl;have e1:=R _ (af.out.trans HG.out);have a7:=Ref.number_count f hl;have br:=dJ (Ref.number_next f hl);have cf:=HR.out.len;obtain⟨z,hz⟩:∃z,ns[k]?=some z:=⟨_,vu (by omega)⟩;have q0:=HR.out.cell k z hz;have q1:=HR.out.frozen k;have bB:Hid (∀v:Nat,v<k+1->(ns.set k ((Ref.number f k:Nat):Int))[v]?=some ((Ref.number f v:Nat):Int)):=yk (by omega) HV.out;have z0:(0:Int)<=(k:Int):=by omega
    have z1:(k:Int)<(f.blocks.length:Int):=by omega
    have L:=dJ (HR.out.set_ k ((Ref.number f k:Nat):Int));have E:Hid (Gr W (wr.setCell ⟨T,k,none⟩ (.int .i64 ((Ref.number f k:Nat):Int)))):=HG.out.setCell aC.out _;obtain⟨nk,bM⟩:=xJ (Ref.number f k);rw[bM]at a7 br bB L E ⊢;clear cf hz hl R aj t bM;go_wp2_with (fail);go_roundw;case rel=>exact⟨k+1,_,by omega,by go_num,by rw[br.out];go_num,L,E,bB⟩
    case measure=>simp[intOf]<;>omega
   ·obtain rfl:k=f.blocks.length:=by omega
    go_wp2_with (fail);go_meet;exact⟨ns,HR,HG,HV⟩
 case rest =>
 obtain⟨ak,aW,aQ,bC⟩:=hcut;clear aD aB k0 k1 k2 k3 aA;obtain⟨J,ax⟩:=xJ wc.heap.size;obtain⟨W2,bE⟩:=xJ (wc.alloc (.map #[] 0))
 have aa:Hid (MapAt J 0 W2 (fun _=>none)/\NRow w.heap.size T f.blocks.length W2 ak/\Gr W W2/\T<J/\W.heap.size<=J):=by rw[<-bE,<-ax];exact⟨MapAt.made wc,aW.out.gr ((wL _).alloc _),aQ.out.alloc _,aW.out.lt.2,aQ.out.size⟩
 obtain⟨k0,k1,k2,k3⟩:=ac.out _ aa.out.2.2.1
 go_upto_block 2 with (fail)
 clear bE ax;have N:Hid (T≠J/\W.heap.size<=J):=⟨by have:=aa.out.2.2.2.1;omega,aa.out.2.2.2.2⟩
 go_cut [] (fun wx=>∃M:Int->Option Int,Hid (MapAt J f.params.length wx M)/\Hid (∀v:Nat,v<f.params.length->M (v:Int)=some (v:Int))/\Hid (NRow w.heap.size T f.blocks.length wx ak)/\Hid (Gr W wx))
 case first =>
  go_wp2_with (fail)
  go_loopw [50] (fun i wr=>∃(k:Nat)(M:Int->Option Int),k<=f.params.length/\i=.int .i64 k/\Hid (MapAt J k wr M)/\Hid (∀v:Nat,v<k->M (v:Int)=some (v:Int))/\Hid (NRow w.heap.size T f.blocks.length wr ak)/\Hid (Gr W wr)) (fun i _=>f.params.length-(intOf i).toNat)
  case atStart=>exact⟨0,_,vU _,rfl,aa.out.1,dJ fun v h=>by omega,aa.out.2.1,aa.out.2.2.1⟩
  case round =>
   clear k0 k1 k2 k3;obtain⟨k,M,hk,rfl,HM,K,HR,HG⟩:=hrel;by_cases t:k<f.params.length
   ·have hw:Word (k:Int):=⟨by omega,by omega⟩;have a5:k<=1000000:=by omega
    have z0:(0:Int)<=(k:Int):=by omega
    have z1:(k:Int)<(f.params.length:Int):=by omega
    have an:Hid (∀v:Nat,v<k+1->(fun j:Int=>if j=(k:Int) then some (k:Int) else M j) (v:Int)=some (v:Int)):=fun v hv=>by
     show (if _ then _ else _)=_;by_cases e:(v:Int)=(k:Int)
     ·rw[wa e,e]
     ·rw[yD e];exact K.out v (by omega)
    clear t;go_wp2_with (at_mapUpdate;refine MapAt.store HM.out a5 (k:Int) (k:Int) hw hw rfl (.tmp 53) (.tmp 54) (.tmp 55) rfl rfl rfl rfl ?_;intro w3 Z B;have ai:=dJ Z;have L:=dJ (HR.out.other B N.out.1);have E:Hid (Gr W w3):=xL HG.out B N.out.2;clear Z B);go_roundw;case rel=>exact⟨k+1,_,by omega,by go_num,ai,an,L,E⟩
    case measure=>simp[intOf]<;>omega
   ·obtain rfl:k=f.params.length:=by omega
    go_wp2_with (fail);go_meet;exact⟨M,HM,K,HR,HG⟩
 case rest =>
 obtain⟨M1,aT,ad,aX,aR⟩:=hcut;clear aa aW aQ k0 k1 k2 k3;obtain⟨r2,ba⟩:=xJ wc.heap.size;obtain⟨W3,bF⟩:=xJ (wc.alloc (.map #[] 0))
 have ag:Hid (MapAt J f.params.length W3 M1/\MapAt r2 0 W3 (fun _=>none)/\NRow w.heap.size T f.blocks.length W3 ak/\Gr W W3):=by rw[<-bF,<-ba];exact⟨aT.out.gr ((wL _).alloc _),MapAt.made wc,aX.out.gr ((wL _).alloc _),aR.out.alloc _⟩
 have O:Hid (T≠r2/\J≠r2/\W.heap.size<=r2):=by rw[<-ba];exact⟨by have:=aX.out.lt.2;omega,by have:=aT.out.lt;omega,aR.out.size⟩
 obtain⟨k0,k1,k2,k3⟩:=ac.out _ ag.out.2.2.2
 go_upto_block 4 with (fail)
 clear bF ba
 go_cut [] from 12 to 91 (fun wx=>∃(MV MB:Int->Option Int)(n1 n2:Nat),Hid (MapAt J n1 wx MV)/\Hid (MapAt r2 n2 wx MB)/\Hid (Maps2 f o MV MB)/\Hid (Gr W wx))
 case first =>
  go_wp2_with (fail)
  go_loopw [12,63] (fun s12 i wr=>∃(k:Nat)(MV MB:Int->Option Int),k<=o.length/\i=.int .i64 k/\s12=.int .i64 (Ref.start f (o.take k):Nat)/\Hid (MapAt J (Ref.start f (o.take k)) wr MV)/\Hid (Dm f o MV k 0)/\Hid (MapAt r2 k wr MB)/\Hid (Db f o MB k)/\Hid (NRow w.heap.size T f.blocks.length wr ak)/\Hid (Gr W wr)) (fun _ i _=>o.length-(intOf i).toNat)
  case atStart=>exact⟨0,M1,_,vU _,rfl,by simp[Ref.start],by (show MapAt _ _ _ _);simpa[Ref.start] using ag.out.1,Dm.start ad.out,ag.out.2.1,Db.start,ag.out.2.2.1,ag.out.2.2.2⟩
  case round =>
   clear k0 k1 k2 k3;obtain⟨k,MV,MB,hk,rfl,rfl,HM,HD,y,aO,HR,HG⟩:=hrel;by_cases t:k<o.length
   ·obtain⟨b,p⟩:∃b,o[k]?=some b:=⟨_,vu t⟩;obtain⟨l,hl,H⟩:=aK.out k b p;have cj:=xu Q.out HK.out p hl;have a7:=Ref.number_count f hl;have aY:Hid (Ref.start f (o.take (k+1))=Ref.start f (o.take k)+l.length):=by show _=_;rw[Ref.moved_nums_start f o k b p,Ref.getD_some hl]
    have aV:Hid (∀i,i<l.length->Ref.num f o ((Ref.number f b+i:Nat):Int)=((Ref.start f (o.take k)+i:Nat):Int)):=fun i hi=>Ref.num_at HK.out.toOrd hl hi p;have bs:=dJ p;have bi:=dJ hl;have bq:=dJ (bC.out b H);have aH:=dJ (aO.out.step HK.out.nodup p);obtain⟨Al,cl,R,bI,bJ,aj⟩:=aN.out b l hl;have bR:=dJ R;have l0:=bu.out _ (af.out.trans HG.out) k b p;have cn:Word (b:Int):=⟨by omega,by omega⟩;have cq:Word (k:Int):=⟨by omega,by omega⟩;have a5:k<=1000000:=by omega
    obtain⟨q,hq⟩:=xJ (Ref.start f (o.take k));obtain⟨nb,av⟩:=xJ (Ref.number f b);rw[hq]at cj aY aV HM ⊢;rw[av]at a7 aV bq;have bp:=dJ av;have z0:(0:Int)<=(k:Int):=by omega
    have z1:(k:Int)<(o.length:Int):=by omega
    have z2:(0:Int)<=(b:Int):=by omega
    have z3:(b:Int)<(f.blocks.length:Int):=by omega
    clear p hl R aj hq av t H aO;go_wp2_with (at_mapUpdate;refine MapAt.store y.out a5 (b:Int) (k:Int) cn cq rfl (.tmp 68) (.tmp 69) (.tmp 70) rfl rfl rfl rfl ?_;intro w3 Z B;have F:=dJ Z;have L:=dJ (HR.out.other B O.out.1);have ai:=dJ (HM.out.other B O.out.2.1);have E:Hid (Gr W w3):=xL HG.out B O.out.2.2;clear Z B;obtain⟨k0,k1,k2,k3⟩:=ac.out _ E.out;have l1:=bR.out _ (af.out.trans E.out));obtain⟨aE,aL⟩:∃aE:Int->Option Int,(fun j:Int=>if j=(b:Int) then some (k:Int) else MB j)=aE:=⟨_,rfl⟩;rw[aL]at F aH;clear aL k0 k1 k2 k3 l0 l1 y HM HR HG
    go_loopw [12,77] (fun s12 cy wr=>∃(i:Nat)(MV:Int->Option Int),i<=l.length/\cy=.int .i64 i/\s12=.int .i64 ((q:Int)+(i:Int))/\Hid (MapAt J (q+i) wr MV)/\Hid (Dm f o MV k i)/\Hid (MapAt r2 (k+1) wr aE)/\Hid (NRow w.heap.size T f.blocks.length wr ak)/\Hid (Gr W wr)) (fun _ i _=>l.length-(intOf i).toNat)
    case atStart=>exact⟨0,MV,vU _,rfl,by simp,ai,HD,F,L,E⟩
    case round =>
     clear ai HD F L E;obtain⟨i,MV,hi,rfl,rfl,HM,HD,y,HR,HG⟩:=hrel;by_cases t:i<l.length
     ·have e0:=HR.out.cell b _ bq.out;have cr:Word ((nb:Int)+(i:Int)):=⟨by omega,by omega⟩;have ct:Word ((q:Int)+(i:Int)):=⟨by omega,by omega⟩;have ce:q+i<=1000000:=by omega
      have bS:Hid (Dm f o (fun j:Int=>if j=(nb:Int)+(i:Int) then some ((q:Int)+(i:Int)) else MV j) k (i+1)):=by have:=HD.out.step bs.out bi.out t;rw[bp.out,aV.out i t]at this;show Dm _ _ _ _ _;simpa using this
      have z4:(0:Int)<=(i:Int):=by omega
      have z5:(i:Int)<(l.length:Int):=by omega
      have z6:(0:Int)<=(nb:Int):=by omega
      have z7:(0:Int)<=(q:Int):=by omega
      have z8:(nb:Int)+(i:Int)<=43:=by omega
      have z9:(q:Int)+(i:Int)<=42:=by omega
      clear t;go_wp2_with (at_mapUpdate;refine MapAt.store HM.out ce ((nb:Int)+(i:Int)) ((q:Int)+(i:Int)) cr ct rfl (.tmp 80) (.tmp 86) (.tmp 87) rfl rfl rfl rfl ?_;intro w3 Z B;have ai:=dJ Z;have L:=dJ (HR.out.other B N.out.1);have F:=dJ (y.out.other B (Ne.symm O.out.2.1));have E:Hid (Gr W w3):=xL HG.out B N.out.2;clear Z B);go_roundw;case rel=>exact⟨i+1,_,by omega,by go_num,by go_num,ai,bS,F,L,E⟩
      case measure=>simp[intOf]<;>omega
     ·obtain rfl:i=l.length:=by omega
      have bV:Hid (MapAt J (Ref.start f (o.take (k+1))) wr MV):=by show MapAt _ _ _ _;rw[aY.out];exact HM.out
      go_wp2_with (fail);go_roundw;case rel=>exact⟨k+1,MV,aE,by omega,by go_num,by rw[aY.out];go_num,bV,dJ (HD.out.next bs.out bi.out rfl),y,aH,HR,HG⟩
      case measure=>simp[intOf]<;>omega
   ·obtain rfl:k=o.length:=by omega
    go_wp2_with (fail);go_meet;exact⟨MV,MB,_,_,HM,y,dJ (Maps2.of HD.out aO.out),HG⟩
 case rest =>
 obtain⟨MV,MB,n1,n2,K,y,aU,ah⟩:=hcut;have S:Gr w wc:=af.out.trans ah.out;have cA:w.heap.size+2<=wc.heap.size:=by have:=ah.out.size;have:=aZ.out;omega
 have G:Hid (∀w',Gr wc w'->w'.cell? ⟨w.heap.size,0,none⟩=some (.slice Ap f.params.length cp)/\w'.cell? ⟨w.heap.size,1,none⟩=some (.int .i64 f.ret)/\w'.cell? ⟨w.heap.size,2,none⟩=some (.slice As f.slots.length cs)):=fun w' g=>by obtain⟨a0,a1,a2,-⟩:=ac.out _ (ah.out.trans g);exact⟨a0,a1,a2⟩
 have ap:Hid (wc.heap[w.heap.size]?=some (.cells row 25 (0,0))):=(ah.out.heap _ (by have:=aZ.out;omega)).trans bv.out;have aq:Hid (wc.heap[w.heap.size+1]?=some (.cells #[.slice none 0 0,.int .i64 0,.slice none 0 0,.slice none 0 0] 25 (0,0))):=(ah.out.heap _ (by have:=aZ.out;omega)).trans bw.out
 have al:Hid (∀r,Gr wc r->Calls prog 85 #[.slice Ap f.params.length cp] r fun e w'=>∃A c,e=.returned (.slice A f.params.length c)/\Hid (TI w.heap.size w' (.slice A f.params.length c) f.params)/\Gr r w'):=fun r q =>
  (ic _ f.params _ r (HP.out.gr (S.trans q)) (vV _)).mono fun _ _ ⟨A,c,h1,h2,h3⟩=>⟨A,c,h1,(h2.ti ch).lower (by have:=q.size;omega),h3⟩
 have am:Hid (∀r,Gr wc r->Calls prog 85 #[.slice As f.slots.length cs] r fun e w'=>∃A c,e=.returned (.slice A f.slots.length c)/\Hid (TI w.heap.size w' (.slice A f.slots.length c) f.slots)/\Gr r w'):=fun r q =>
  (ic _ f.slots _ r (HS.out.gr (S.trans q)) (vV _)).mono fun _ _ ⟨A,c,h1,h2,h3⟩=>⟨A,c,h1,(h2.ti ci).lower (by have:=q.size;omega),h3⟩
 have HZ:Hid (∀w',Gr (wc.alloc (.cells #[.slice none 0 0,.int .i64 0,.slice none 0 0,.slice none 0 0] 25)) w'->w'.heap[wc.heap.size]?=some (.cells #[.slice none 0 0,.int .i64 0,.slice none 0 0,.slice none 0 0] 25 (0,0))):=fun w' q =>
  (q.heap _ (by simp)).trans (heap_alloc_new wc _)
 clear ag N O aT ad aX aR bC k0 k1 k2 k3 hW
 go_upto_region 28 with (fail)
 go_cut [16] from 92 to 100 (fun cx wx=>∃Bo A1 c1 A2 c2,cx=.pointer (some ⟨Bo,0,none⟩)/\Hid (CInv w wx Bo (Ref.moved f o) (.slice A1 f.params.length c1) (.slice A2 f.slots.length c2) row 0 (.slice none 0 0) wx)/\Hid (Gr wc wx))
 case first =>
  clear K y aU Q HK
  go_region_held3 (fun w'=>w'.cell? ⟨w.heap.size,0,none⟩=some (.slice Ap f.params.length cp)/\w'.cell? ⟨w.heap.size,1,none⟩=some (.int .i64 f.ret)/\w'.cell? ⟨w.heap.size,2,none⟩=some (.slice As f.slots.length cs))
   (first|exact G.out _ (wL wc).drew|exact G.out _ gl|exact G.out _ g3|exact G.out _ g4|exact G.out _ ((wL wc).alloc _).drew|exact G.out _ ((wL wc).drew.alloc _)|exact G.out _ (g3.alloc _)|exact G.out _ (g4.alloc _)|exact G.out _ (gl.alloc _)|exact G.out _ (oe gl (by first|omega|(have:=g3.size;omega)|(have:=g4.size;omega)) _ _ _ _))
   (first|(go_at_call 85;(with_reducible refine(al.out _ (wL _).drew).mono ?_);rintro e3 w3 ⟨A3,c3,rfl,T3,C⟩;have g3:Gr wc w3:=(wL _).drew.trans C)|(go_at_call 85;(with_reducible refine(am.out _ (wL _).drew).mono ?_);rintro e4 w4 ⟨A4,c4,rfl,T4,D⟩;have g4:Gr wc w4:=(wL _).drew.trans D)|(go_at_call 85;(with_reducible refine(al.out _ ((wL _).alloc _).drew).mono ?_);rintro e3 w3 ⟨A3,c3,rfl,T3,C⟩;have g3:Gr wc w3:=((wL _).alloc _).drew.trans C;have U:=HZ.out _ ((wL _).drew.trans C))|(go_at_call 85;(with_reducible refine(am.out _ ((wL _).alloc _).drew).mono ?_);rintro e4 w4 ⟨A4,c4,rfl,T4,D⟩;have g4:Gr wc w4:=((wL _).alloc _).drew.trans D;have U:=HZ.out _ ((wL _).drew.trans D))|(go_at_call 85;(with_reducible refine(am.out _ g3).mono ?_);rintro e4 wl ⟨A4,c4,rfl,T4,D⟩;have gl:Gr wc wl:=g3.trans D;have TA:=dJ (T3.out.gr D);have TT:=T4;(try (have d:=(D.heap _ (vE.1 U).1).trans U;obtain⟨x0,x1,x2,x3⟩:=crw4 d 0 1 2 3;obtain⟨y0,y1,y2⟩:=frw3 d 0 1 2;have y3:=vY _ _ 3 _ _ d)))|(go_at_call 85;(with_reducible refine(am.out _ (g3.alloc (.cells #[.slice none 0 0,.int .i64 0,.slice none 0 0,.slice none 0 0] 25))).mono ?_);rintro e4 wl ⟨A4,c4,rfl,T4,D⟩;have gl:Gr wc wl:=(g3.alloc _).trans D;have TA:=dJ ((T3.out.gr ((wL _).alloc _)).gr D);have TT:=T4;have d:=(D.heap _ (vE.1 (heap_alloc_new w3 (.cells #[.slice none 0 0,.int .i64 0,.slice none 0 0,.slice none 0 0] 25))).1).trans (heap_alloc_new w3 (.cells #[.slice none 0 0,.int .i64 0,.slice none 0 0,.slice none 0 0] 25));obtain⟨x0,x1,x2,x3⟩:=crw4 d 0 1 2 3;obtain⟨y0,y1,y2⟩:=frw3 d 0 1 2;have y3:=vY _ _ 3 _ _ d)|(go_at_call 85;(with_reducible refine(al.out _ g4).mono ?_);rintro e3 wl ⟨A3,c3,rfl,T3,C⟩;have gl:Gr wc wl:=g4.trans C;have TA:=T3;have TT:=dJ (T4.out.gr C);(try (have d:=(C.heap _ (vE.1 U).1).trans U;obtain⟨x0,x1,x2,x3⟩:=crw4 d 0 1 2 3;obtain⟨y0,y1,y2⟩:=frw3 d 0 1 2;have y3:=vY _ _ 3 _ _ d)))|(go_at_call 85;(with_reducible refine(al.out _ (g4.alloc (.cells #[.slice none 0 0,.int .i64 0,.slice none 0 0,.slice none 0 0] 25))).mono ?_);rintro e3 wl ⟨A3,c3,rfl,T3,C⟩;have gl:Gr wc wl:=(g4.alloc _).trans C;have TA:=T3;have TT:=dJ ((T4.out.gr ((wL _).alloc _)).gr C);have d:=(C.heap _ (vE.1 (heap_alloc_new w4 (.cells #[.slice none 0 0,.int .i64 0,.slice none 0 0,.slice none 0 0] 25))).1).trans (heap_alloc_new w4 (.cells #[.slice none 0 0,.int .i64 0,.slice none 0 0,.slice none 0 0] 25));obtain⟨x0,x1,x2,x3⟩:=crw4 d 0 1 2 3;obtain⟨y0,y1,y2⟩:=frw3 d 0 1 2;have y3:=vY _ _ 3 _ _ d))
  all_goals go_wp2_with (fail)
  all_goals go_meet
  all_goals refine⟨_,A3,c3,A4,c4,rfl,dJ (CInv.turn (f:=f) ?_ rfl rfl rfl),dJ ?_⟩
  all_goals first
   | with_reducible exact CInv.start' S ap.out aq.out gl TA.out TT.out
   | with_reducible exact CInv.start S ap.out aq.out gl d (by first|omega|(have:=g3.size;omega)|(have:=g4.size;omega)) TA.out TT.out
   | with_reducible exact gl.alloc _
   | with_reducible exact oe gl (by first|omega|(have:=g3.size;omega)|(have:=g4.size;omega)) _ _ _ _
 case rest =>
 obtain⟨Bo,A1,c1,A2,c2,rfl,be,aS⟩:=hcut;have aJ:Hid (MapAt J n1 wc MV):=K.out.gr aS.out;have aI:Hid (MapAt r2 n2 wc MB):=y.out.gr aS.out
 have bz:Hid (∀(k:Nat)(vb:Value)(wr:World),CInv w wc Bo (Ref.moved f o) (.slice A1 f.params.length c1) (.slice A2 f.slots.length c2) row k vb wr->wr.cell? ⟨w.heap.size,3,none⟩=some (.slice (some ⟨bb,ob,none⟩) f.blocks.length cb)):=fun k vb wr h=>by have q:=h.src;rw[<-bx.out]at q;exact vX _ _ 3 _ _ _ q
 have bh:Hid (∀(k b:Nat)(l:List Ins)(i:Nat)(x:Ins),o[k]?=some b->f.blocks[b]?=some l->l[i]?=some x->∀r,Gr w r->MapAt J n1 r MV->MapAt r2 n2 r MB->∀Aa ca Av cv,IntsAt w.heap.size w (.slice Aa x.args.length ca) x.args->IntsAt w.heap.size w (.slice Av x.to.length cv) x.to->Calls prog 100 #[.agg #[.int .i64 x.op,.int .i64 x.width,.int .i64 x.flags,.slice Aa x.args.length ca,.int .u32 x.imm,.slice Av x.to.length cv],.map (some J),.map (some r2)] r fun e w'=>∃A3 c3 A4 c4,e=.returned (.agg #[.int .i64 (Ref.renum f o x).op,.int .i64 (Ref.renum f o x).width,.int .i64 (Ref.renum f o x).flags,.slice A3 (Ref.renum f o x).args.length c3,.int .u32 (Ref.renum f o x).imm,.slice A4 (Ref.renum f o x).to.length c4])/\Hid (TI w.heap.size w' (.slice A3 (Ref.renum f o x).args.length c3) (Ref.renum f o x).args/\TI w.heap.size w' (.slice A4 (Ref.renum f o x).to.length c4) (Ref.renum f o x).to)/\Gr r w'):=by intro k b l i x p hl hx r g m1 m2 Aa ca Av cv ha cm;refine(xk Q.out HK.out aU.out (vz p) hl hx _ J r2 n1 n2 r ⟨_,_,rfl,ha.gr g,cm.gr g⟩ m1 m2).mono ?_;rintro e w' ⟨A3,c3,A4,c4,he,⟨t1,t2⟩,hg⟩;exact⟨A3,c3,A4,c4,he,⟨t1.lower g.size,t2.lower g.size⟩,hg⟩
 have bX:=dJ (Ref.moved_len f o)
 have bk:Hid (∀(k b:Nat)(l:List Ins),o[k]?=some b->f.blocks[b]?=some l->(Ref.moved f o).blocks[k]?=some (l.map (Ref.renum f o))/\l.length<=43):=fun k b l h1 h2=>by obtain⟨l',q1,q2⟩:=Ref.moved_blk HK.out.toOrd h1;rw[h2]at q1;cases q1;exact⟨q2,by have:=xu Q.out HK.out h1 h2;omega⟩
 clear K y aU Q HK aS ah HP HS bv bw ap aq G af S ac al am HZ;go_wp2_with (fail)
 go_loopw [18,19,21,103] (fun _ _ _ i wr=>∃(k:Nat)(vb:Value),k<=o.length/\i=.int .i64 k/\Hid (CInv w wc Bo (Ref.moved f o) (.slice A1 f.params.length c1) (.slice A2 f.slots.length c2) row k vb wr)/\Hid (MapAt J n1 wr MV)/\Hid (MapAt r2 n2 wr MB)) (fun _ _ _ i _=>o.length-(intOf i).toNat)
 case atStart=>exact⟨0,_,vU _,rfl,be,aJ,aI⟩
 case round =>
  clear be aJ aI;obtain⟨k,vb,hk,rfl,HI,K,y⟩:=hrel;obtain⟨wo,b8⟩:∃wo,wo=wr:=⟨wr,rfl⟩;subst b8;by_cases t:k<o.length
  ·obtain⟨b,p⟩:∃b,o[k]?=some b:=⟨_,vu t⟩;obtain⟨l,hl,H⟩:=aK.out k b p;obtain⟨Al,cl,R,bI,bJ,aj⟩:=aN.out b l hl;obtain⟨bK,cF⟩:=bk.out k b l p hl;have bW:=dJ bK;have H4:Hid (0<l.length->∃b off,Al=some ⟨b,off,none⟩/\b<w.heap.size/\∀j x,l[j]?=some x->InsAt w.heap.size w b (off+j*6) x):=aj;have ar:=HI.out.toGr;have bd:=dJ ar;have e1:=bz.out _ _ _ HI.out;have e2:=bu.out _ ar k b p;have e3:=R _ ar
   have bU:Hid (∀(i:Nat)(x:Ins),l[i]?=some x->∀r,Gr wo r->∀Aa ca Av cv,IntsAt w.heap.size w (.slice Aa x.args.length ca) x.args->IntsAt w.heap.size w (.slice Av x.to.length cv) x.to->Calls prog 100 #[.agg #[.int .i64 x.op,.int .i64 x.width,.int .i64 x.flags,.slice Aa x.args.length ca,.int .u32 x.imm,.slice Av x.to.length cv],.map (some J),.map (some r2)] r fun e w'=>∃A3 c3 A4 c4,e=.returned (.agg #[.int .i64 (Ref.renum f o x).op,.int .i64 (Ref.renum f o x).width,.int .i64 (Ref.renum f o x).flags,.slice A3 (Ref.renum f o x).args.length c3,.int .u32 (Ref.renum f o x).imm,.slice A4 (Ref.renum f o x).to.length c4])/\Hid (TI w.heap.size w' (.slice A3 (Ref.renum f o x).args.length c3) (Ref.renum f o x).args/\TI w.heap.size w' (.slice A4 (Ref.renum f o x).to.length c4) (Ref.renum f o x).to)/\Gr r w') :=
    fun i x hx r g Aa ca Av cv=>bh.out k b l i x p hl hx r (ar.trans g) (K.out.gr g) (y.out.gr g) Aa ca Av cv
   have z0:(0:Int)<=(k:Int):=by omega
   have z1:(k:Int)<(o.length:Int):=by omega
   have z2:(0:Int)<=(b:Int):=by omega
   have z3:(b:Int)<(f.blocks.length:Int):=by omega
   clear p hl R bK aj ar t H;go_wp2_with (fail);clear e1 e2 e3
   go_loopw [19,21,113] (fun s _ i wx=>∃(j:Nat)(m:List Ins),j<=l.length/\i=.int .i64 j/\Hid (m=(l.take j).map (Ref.renum f o))/\Hid (OwnI w.heap.size wo.heap.size wx s m)/\Hid (Gr wo wx)) (fun _ _ i _=>l.length-(intOf i).toNat)
   case atStart=>exact⟨0,[],vU _,rfl,dJ rfl,OwnI.nil _ _ _,wL _⟩
   case round =>
    obtain⟨j,m,hj,rfl,HM,HO,ab⟩:=hrel;have bL:m.length<=1000000:=by rw[HM.out,vS,List.length_take];omega
    by_cases aM:j<l.length
    ·obtain⟨bl,ol,rfl,H,Y⟩:=H4.out (by omega);obtain⟨x,hx⟩:∃x,l[j]?=some x:=⟨_,vu aM⟩;obtain⟨va,vt,x0,x1,x2,x3,x4,x5,bP,bQ⟩:=Y j x hx;have b6:=dJ bP;have b7:=dJ bQ;obtain⟨Aa,ca,rfl,-,-,-⟩:=bP;obtain⟨Av,cv,rfl,-,-,-⟩:=bQ;have bc:=dJ fun r (q:Gr wr r)=>bU.out j x hx r (ab.out.trans q) Aa ca Av cv b6.out b7.out;obtain⟨X,hX⟩:=xJ (Ref.renum f o x);rw[hX]at bc;have bY:Hid (m++[X]=(l.take (j+1)).map (Ref.renum f o)):=by show _=_;rw[List.take_add_one,hx,List.map_append,HM.out,<-hX];rfl
     have I:=bd.out.trans ab.out;replace x0:=(I.cell _ _ H).trans x0;replace x1:=(I.cell _ _ H).trans x1;replace x2:=(I.cell _ _ H).trans x2;replace x3:=(I.cell _ _ H).trans x3;replace x4:=(I.cell _ _ H).trans x4;replace x5:=(I.cell _ _ H).trans x5;have bH:wo.heap.size<=wr.heap.size:=ab.out.size;have z4:(0:Int)<=(j:Int):=by omega
     have z5:(j:Int)<(l.length:Int):=by omega
     clear hx hX Y aM I
     go_wp2_with (first|(go_at_call 100;refine(bc.out _ ((wL _).alloc _)).mono ?_;rintro e r ⟨A3,c3,A4,c4,rfl,bA,g0⟩;have aP:Hid (Gr wr r):=((wL wr).alloc _).trans g0;have bZ:=dJ (HO.out.gr aP.out);have cw:wo.heap.size<=r.heap.size:=Nat.le_trans bH aP.out.size;clear g0 x0 x1 x2 x3 x4 x5)|(at_builtin;refine OwnI.app bZ.out bA.out.1 bA.out.2 cw bL rfl (.tmp 117) (.tmp 122) rfl rfl rfl ?_;intro A5 c5 w2 aF a3;have ao:=dJ aF;have aB:Hid (Gr wo w2):=(ab.out.trans aP.out).below a3 (vV _);clear aF a3))
     go_roundw;case rel=>exact⟨j+1,m++[X],by omega,by go_num,bY,by (show OwnI _ _ _ _ _);simpa using ao.out,aB⟩
     case measure=>simp[intOf]<;>omega
    ·obtain rfl:j=l.length:=by omega
     have bn:Hid (m=l.map (Ref.renum f o)):=by show _=_;rw[HM.out,wg]
     have ao:=HO.out;obtain⟨Au,cu,rfl⟩:=ao.form;have b5:Hid (TB w.heap.size wr (.slice Au m.length cu) m):=ao.tb (by omega) bd.out.size;obtain⟨cB,cD,rfl⟩:=HI.out.form;have bf:=dJ (HI.out.gr ab.out);have ad:=dJ (K.out.gr ab.out);have bj:=dJ (y.out.gr ab.out);have bm:Hid ((Ref.moved f o).blocks[k]?=some m):=by show _=_;rw[bn.out];exact bW.out
     have d:=bf.out.box;have b3:=vX _ _ 3 _ _ _ d;clear d HI HO ao bL HM;go_wp2_with (at_builtin;refine CInv.append3 bf.out b5.out bm.out (by omega) rfl _ _ rfl rfl rfl ?_;intro g5 c5 w5 a6 bg cd a9;have d3:=vX _ _ 3 _ _ _ a6;have q3:=vY _ _ 3 _ _ a6;have HJ:=dJ bg;have an:=dJ (ad.out.keeps a9);have F:=dJ (bj.out.keeps a9);clear a6 bg cd a9);go_roundw;case rel=>exact⟨k+1,_,by omega,by go_num,HJ,an,F⟩
     case measure=>simp[intOf]<;>omega
  ·obtain rfl:k=o.length:=by omega
   obtain⟨A3,c3,rfl⟩:=HI.out.form;have d:=HI.out.box;have aG:=HI.out.res;obtain⟨b0,b1,b2,b3⟩:=crw4 d 0 1 2 3;obtain⟨r0,J,r2,r3⟩:=crw4 aG 0 1 2 3;obtain⟨f0,f1,f2,f3⟩:=frw4 aG 0 1 2 3;have b4:=dJ aG
   have bT:Hid (CInv w wc Bo (Ref.moved f o) (.slice A1 f.params.length c1) (.slice A2 f.slots.length c2) row (Ref.moved f o).blocks.length (.slice A3 o.length c3) wo):=by show CInv _ _ _ _ _ _ _ _ _ _;rw[bX.out];exact HI.out
   clear d aG;go_wp2_with (fail);refine vZ (xD _ _ 4 _ (w.heap.size+1) _ _ _ _ _ rfl rfl (fh b4.out _ _ _ _) ⟨_,_,_,rfl⟩ ⟨_,rfl⟩ ⟨_,_,_,rfl⟩ ⟨_,_,_,rfl⟩) rfl ?_;obtain⟨q1,q2⟩:=bT.out.done;exact⟨A1,c1,A2,c2,A3,c3,rfl,q1,q2⟩
theorem fz (fn:Func)(tmps:Array Value)(t s:Nat)(w:World)(B:Nat)(v0 v1 v2 v3:Value)(E:Int)(fr:Nat × Nat)(h:fn.results=#[.cell t 25,.tmp s])(ht:tmps[t]?.getD undef=.pointer (some ⟨B,0,none⟩))(hs:tmps[s]?.getD undef=.int .i64 E)(hb:w.heap[B]?=some (.cells #[v0,v1,v2,v3] 25 fr))
  (o0:∃a n c,v0=.slice a n c) (o1:∃z,v1=.int .i64 z) (o2:∃a n c,v2=.slice a n c) (o3:∃a n c,v3=.slice a n c) :
  (results fn tmps).run prog w=.ok (.tuple #[.agg #[v0,v1,v2,v3],.int .i64 E]) w:=by
 obtain⟨d,g,j,l⟩:=crw4 hb 0 1 2 3;obtain⟨a0,u,p,rfl⟩:=o0;obtain⟨C,rfl⟩:=o1;obtain⟨m,y,q,rfl⟩:=o2;obtain⟨a3,A,r,rfl⟩:=o3;simp[results,h,ht,hs,go_sem,d,g,j,l]
theorem CpAt.lower {n₀ n₁:Nat}{w:World}{v:Value}{f:Fn}(h:CpAt n₁ w v f)(k:n₀<=n₁):CpAt n₀ w v f:=by obtain⟨vp,vs,vb,us,rfl,d,g,m,p,q⟩:=h;exact⟨vp,vs,vb,us,rfl,d.lower k,g.lower k,m.lower k,p,fun j l r=>by obtain⟨u,q1,q2⟩:=q j l r;exact⟨u,q1,q2.lower k⟩⟩
theorem CpAt.gr {n₀:Nat}{w w':World}{v:Value}{f:Fn}(h:CpAt n₀ w v f)(g:Gr w w'):CpAt n₀ w' v f:=by obtain⟨vp,vs,vb,us,rfl,d,m,p,q,r⟩:=h;exact⟨vp,vs,vb,us,rfl,d.gr g,m.gr g,p.gr g,q,fun j l t=>by obtain⟨u,q1,q2⟩:=r j l t;exact⟨u,q1,q2.gr g⟩⟩
theorem CpAt.four {n₀ B:Nat}{w:World}{v:Value}{f:Fn}{row:Array Value}(h:CpAt n₀ w v f)(hb:w.heap[B]?=some (.cells row 25 (0,0)))(v0 v1 v2 v3:Value) :
  CpAt n₀ ((((w.setCell ⟨B,0,none⟩ v0).setCell ⟨B,1,none⟩ v1).setCell ⟨B,2,none⟩ v2).setCell ⟨B,3,none⟩ v3) v f:=by
 have d:=xa hb v0 v1 v2 v3;obtain⟨vp,vs,vb,us,rfl,q,r,g,t,y⟩:=h;refine⟨vp,vs,vb,us,rfl,q.kt d,r.kt d,g.keep fun k d=>gw _ _ _ _ (fun e=>?_),t,fun j l hj=>by obtain⟨u,q1,q2⟩:=y j l hj;exact⟨u,q1,q2.kt d⟩⟩;obtain⟨-,-,p,m⟩:=g.typed d;rw[<-e,hb]at m;cases m
theorem CpAt.nil (n₀:Nat)(w:World):CpAt n₀ w (.agg #[.slice none 0 0,.int .i64 0,.slice none 0 0,.slice none 0 0]) Ref.noFn :=
 ⟨_,_,_,[],rfl,⟨none,0,rfl,by simp[Ref.noFn],by simp[Ref.noFn],by simp[Ref.noFn]⟩,⟨none,0,rfl,by simp[Ref.noFn],by simp[Ref.noFn],by simp[Ref.noFn]⟩,Own1.nil _ _ _,rfl,fun j l h=>by simp[Ref.noFn]at h⟩
def RetF (w:World)(F:Fn)(E:Int)(e:Ending)(w':World):Prop :=
 ∃A1 c1 A2 c2 A3 c3,e=.returned (.tuple #[.agg #[.slice A1 F.params.length c1,.int .i64 F.ret,.slice A2 F.slots.length c2,.slice A3 F.blocks.length c3],.int .i64 E])/\CpAt w.heap.size w' (.agg #[.slice A1 F.params.length c1,.int .i64 F.ret,.slice A2 F.slots.length c2,.slice A3 F.blocks.length c3]) F/\Gr w w'
theorem yF {w w1:World}{E:Int}(g:Gr w w1)(hb:w1.heap[w.heap.size+1]?=some (.cells #[.slice none 0 0,.int .i64 0,.slice none 0 0,.slice none 0 0] 25 (0,0))) :
  RetF w Ref.noFn E (.returned (.tuple #[.agg #[.slice none 0 0,.int .i64 0,.slice none 0 0,.slice none 0 0],.int .i64 E])) ((((w1.setCell ⟨w.heap.size+1,0,none⟩ (.slice none 0 0)).setCell ⟨w.heap.size+1,1,none⟩ (.int .i64 0)).setCell ⟨w.heap.size+1,2,none⟩ (.slice none 0 0)).setCell ⟨w.heap.size+1,3,none⟩ (.slice none 0 0)) :=
 ⟨none,0,none,0,none,0,rfl,CpAt.nil _ _,oe g (by omega) _ _ _ _⟩
theorem RetF.good {w w0 w1:World}{F:Fn}{A1 A2 A3:Option Addr}{c1 c2 c3:Nat}(g0:Gr w w0)(g:Gr w0 w1)(hb:w1.heap[w.heap.size+1]?=some (.cells #[.slice none 0 0,.int .i64 0,.slice none 0 0,.slice none 0 0] 25 (0,0)))
  (h:CpAt w0.heap.size w1 (.agg #[.slice A1 F.params.length c1,.int .i64 F.ret,.slice A2 F.slots.length c2,.slice A3 F.blocks.length c3]) F) :
  RetF w F 0 (.returned (.tuple #[.agg #[.slice A1 F.params.length c1,.int .i64 F.ret,.slice A2 F.slots.length c2,.slice A3 F.blocks.length c3],.int .i64 0])) ((((w1.setCell ⟨w.heap.size+1,0,none⟩ (.slice A1 F.params.length c1)).setCell ⟨w.heap.size+1,1,none⟩ (.int .i64 F.ret)).setCell ⟨w.heap.size+1,2,none⟩ (.slice A2 F.slots.length c2)).setCell ⟨w.heap.size+1,3,none⟩ (.slice A3 F.blocks.length c3)) :=
 ⟨_,_,_,_,_,_,rfl,(h.lower g0.size).four hb _ _ _ _,oe (g0.trans g) (by omega) _ _ _ _⟩
theorem nz (p:Nat->Bool):∀m k:Nat,Ir.listFrom ((List.range' k m).map p) k=((List.range' k m).filter p).map fun b:Nat=>(b:Int)
 | 0,k=>rfl
 | m+1,k=>by
  rw[List.range'_succ,List.map_cons,Ir.listFrom,nz p m (k+1),List.filter_cons]
  split<;>simp[*]
theorem vn {p:Nat->Bool}{n:Nat}(h:∀b,n<=b->p b=false):∀m,n<=m->(List.range m).filter p=(List.range n).filter p
 | 0,hm=>by have:n=0:=by omega
            subst this;rfl
 | m+1,hm=>by
  rcases (by omega:n=m+1\/n<=m) with q|q
  ·rw[q]
  ·rw[List.range_succ,List.filter_append,vn h m q];simp[h m q]
theorem xh {f:Fn}(hv:Ref.Val f):Ir.reachedL (Ref.graph f)=(Ref.kept f).map fun b:Nat=>(b:Int):=by unfold Ir.reachedL Ref.kept;rw[List.range_eq_range',nz,<-List.range_eq_range'];congr 1;refine vn (fun b d=>?_) 10 hv.size.2.2.2.1;unfold rb;rw[vA,vP (by rw[mt,Ref.graph_len];exact d)];rfl
theorem yd {f:Fn}(hv:Ref.Val f):Ir.gval (Ref.graph f)=0 :=
 gy hv.arg (vT.2 hv.laid) hv.size.2.2.1 hv.size.2.2.2.1
theorem yt {f:Fn}(hv:Ref.Val f):∀l∈f.blocks,l≠[]:=fun l hl=>jT (hv.laid l hl)
theorem ga {w:World}{B:Nat}{T:TypeId}{x0 x1 x2 x3:Value}(hr:w.heap[B]?=some (.cells #[x0,x1,x2,x3] T (0,0))) :
  (w.cell? ⟨B,0,none⟩=some x0/\w.cell? ⟨B,1,none⟩=some x1/\w.cell? ⟨B,2,none⟩=some x2/\w.cell? ⟨B,3,none⟩=some x3) /\
  w.frozen? ⟨B,0,none⟩=false/\w.frozen? ⟨B,1,none⟩=false/\w.frozen? ⟨B,2,none⟩=false/\w.frozen? ⟨B,3,none⟩=false :=
 ⟨⟨vX _ _ 0 _ _ _ hr,vX _ _ 1 _ _ _ hr,vX _ _ 2 _ _ _ hr,vX _ _ 3 _ _ _ hr⟩,
   vY _ _ 0 _ _ hr,vY _ _ 1 _ _ hr,vY _ _ 2 _ _ hr,vY _ _ 3 _ _ hr⟩
theorem xz (v:Value)(f:Fn)(w:World)(hf:FnAt w.heap.size w v f)(hn:jF f):Calls prog 34 #[v] w (RetF w (Ref.pruneF f) (Ref.pruneE f)):=by
 obtain⟨vp,vs,vb,rfl,hp,ad,hb⟩:=id hf;obtain⟨D,H,rfl,-,-,-⟩:=hp;obtain⟨E,I,rfl,-,-,-⟩:=ad;obtain⟨C,G,rfl,-,-,-⟩:=hb;obtain⟨W,S⟩:=xJ ((w.alloc (.cells #[.slice D f.params.length H,.int .i64 f.ret,.slice E f.slots.length I,.slice C f.blocks.length G] 25)).alloc (.cells #[.slice none 0 0,.int .i64 0,.slice none 0 0,.slice none 0 0] 25));have J:Gr w W:=by rw[<-S];exact((wL w).alloc _).alloc _
 have Q:W.heap.size=w.heap.size+2:=by rw[<-S];simp
 have p:W.heap[w.heap.size]?=some (.cells #[.slice D f.params.length H,.int .i64 f.ret,.slice E f.slots.length I,.slice C f.blocks.length G] 25 (0,0)):=by rw[<-S];exact(((wL _).alloc _).heap _ (by simp)).trans (heap_alloc_new w _)
 have K:W.heap[w.heap.size+1]?=some (.cells #[.slice none 0 0,.int .i64 0,.slice none 0 0,.slice none 0 0] 25 (0,0)):=by rw[<-S];exact heap_alloc2_new w _ _
 have N:Hid (∀w',Gr W w'->w'.cell? ⟨w.heap.size,0,none⟩=some (.slice D f.params.length H)/\w'.cell? ⟨w.heap.size,1,none⟩=some (.int .i64 f.ret)/\w'.cell? ⟨w.heap.size,2,none⟩=some (.slice E f.slots.length I)/\w'.cell? ⟨w.heap.size,3,none⟩=some (.slice C f.blocks.length G)):=fun w' q=>by have h:=(q.heap _ (by omega)).trans p;exact⟨vX _ _ 0 _ _ _ h,vX _ _ 1 _ _ _ h,vX _ _ 2 _ _ _ h,vX _ _ 3 _ _ _ h⟩
 have L:Hid (∀w',Gr W w'->w'.heap[w.heap.size+1]?=some (.cells #[.slice none 0 0,.int .i64 0,.slice none 0 0,.slice none 0 0] 25 (0,0))):=fun w' q=>(q.heap _ (by omega)).trans K;have l:=dJ J;have HF:=dJ hf;obtain⟨t,y,A,B⟩:=N.out W (wL W);by_cases h:Ref.validate f=0
 ·have hv:=(Ref.val_iff f).1 h;have HV:Hid (∀d,Gr w d->Calls prog 38 #[.agg #[.slice D f.params.length H,.int .i64 f.ret,.slice E f.slots.length I,.slice C f.blocks.length G]] d fun e w'=>e=.returned (.int .i64 0)/\Gr d w'):=fun d q=>by rw[<-h];exact kR _ f d (hf.gr q) hn
  have aa:Hid (∀d,Gr w d->Calls prog 59 #[.agg #[.slice D f.params.length H,.int .i64 f.ret,.slice E f.slots.length I,.slice C f.blocks.length G]] d fun e w'=>∃u,e=.returned u/\TabAt w'.heap.size w' u (Ref.graph f)/\Gr d w'):=fun d q=>nK _ f d (hf.gr q) hn.blocks (yt hv);have ab:Hid (∀d u,TabAt d.heap.size d u (Ref.graph f)->Calls prog 58 #[u] d fun e w'=>∃u,e=.returned (.tuple #[u,.int .i64 0])/\IntsAt w'.heap.size w' u ((Ref.kept f).map fun b:Nat=>(b:Int))/\Gr d w'):=fun d u r=>by rw[<-xh hv];exact lA u _ d r (yd hv)
  have M:Hid (∀d u,Gr w d->IntsAt d.heap.size d u ((Ref.kept f).map fun b:Nat=>(b:Int))->Calls prog 60 #[.agg #[.slice D f.params.length H,.int .i64 f.ret,.slice E f.slots.length I,.slice C f.blocks.length G],u] d fun e w'=>∃T c1 U c2 X c3,e=.returned (.agg #[.slice T (Ref.moved f (Ref.kept f)).params.length c1,.int .i64 (Ref.moved f (Ref.kept f)).ret,.slice U (Ref.moved f (Ref.kept f)).slots.length c2,.slice X (Ref.moved f (Ref.kept f)).blocks.length c3])/\Hid (CpAt d.heap.size w' (.agg #[.slice T (Ref.moved f (Ref.kept f)).params.length c1,.int .i64 (Ref.moved f (Ref.kept f)).ret,.slice U (Ref.moved f (Ref.kept f)).slots.length c2,.slice X (Ref.moved f (Ref.kept f)).blocks.length c3]) (Ref.moved f (Ref.kept f)))/\Gr d w'):=fun d u q r=>by have:=vi _ u f (Ref.kept f) d (hf.gr q) r hv (Ref.keeps_reached mr hv);rw[Ref.moved_len];exact this
  have e1:Ref.pruneE f=0:=h;have e2:Ref.pruneF f=Ref.moved f (Ref.kept f):=by unfold Ref.pruneF;rw[wa h]
  rw[e1,e2];obtain⟨F,hF⟩:=xJ (Ref.moved f (Ref.kept f));rw[hF]at M ⊢;clear e1 e2 hF h hv hf hn p K J Q
  go_enter func34, ntmps34
  go_wp2_with (first|(go_at_call 38;refine(HV.out _ l.out).mono ?_;rintro e d ⟨rfl,O⟩;have g:=dJ O;clear O t y A B;obtain⟨t,y,A,B⟩:=N.out _ g.out)|(go_at_call 59;refine(aa.out _ (l.out.trans g.out)).mono ?_;rintro e w2 ⟨ug,rfl,r,g2⟩;have HU:=dJ r;have Z:=dJ (g.out.trans g2);clear g2 r t y A B)|(go_at_call 58;refine(ab.out _ _ HU.out).mono ?_;rintro e w3 ⟨ur,rfl,r,g3⟩;have ac:=dJ r;have j:=dJ (Z.out.trans g3);clear g3 r;obtain⟨t,y,A,B⟩:=N.out _ j.out)|(go_at_call 60;refine(M.out _ _ (l.out.trans j.out) ac.out).mono ?_;rintro e w4 ⟨T,c1,U,c2,X,c3,rfl,Y,g4⟩;have m:=dJ g4;clear t y A B;obtain⟨t,y,A,B⟩:=N.out _ (j.out.trans m.out);obtain⟨⟨b0,b1,b2,b3⟩,f0,f1,f2,f3⟩:=ga (L.out _ (j.out.trans m.out));clear g4))
  refine vZ (fz _ _ 2 3 _ (w.heap.size+1) _ _ _ _ _ _ rfl rfl rfl (fh (L.out _ (j.out.trans m.out)) _ _ _ _) ⟨_,_,_,rfl⟩ ⟨_,rfl⟩ ⟨_,_,_,rfl⟩ ⟨_,_,_,rfl⟩) rfl ?_;exact RetF.good (l.out.trans j.out) m.out (L.out _ (j.out.trans m.out)) Y.out
 ·
  obtain⟨z,R⟩:=xJ (Ref.validate f);have HV:Hid (∀d,Gr w d->Calls prog 38 #[.agg #[.slice D f.params.length H,.int .i64 f.ret,.slice E f.slots.length I,.slice C f.blocks.length G]] d fun e w'=>e=.returned (.int .i64 z)/\Gr d w'):=fun d q=>by rw[<-R];exact kR _ f d (hf.gr q) hn
  have ae:(z != 0)=true:=by rw[R]at h;simpa using h
  have af:(z == 0)=false:=by rw[R]at h;simpa using h
  rw[show Ref.pruneF f=Ref.noFn by unfold Ref.pruneF;rw[yD h],show Ref.pruneE f=Ref.validate f from rfl,R];clear h R hf hn p K J Q
  go_enter func34, ntmps34
  go_wp2_with (go_at_call 38;refine(HV.out _ l.out).mono ?_;rintro e d ⟨rfl,O⟩;have g:=dJ O;clear O t y A B;obtain⟨t,y,A,B⟩:=N.out _ g.out;obtain⟨⟨b0,b1,b2,b3⟩,f0,f1,f2,f3⟩:=ga (L.out _ g.out));refine vZ (fz _ _ 2 3 _ (w.heap.size+1) _ _ _ _ _ _ rfl rfl rfl (fh (L.out _ g.out) _ _ _ _) ⟨_,_,_,rfl⟩ ⟨_,rfl⟩ ⟨_,_,_,rfl⟩ ⟨_,_,_,rfl⟩) rfl ?_;exact yF (l.out.trans g.out) (L.out _ g.out)
theorem xe:∀(l:List Int)(n:Int)(k:Nat),n∈l->∃j:Nat,l[j]?=some n/\Ir.findI (fun z=>decide (z=n)) l k=((k+j:Nat):Int)
 | [],n,k,h=>by cases h
 | x::r,n,k,h=>by
  unfold Ir.findI
  by_cases e:x=n
  ·exact⟨0,by rw[e];rfl,by simp[e]⟩
  ·obtain⟨j,d,g⟩:=xe r n (k+1) (by rcases List.mem_cons.1 h with q|q;exact absurd q.symm e;exact q)
   exact⟨j+1,by simpa using d,by rw[yD (by simpa using e),g];omega⟩
theorem xf:∀(l:List Int)(n:Int)(k:Nat),n ∉ l->Ir.findI (fun z=>decide (z=n)) l k=-1
 | [],n,k,h=>rfl
 | x::r,n,k,h=>by
  unfold Ir.findI
  have e:x≠n:=fun q=>h (by rw[q];exact List.mem_cons_self)
  rw[yD (by simpa using e)];exact xf r n (k+1) (fun q=>h (List.mem_cons_of_mem _ q))
theorem xn (v vt:Value)(f:Fn)(tl:List Int)(w:World)(hf:FnAt w.heap.size w v f)(ht:IntsAt w.heap.size w vt tl)(hn:jF f):Calls prog 35 #[v,vt] w (RetF w (Ref.renameF f tl) (Ref.renameE f tl)):=by
 obtain⟨vp,vs,vb,rfl,I,aC,hb⟩:=id hf;obtain⟨Ap,cp,rfl,-,-,-⟩:=I;obtain⟨As,cs,rfl,-,-,-⟩:=aC;obtain⟨Ab,cb,rfl,-,-,-⟩:=hb;obtain⟨W,hW⟩:=xJ ((w.alloc (.cells #[.slice Ap f.params.length cp,.int .i64 f.ret,.slice As f.slots.length cs,.slice Ab f.blocks.length cb] 25)).alloc (.cells #[.slice none 0 0,.int .i64 0,.slice none 0 0,.slice none 0 0] 25));have R:Gr w W:=by rw[<-hW];exact((wL w).alloc _).alloc _
 have aa:W.heap.size=w.heap.size+2:=by rw[<-hW];simp
 have r:W.heap[w.heap.size]?=some (.cells #[.slice Ap f.params.length cp,.int .i64 f.ret,.slice As f.slots.length cs,.slice Ab f.blocks.length cb] 25 (0,0)):=by rw[<-hW];exact(((wL _).alloc _).heap _ (by simp)).trans (heap_alloc_new w _)
 have S:W.heap[w.heap.size+1]?=some (.cells #[.slice none 0 0,.int .i64 0,.slice none 0 0,.slice none 0 0] 25 (0,0)):=by rw[<-hW];exact heap_alloc2_new w _ _
 have X:Hid (∀w',Gr W w'->w'.cell? ⟨w.heap.size,0,none⟩=some (.slice Ap f.params.length cp)/\w'.cell? ⟨w.heap.size,1,none⟩=some (.int .i64 f.ret)/\w'.cell? ⟨w.heap.size,2,none⟩=some (.slice As f.slots.length cs)/\w'.cell? ⟨w.heap.size,3,none⟩=some (.slice Ab f.blocks.length cb)):=fun w' q=>by have h:=(q.heap _ (by omega)).trans r;exact⟨vX _ _ 0 _ _ _ h,vX _ _ 1 _ _ _ h,vX _ _ 2 _ _ _ h,vX _ _ 3 _ _ _ h⟩
 have H:Hid (∀w',Gr W w'->w'.heap[w.heap.size+1]?=some (.cells #[.slice none 0 0,.int .i64 0,.slice none 0 0,.slice none 0 0] 25 (0,0))):=fun w' q=>(q.heap _ (by omega)).trans S;have l:=dJ R;have HF:=dJ hf;obtain⟨B,C,D,y⟩:=X.out W (wL W);by_cases h:Ref.validate f=0
 ·have hv:=(Ref.val_iff f).1 h;have aD:=hv.size.2.2.1;have aE:=hv.size.2.2.2.1;have HV:Hid (∀g,Gr w g->Calls prog 38 #[.agg #[.slice Ap f.params.length cp,.int .i64 f.ret,.slice As f.slots.length cs,.slice Ab f.blocks.length cb]] g fun e w'=>e=.returned (.int .i64 0)/\Gr g w'):=fun g q=>by rw[<-h];exact kR _ f g (hf.gr q) hn
  by_cases hl:tl.length=f.blocks.length
  ·have ad:=ht;obtain⟨At,ct,rfl,ae,af,U⟩:=ht;obtain⟨bt,ot,rfl,ab,L⟩:=U (by omega);obtain⟨t0,p⟩:∃t0,tl[0]?=some t0:=⟨_,vu (by omega)⟩;by_cases J:t0=0
   ·subst J;have aJ.Validate:=dJ hv;have HL:=dJ hl;have aI:=dJ ad;have aF:=dJ p;have HZ:=dJ h;have aH:Hid (∀w',Gr w w'->∀(j:Nat) z,tl[j]?=some z->w'.cell? ⟨bt,ot+j,none⟩=some (.int .i64 z)):=fun w' q j z hj=>(q.cell bt (ot+j) ab).trans (L j z hj);have aA:Hid (∀w',Gr w w'->w'.cell? ⟨bt,ot,none⟩=some (.int .i64 0)):=fun w' q=>(q.cell bt ot ab).trans (by simpa using L 0 0 p);have ao:Hid (Ref.permB tl=true->Ref.Ord f (Ref.orderTo tl tl.length)/\(∀b,b<f.blocks.length->b∈Ref.orderTo tl tl.length)/\(∀t:Int,0<=t->t<f.blocks.length->Ref.at0 tl t=Ref.toOf (Ref.orderTo tl tl.length) t)):=fun I=>Ref.order_ord I hl p
    have M:Hid (Ref.permB tl=false->Ref.renameE f tl=1/\Ref.renameF f tl=Ref.noFn):=fun I=>by
     have A:Ref.renameE f tl=1:=by unfold Ref.renameE;rw[wa h,wa ⟨hl,by rw[vA,p];rfl⟩,yD (by rw[I];decide)]
     exact⟨A,by unfold Ref.renameF;rw[yD (by omega)]⟩
    have G:Hid (Ref.permB tl=true->Ref.renameE f tl=0/\Ref.renameF f tl=Ref.moved f (Ref.orderTo tl tl.length)):=fun I=>by have A:Ref.renameE f tl=0:=Ref.renameE_of hv hl p I;exact⟨A,by unfold Ref.renameF;rw[wa A]⟩
    obtain⟨E,hE⟩:=xJ (Ref.renameE f tl);obtain⟨F,hF⟩:=xJ (Ref.renameF f tl);rw[hE,hF]at M G ⊢;have an:Hid (∀g,Gr w g->∀k:Nat,Calls prog 61 #[.slice (some ⟨bt,ot,none⟩) tl.length ct,.int .i64 (k:Int)] g fun e w'=>e=.returned (.int .i64 (Ir.findI (fun z=>decide (z=(k:Int))) tl 0))/\g=w'):=fun g q k=>oS _ tl (k:Int) g (ad.gr q)
    have aj:Hid (∀(I:Ref.permB tl=true) g u,Gr w g->IntsAt g.heap.size g u ((Ref.orderTo tl tl.length).map fun b:Nat=>(b:Int))->Calls prog 60 #[.agg #[.slice Ap f.params.length cp,.int .i64 f.ret,.slice As f.slots.length cs,.slice Ab f.blocks.length cb],u] g fun e w'=>∃A1 c1 A2 c2 A3 c3,e=.returned (.agg #[.slice A1 (Ref.moved f (Ref.orderTo tl tl.length)).params.length c1,.int .i64 (Ref.moved f (Ref.orderTo tl tl.length)).ret,.slice A2 (Ref.moved f (Ref.orderTo tl tl.length)).slots.length c2,.slice A3 (Ref.moved f (Ref.orderTo tl tl.length)).blocks.length c3])/\Hid (CpAt g.heap.size w' (.agg #[.slice A1 (Ref.moved f (Ref.orderTo tl tl.length)).params.length c1,.int .i64 (Ref.moved f (Ref.orderTo tl tl.length)).ret,.slice A2 (Ref.moved f (Ref.orderTo tl tl.length)).slots.length c2,.slice A3 (Ref.moved f (Ref.orderTo tl tl.length)).blocks.length c3]) (Ref.moved f (Ref.orderTo tl tl.length)))/\Gr g w'):=fun I g u q hu=>by obtain⟨o1,o2,o3⟩:=ao.out I;have:=vi _ u f (Ref.orderTo tl tl.length) g (hf.gr q) hu hv (Ref.keeps_all hv o1 o2);rw[Ref.moved_len];exact this
    rw[hl]at ae af an ⊢;clear h hv hf hn r S R aa hl ad U L p hE hF HF
    go_enter func35, ntmps35
    go_upto_block 0 with (first|(go_at_call 38;refine(HV.out _ l.out).mono ?_;rintro e g ⟨rfl,Q⟩;have d:=dJ Q;clear Q B C D y;obtain⟨B,C,D,y⟩:=X.out _ d.out;have l0:=aA.out _ (l.out.trans d.out))|(at_make;refine xg rfl _ _ rfl w.heap.size f.blocks.length rfl rfl (by omega) (l.out.trans d.out).size ?_;intro w2 T ar;have aq:=dJ T;have al:=dJ (d.out.trans ar);clear B C D y l0;clear T ar))
    have ak:Hid (W.heap.size<=g.heap.size):=d.out.size;obtain⟨hb,au⟩:=xJ g.heap.size;rw[au]at aq ak ⊢;clear au;obtain⟨B,C,D,y⟩:=X.out _ al.out;go_wp2_with (fail)
    go_loopw [34] (fun i wr=>∃(k:Nat)(ns:List Int),k<=f.blocks.length/\i=.int .i64 k/\Hid (NRow w.heap.size hb f.blocks.length wr ns)/\Hid (∀b:Nat,b<k->∃j:Nat,tl[j]?=some (b:Int)/\ns[b]?=some (j:Int))/\Hid (Gr W wr)) (fun i _=>f.blocks.length-(intOf i).toNat)
    case atStart=>exact⟨0,_,vU _,rfl,aq,dJ fun v h=>by omega,al⟩
    case round =>
     clear B C D y;obtain⟨k,ns,hk,rfl,HR,HT,K⟩:=hrel;by_cases ai:k<f.blocks.length
     ·have ah:=HR.out.len;obtain⟨z,J⟩:∃z,ns[k]?=some z:=⟨_,vu (by omega)⟩;have q0:=HR.out.cell k z J;have q1:=HR.out.frozen k;have z0:(0:Int)<=(k:Int):=by omega
      have z1:(k:Int)<(f.blocks.length:Int):=by omega
      have HI:=dJ (an.out wr (l.out.trans K.out) k);have aG:=dJ ah;by_cases Y:(k:Int)∈tl
      ·obtain⟨j,hj,hf⟩:=xe tl (k:Int) 0 Y;rw[Nat.zero_add]at hf;rw[hf]at HI;have j0:(0:Int)<=(j:Int):=by omega
       have j1:decide ((j:Int)<0)=false:=by simp
       have aB:Hid (∀b:Nat,b<k+1->∃i:Nat,tl[i]?=some (b:Int)/\(ns.set k (j:Int))[b]?=some (i:Int)):=fun b hb=>by
        rcases (by omega:b<k\/b=k) with q|q
        ·obtain⟨i,h1,h2⟩:=HT.out b q;exact⟨i,h1,by rw[List.getElem?_set_ne (by omega)];exact h2⟩
        ·subst q;exact⟨j,hj,by rw[ww (by omega)]⟩
       clear Y hj hf ai ah J;go_wp2_with (go_at_call 61;refine HI.out.mono ?_;rintro e w5 ⟨rfl,rfl⟩);go_roundw;case rel=>exact⟨k+1,_,by omega,by go_num,dJ (HR.out.set_ k (j:Int)),aB,dJ (K.out.setCell ak.out _)⟩
       case measure=>simp[intOf]<;>omega
      ·rw[xf tl (k:Int) 0 Y]at HI
       have ap:Hid (Ref.permB tl=false):=by
        show _=_
        cases I:Ref.permB tl with
        | false=>rfl
        | true =>
         unfold Ref.permB at I;simp only[vT,List.mem_range,decide_eq_true_eq]at I;exact absurd (I k (by rw[HL.out];exact ai)) Y
       obtain⟨A,O⟩:=M.out ap.out;clear Y ai ah J ap;obtain⟨B,C,D,y⟩:=X.out _ K.out;obtain⟨⟨b0,b1,b2,b3⟩,f0,f1,f2,f3⟩:=ga (H.out _ K.out);clear B C D y;have HE:=dJ A;have ag:=dJ O;clear A O;go_wp2_with (go_at_call 61;refine HI.out.mono ?_;rintro e w5 ⟨rfl,rfl⟩);refine vZ (fz _ _ 4 5 _ (w.heap.size+1) _ _ _ _ _ _ rfl rfl rfl (fh (H.out _ K.out) _ _ _ _) ⟨_,_,_,rfl⟩ ⟨_,rfl⟩ ⟨_,_,_,rfl⟩ ⟨_,_,_,rfl⟩) rfl ?_;rw[HE.out,ag.out];exact yF (l.out.trans K.out) (H.out _ K.out)
     ·obtain rfl:k=f.blocks.length:=by omega
      have Z:Hid (Ref.permB tl=true):=by show _=_;unfold Ref.permB;simp only[vT,List.mem_range,decide_eq_true_eq];intro b hb;obtain⟨j,h1,-⟩:=HT.out b (by rw[<-HL.out];exact hb);exact vz h1
      have az:Hid (ns=(Ref.orderTo tl tl.length).map fun b:Nat=>(b:Int)):=by
       obtain⟨p1,p2⟩:=Ref.order_perm Z.out tl.length (vV _);refine List.ext_getElem? fun b=>?_;rcases wh b tl.length with q|q
       ·obtain⟨j,h1,h2⟩:=HT.out b (by rw[<-HL.out];exact q);rw[h2,vH,(p2 b j).2 ⟨q,h1⟩];rfl
       ·rw[vP (by rw[HR.out.len,<-HL.out];exact q),vP (by rw[vS,p1];exact q)]
      have ay:Hid (IntsAt wr.heap.size wr (.slice (some ⟨hb,0,none⟩) f.blocks.length f.blocks.length) ((Ref.orderTo tl tl.length).map fun b:Nat=>(b:Int))):=by rw[<-az.out];exact(HR.out.ti (by omega)).ints
      obtain⟨A,O⟩:=G.out Z.out;have av:=dJ (aj.out Z.out);have HE:=dJ A;have ag:=dJ O;have am:Hid (Gr w wr):=l.out.trans K.out;obtain⟨B,C,D,y⟩:=X.out _ K.out;clear A O Z aj M G;go_wp2_with (go_at_call 60;refine(av.out wr _ am.out ay.out).mono ?_;rintro e w4 ⟨A1,c1,A2,c2,A3,c3,rfl,aw,g4⟩;have N:=dJ g4;clear B C D y;obtain⟨B,C,D,y⟩:=X.out _ (K.out.trans N.out);obtain⟨⟨b0,b1,b2,b3⟩,f0,f1,f2,f3⟩:=ga (H.out _ (K.out.trans N.out));clear g4);refine vZ (fz _ _ 4 5 _ (w.heap.size+1) _ _ _ _ _ _ rfl rfl rfl (fh (H.out _ (K.out.trans N.out)) _ _ _ _) ⟨_,_,_,rfl⟩ ⟨_,rfl⟩ ⟨_,_,_,rfl⟩ ⟨_,_,_,rfl⟩) rfl ?_;rw[HE.out,ag.out];exact RetF.good am.out N.out (H.out _ (K.out.trans N.out)) aw.out
   ·have A:Ref.renameE f tl=1:=by
     unfold Ref.renameE;rw[wa h,yD];rintro⟨-,q⟩;rw[vA,p]at q;exact J q
    have O:Ref.renameF f tl=Ref.noFn:=by unfold Ref.renameF;rw[yD (by omega)]
    rw[A,O];have c1:(t0 != 0)=true:=by simpa using J
    have l0:=(l.out.cell bt ot ab).trans (by simpa using L 0 t0 p);have ax:Hid (∀w',Gr w w'->w'.cell? ⟨bt,ot,none⟩=some (.int .i64 t0)):=fun w' q=>(q.cell bt ot ab).trans (by simpa using L 0 t0 p);rw[hl]at ae af ⊢;clear A O h hv hf hn r S R aa hl ad U L p J l0
    go_enter func35, ntmps35
    go_wp2_with (go_at_call 38;refine(HV.out _ l.out).mono ?_;rintro e g ⟨rfl,Q⟩;have d:=dJ Q;clear Q B C D y;obtain⟨B,C,D,y⟩:=X.out _ d.out;obtain⟨⟨b0,b1,b2,b3⟩,f0,f1,f2,f3⟩:=ga (H.out _ d.out);have l0:=ax.out _ (l.out.trans d.out));refine vZ (fz _ _ 4 5 _ (w.heap.size+1) _ _ _ _ _ _ rfl rfl rfl (fh (H.out _ d.out) _ _ _ _) ⟨_,_,_,rfl⟩ ⟨_,rfl⟩ ⟨_,_,_,rfl⟩ ⟨_,_,_,rfl⟩) rfl ?_;exact yF (l.out.trans d.out) (H.out _ d.out)
  ·have A:Ref.renameE f tl=1:=by
    unfold Ref.renameE;rw[wa h,yD (fun q=>hl q.1)]
   have O:Ref.renameF f tl=Ref.noFn:=by unfold Ref.renameF;rw[yD (by omega)]
   rw[A,O];obtain⟨At,ct,rfl,ae,af,U⟩:=ht;obtain⟨m,Y⟩:=xJ tl.length;obtain⟨n,ac⟩:=xJ f.blocks.length;have c1:((m:Int) != (n:Int))=true:=by rw[Y,ac]at hl;simp;omega
   have c2:(m != n)=true:=by rw[Y,ac]at hl;simpa using hl
   rw[Y]at ae af ⊢;rw[ac]at X HV y hW ⊢;clear A O h hv hf hn r S R aa hl U Y HF aD aE ac
   go_enter func35, ntmps35
   go_wp2_with (go_at_call 38;refine(HV.out _ l.out).mono ?_;rintro e g ⟨rfl,Q⟩;have d:=dJ Q;clear Q B C D y;obtain⟨B,C,D,y⟩:=X.out _ d.out;obtain⟨⟨b0,b1,b2,b3⟩,f0,f1,f2,f3⟩:=ga (H.out _ d.out));refine vZ (fz _ _ 4 5 _ (w.heap.size+1) _ _ _ _ _ _ rfl rfl rfl (fh (H.out _ d.out) _ _ _ _) ⟨_,_,_,rfl⟩ ⟨_,rfl⟩ ⟨_,_,_,rfl⟩ ⟨_,_,_,rfl⟩) rfl ?_;exact yF (l.out.trans d.out) (H.out _ d.out)
 ·
  obtain⟨z,J⟩:=xJ (Ref.validate f);have HV:Hid (∀g,Gr w g->Calls prog 38 #[.agg #[.slice Ap f.params.length cp,.int .i64 f.ret,.slice As f.slots.length cs,.slice Ab f.blocks.length cb]] g fun e w'=>e=.returned (.int .i64 z)/\Gr g w'):=fun g q=>by rw[<-J];exact kR _ f g (hf.gr q) hn
  have aK:(z != 0)=true:=by rw[J]at h;simpa using h
  have aL:(z == 0)=false:=by rw[J]at h;simpa using h
  rw[show Ref.renameF f tl=Ref.noFn by unfold Ref.renameF Ref.renameE;rw[yD h,yD h],show Ref.renameE f tl=Ref.validate f by unfold Ref.renameE;rw[yD h],J];clear h J hf hn r S R aa ht
  go_enter func35, ntmps35
  go_wp2_with (go_at_call 38;refine(HV.out _ l.out).mono ?_;rintro e g ⟨rfl,Q⟩;have d:=dJ Q;clear Q B C D y;obtain⟨B,C,D,y⟩:=X.out _ d.out;obtain⟨⟨b0,b1,b2,b3⟩,f0,f1,f2,f3⟩:=ga (H.out _ d.out));refine vZ (fz _ _ 4 5 _ (w.heap.size+1) _ _ _ _ _ _ rfl rfl rfl (fh (H.out _ d.out) _ _ _ _) ⟨_,_,_,rfl⟩ ⟨_,rfl⟩ ⟨_,_,_,rfl⟩ ⟨_,_,_,rfl⟩) rfl ?_;exact yF (l.out.trans d.out) (H.out _ d.out)
theorem RetF.out {w w':World}{F:Fn}{E:Int}{e:Ending}(h:RetF w F E e w')(hs:F.blocks.length<=17592186044416) :
  ∃a1 a1c a2 a2c a3 a3c,e=.returned (.tuple #[.agg #[.slice a1 F.params.length a1c,.int .i64 F.ret,.slice a2 F.slots.length a2c,.slice a3 F.blocks.length a3c],.int .i64 E])/\Hid (FnAt w'.heap.size w' (.agg #[.slice a1 F.params.length a1c,.int .i64 F.ret,.slice a2 F.slots.length a2c,.slice a3 F.blocks.length a3c]) F)/\Gr w w':=by
 obtain⟨d,l,g,m,j,p,r,q,t⟩:=h;exact⟨d,l,g,m,j,p,r,q.fn hs,t⟩
theorem xB {f:Fn}{o:List Nat}(hn:jF f)(hv:Ref.Val (Ref.moved f o))(ho:Ref.Ord f o):jF (Ref.moved f o):=by
 have C:=hv.size
 have p:∀l∈(Ref.moved f o).blocks,∀x∈l,(∃g∈f.blocks,∃y∈g,x=Ref.renum f o y)/\x.args.length<=10/\x.to.length<=10/\∀z∈x.args,0<=z/\z<Ref.count (Ref.moved f o):=by intro l hl x j;obtain⟨k,r⟩:=List.getElem?_of_mem hl;obtain⟨K,G,L,H,I⟩:=Ref.ins_facts hv r j;obtain⟨b,g,J,d,rfl⟩:=Ref.moved_blk' ho r;obtain⟨y,m,rfl⟩:=List.mem_map.1 j;exact⟨⟨g,vz d,y,m,rfl⟩,H,I,G⟩
 have hN:Ref.count (Ref.moved f o)<=43:=by unfold Ref.count Ref.number;rw[wg];omega
 refine⟨by omega,fun l hl=>?_,fun l hl x j=>?_,fun l hl x j=>?_⟩
 ·have:l.length<=Ref.total (Ref.moved f o).blocks:=by
   obtain⟨k,r⟩:=List.getElem?_of_mem hl;have q:=Ref.number_count _ r;unfold Ref.count Ref.number at q;rw[wg]at q;omega
  omega
 ·obtain⟨⟨g,d,y,m,rfl⟩,q,B,t⟩:=p l hl x j;obtain⟨E,F,u,A⟩:=Ref.renum_parts f o y;refine⟨by rw[A];exact(hn.wf g d y m).1,fun z D=>?_,by omega,by omega⟩;have:=t z D;omega
 ·obtain⟨⟨g,d,y,m,rfl⟩,q,B,t⟩:=p l hl x j;obtain⟨E,F,u,A⟩:=Ref.renum_parts f o y;rw[u];exact hn.flags g d y m
end

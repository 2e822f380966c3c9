/- Parts. -/
import Derived.Test.YthfjdhanbegaoaaGreatDoorT30
set_option linter.unusedSimpArgs false
set_option linter.unusedVariables false
set_option maxRecDepth 100000
set_option maxHeartbeats 16000000
open Go.Proofs.Tryz
namespace Go.Proofs.YthfjdhanbegaoaaGreatDoor
open Go.RowKit
theorem lm {f:Fn}{k:Nat}{l:List Ins}(h:f.blocks[k]?=some l):Ref.number f k+l.length<=f.params.length+Ref.total f.blocks:=by have:=Ref.number_count f h;unfold Ref.count Ref.number at this;rw[pE]at this;unfold Ref.number;exact this
theorem gV (v:Value)(f:Fn)(w:World)(hf:FnAt w.heap.size w v f)(hv:Ref.validate f=0)(hi:Tx.Im f)(ht:TabW w) :
  Calls prog 57 #[v] w fun e w'=>∃v',e=.returned v'/\Hid (WordsIn w' v' (Tx.linesS f))/\Gr w w':=by
 have hp:=Tx.pr_of hv hi;have H:=((Ref.val_iff f).1 hv).size;have aB:Hid (∀l∈f.blocks,∀x∈l,x.args.length<=10/\x.to.length<=10):=fun l K x E=>Tx.args_len hv K E;obtain⟨vp,vs,vb,rfl,al,am,ak⟩:=hf;have aN:=dJ al;have aO:=dJ am;have aL:=dJ ak;obtain⟨Ap,cp,rfl,a3,-,-⟩:=al;obtain⟨As,cs,rfl,a4,-,-⟩:=am;obtain⟨Ab,cb,rfl,a0,-,-⟩:=ak;have qp:=Tx.argsS_len f.params hp.params;have qs:=Tx.argsS_len f.slots hp.slots;have qr:=Tx.num_len hp.ret;have qh:(Tx.h0 f).length<=52:=by unfold Tx.h0;simp;omega
 have HI:Hid (∀z,Tx.Ok z->∀d,Gr w d->Calls prog 73 #[.int .i64 z] d (RG (.string (bs (Tx.num z))) d)):=fun z B d q=>fW z B.1 B.2 d (ht.gr q);have aD:Hid (∀(x:Ins)(z:Int)(vx:Value),Tx.PrI x->(x.args.length<=10/\x.to.length<=10)->Tx.Ok z->∀d,Gr w d->jS d.heap.size d vx x->Calls prog 46 #[vx,.int .i64 z] d (RG (.string (bs (Tx.lineS x z))) d)):=fun x z vx h1 h2 h3 d q h4=>iX x z h1 h2 h3 vx d h4 (ht.gr q);have Y:=dJ hp;have M:=dJ H;have ay:Hid (Tx.h0 f=[102,117,110,99]++Tx.argsS f.params++([32,58,32]++Tx.num f.ret++[32,58])):=dJ rfl;have az:=dJ (Tx.head_pieces f);have aA:=dJ (Tx.upTo_zero f);have Z:=dJ (Tx.upTo_all f);obtain⟨W,hW,J,KP⟩:=dz w (.slice Ap f.params.length cp) (.int .i64 f.ret) (.slice As f.slots.length cs) (.slice Ab f.blocks.length cb);obtain⟨k0,k1,k2,k3⟩:=KP.out W (qj _);have z1:f.params.length<=3:=H.1;have z2:f.slots.length<=2:=H.2.1;have z3:f.blocks.length<=10:=H.2.2.2.1;clear hp hv ht H hi
 go_enter func57, ntmps57
 go_wp2
 go_loopw [3,5,17] (fun s3 _ aT wr=>∃k:Nat,k<=f.params.length/\aT=.int .i64 k/\s3=.string (bs ([102,117,110,99]++Tx.argsS (f.params.take k)))/\Hid (Gr W wr)) (fun _ _ i _=>f.params.length-(intOf i).toNat)
 case atStart=>exact⟨0,pR _,rfl,by simp[Tx.argsS];rfl,dJ (qj _)⟩
 case round =>
  obtain⟨k,hk,rfl,rfl,y⟩:=hrel;by_cases g:k<f.params.length
  ·have B:=oY g;obtain⟨z,I⟩:=xJ (f.params[k]);rw[I]at B;obtain⟨b,ax,rfl,aQ⟩:=ek aN.out (J.out.trans y.out) B;have r:Tx.Ok z:=Y.out.params z (pa B);have C:=dJ r;have lz:=Tx.num_len r;have ls:=Tx.argsS_len (f.params.take k) (fun a ha=>Y.out.params a (List.mem_of_mem_take ha));have lt:(f.params.take k).length<=3:=by rw[List.length_take];omega
   have A1:∀d:World,(Op.stringOp .add ⟨#[32]⟩ (bs (Tx.num z))).run prog d=.ok (.string (bs (32::Tx.num z))) d:=fun d=>dq d [32] _ (by simp;omega)
   have O:∀d:World,(Op.stringOp .add (bs ([102,117,110,99]++Tx.argsS (f.params.take k))) (bs (32::Tx.num z))).run prog d=.ok (.string (bs ([102,117,110,99]++Tx.argsS (f.params.take (k+1))))) d:=fun d=>by rw[Tx.argsS_snoc B,<-List.append_assoc];exact dq d _ _ (by simp;omega)
   obtain⟨t0,D⟩:=xJ ([102,117,110,99]++Tx.argsS (f.params.take k));rw[D]at O ⊢;clear B I r lz ls lt D;go_wp2_with (go_at_call 73;refine(HI.out _ C.out _ (J.out.trans y.out)).mono ?_;rintro e d ⟨rfl,g1⟩;have p:Hid (Gr W d):=dJ (y.out.trans g1);clear g1);go_roundw;case rel=>exact⟨k+1,by omega,rfl,rfl,p⟩
   case measure=>simp[intOf]<;>omega
  ·have m:k=f.params.length:=by omega
   have hd:decide (k<f.params.length)=false:=by simpa using g
   obtain⟨r1,ac⟩:∃t,Hid (t=[32,58,32]++Tx.num f.ret):=⟨_,dJ rfl⟩;obtain⟨r2,ad⟩:∃t,Hid (t=[32,58,32]++Tx.num f.ret++[32,58]):=⟨_,dJ rfl⟩;obtain⟨t0,D⟩:=xJ ([102,117,110,99]++Tx.argsS (f.params.take k));have EH:Hid (Tx.h0 f=t0++r2):=dJ (by rw[ay.out,ad.out,<-D,m,pE]);have A1:∀d:World,(Op.stringOp .add ⟨#[32,58,32]⟩ (bs (Tx.num f.ret))).run prog d=.ok (.string (bs r1)) d:=fun d=>by rw[ac.out];exact dq d [32,58,32] _ (by simp;omega)
   have O:∀d:World,(Op.stringOp .add (bs r1) ⟨#[32,58]⟩).run prog d=.ok (.string (bs r2)) d:=fun d=>by rw[ac.out,ad.out];exact dq d _ [32,58] (by simp;omega)
   have A3:∀d:World,(Op.stringOp .add (bs t0) (bs r2)).run prog d=.ok (.string (bs (Tx.h0 f))) d:=fun d=>by have h:=congrArg List.length EH.out;rw[pT]at h;rw[EH.out];exact dq d _ _ (by omega)
   rw[D];clear m D;obtain⟨m0,m1,m2,m3⟩:=KP.out _ y.out;have aG:=dJ Y.out.ret;clear k0 k1 k2 k3;go_wp2_with (go_at_call 73;refine(HI.out _ aG.out _ (J.out.trans y.out)).mono ?_;rintro e d ⟨rfl,g1⟩;have p:Hid (Gr W d):=dJ (y.out.trans g1);clear g1;obtain⟨l0,l1,l2,l3⟩:=KP.out _ p.out);clear A1 O A3 y
   go_loopw [3,7,37] (fun s3 _ aU wr=>∃k:Nat,k<=f.slots.length/\aU=.int .i64 k/\s3=.string (bs (Tx.h0 f++Tx.argsS (f.slots.take k)))/\Hid (Gr W wr)) (fun _ _ i _=>f.slots.length-(intOf i).toNat)
   case atStart=>exact⟨0,pR _,rfl,by simp[Tx.argsS],p⟩
   case round =>
    clear p g hd hk;obtain⟨k,hk,rfl,rfl,y⟩:=hrel;by_cases g:k<f.slots.length
    ·have B:=oY g;obtain⟨z,I⟩:=xJ (f.slots[k]);rw[I]at B;obtain⟨b,ax,rfl,aQ⟩:=ek aO.out (J.out.trans y.out) B;have r:Tx.Ok z:=Y.out.slots z (pa B);have C:=dJ r;have lz:=Tx.num_len r;have ls:=Tx.argsS_len (f.slots.take k) (fun a ha=>Y.out.slots a (List.mem_of_mem_take ha));have lt:(f.slots.take k).length<=3:=by rw[List.length_take];omega
     have A1:∀d:World,(Op.stringOp .add ⟨#[32]⟩ (bs (Tx.num z))).run prog d=.ok (.string (bs (32::Tx.num z))) d:=fun d=>dq d [32] _ (by simp;omega)
     have O:∀d:World,(Op.stringOp .add (bs (Tx.h0 f++Tx.argsS (f.slots.take k))) (bs (32::Tx.num z))).run prog d=.ok (.string (bs (Tx.h0 f++Tx.argsS (f.slots.take (k+1))))) d:=fun d=>by rw[Tx.argsS_snoc B,<-List.append_assoc];exact dq d _ _ (by simp;omega)
     clear B I r lz ls lt;go_wp2_with (go_at_call 73;refine(HI.out _ C.out _ (J.out.trans y.out)).mono ?_;rintro e d ⟨rfl,g1⟩;have p:Hid (Gr W d):=dJ (y.out.trans g1);clear g1);go_roundw;case rel=>exact⟨k+1,by omega,rfl,rfl,p⟩
     case measure=>simp[intOf]<;>omega
    ·have m:k=f.slots.length:=by omega
     have hd:decide (k<f.slots.length)=false:=by simpa using g
     obtain⟨V,aa⟩:∃t,Hid (t=Tx.unw (Tx.headW f)):=⟨_,dJ rfl⟩;have FH:Hid (bs (Tx.h0 f++Tx.argsS (f.slots.take k))=bs V):=dJ (by rw[aa.out,az.out,m,pE]);rw[FH.out];clear m;obtain⟨m0,m1,m2,m3⟩:=KP.out _ y.out;clear l0 l1 l2 l3;have aS:W.heap.size<=wr.heap.size:=y.out.size;obtain⟨W2,ag⟩:=xJ (wr.alloc (.cells #[.string (bs V)] 9));have R:Hid (LW W W2 (.slice (some ⟨wr.heap.size,0,none⟩) 1 1) (Tx.upTo f 0)):=dJ (by rw[aA.out,<-aa.out,<-ag];exact⟨lZ wr V aS,y.out.alloc _⟩);obtain⟨l0,l1,l2,l3⟩:=KP.out _ R.out.2;go_wp2
     go_loopw [8,9,10,11,13,55] (fun s8 s9 _ _ _ aV wr=>∃(k:Nat)(A:Option Addr)(c:Nat),k<=f.blocks.length/\aV=.int .i64 k/\s9=.int .i64 (Ref.number f k)/\s8=.slice A (Tx.upTo f k).length c/\Hid (LW W wr (.slice A (Tx.upTo f k).length c) (Tx.upTo f k))) (fun _ _ _ _ _ i _=>f.blocks.length-(intOf i).toNat)
     case atStart=>exact⟨0,_,_,pR _,rfl,by simp[Ref.number,Ref.total],rfl,R⟩
     case round =>
      clear R ag l0 l1 l2 l3 m0 m1 m2 m3 FH g hd hk;obtain⟨k,A,c,hk,rfl,rfl,rfl,HL⟩:=hrel;obtain⟨wo,aP⟩:∃wo,wo=wr:=⟨wr,rfl⟩;subst aP;have ap:=Tx.upTo_len f k;by_cases g:k<f.blocks.length
      ·have K:=oY g;obtain⟨l,aq⟩:=xJ (f.blocks[k]);rw[aq]at K;have aj:=lm K;obtain⟨b,ax,Al,cl,rfl,hu,HB,a1⟩:=ic aL.out (J.out.trans HL.out.2) K;have C:Hid (Tx.Ok (k:Int)):=dJ ⟨by omega,by omega⟩;have lz:=Tx.num_len C.out;have A1:∀d:World,(Op.stringOp .add (bs (Tx.num (k:Int))) ⟨#[58]⟩).run prog d=.ok (.string (bs (Tx.num (k:Int)++[58]))) d:=fun d=>dq d _ [58] (by simp;omega);have EZ:=dJ (Tx.upIn_zero f k l);have ES:=dJ (Tx.upTo_succ K);have aE:Hid (∀x∈l,Tx.PrI x/\x.args.length<=10/\x.to.length<=10):=dJ fun x E=>⟨Y.out.ins l (pa K) x E,aB.out l (pa K) x E⟩;have ae:Hid (∀(j:Nat)(x:Ins),l[j]?=some x->Tx.upIn f k (j+1) l=Tx.upIn f k j l++[Tx.lineS x ((Ref.number f k+j:Nat):Int)]):=dJ fun j x E=>Tx.upIn_succ E;have aF:Hid (∀j,(Tx.upIn f k j l).length<=52+j):=dJ fun j=>by have:=Tx.upIn_len (f:=f) (k:=k) (j:=j) (l:=l);have:=M.out;omega
       have ab:Hid (Ref.number f (k+1)=Ref.number f k+l.length):=dJ (Ref.number_next f K);obtain⟨n0,ar⟩:=xJ (Ref.number f k);rw[ar]at ae ab aj ⊢;have aX:n0+l.length<=43:=by have:=M.out;omega
       have a5:(Tx.upTo f k).length<=51:=by have:=M.out;omega
       clear K aq aj ar lz ap
       go_wp2_with (first|(go_at_call 73;refine(HI.out _ C.out _ (J.out.trans HL.out.2)).mono ?_;rintro e d ⟨rfl,g1⟩;have T:=dJ (HL.out.gr g1);clear g1)|(at_builtin;refine oC rfl _ _ rfl rfl T.out.1 (Tx.num (k:Int)++[58]) rfl (by omega) T.out.2.size ?_;intro O c2 w2 F ah _;have aC:Hid (LW W w2 (.slice O ((Tx.upTo f k).length+1) c2) (Tx.upIn f k 0 l)):=dJ (by rw[EZ.out];exact⟨F,Gr.below T.out.2 ah (pS _)⟩);clear F ah))
       go_loopw [8,9,13,68] (fun s8 s9 _ aW wx=>∃(j:Nat)(A:Option Addr)(c:Nat),j<=l.length/\aW=.int .i64 j/\s9=.int .i64 ((n0+j:Nat):Int)/\s8=.slice A (Tx.upIn f k j l).length c/\Hid (LW W wx (.slice A (Tx.upIn f k j l).length c) (Tx.upIn f k j l))) (fun _ _ _ i _=>l.length-(intOf i).toNat)
       case atStart=>exact⟨0,O,c2,pR _,rfl,rfl,by rw[EZ.out];simp,by rw[show (Tx.upIn f k 0 l).length=(Tx.upTo f k).length+1 by rw[EZ.out];simp];exact aC⟩
       case round =>
        obtain⟨j,A3,c3,hj,rfl,rfl,rfl,HX⟩:=hrel;have a2:=aF.out j;by_cases N:j<l.length
        ·have E:=oY N;obtain⟨x,aw⟩:=xJ (l[j]);rw[aw]at E;obtain⟨b2,aZ,Aa,ca,At,ct,rfl,⟨y0,y1,y2,y3,y4,y5⟩,HV⟩:=ju HB.out (J.out.trans HX.out.2) E;obtain⟨av,au⟩:=aE.out x (pa E);have af:=dJ av;have aM:=dJ au;have L:=dJ (ae.out j x E);obtain⟨u,X⟩:=xJ (n0+j);have aH:=dJ X;have aY:u<43:=by omega
         have aI:Hid (Tx.Ok (u:Int)):=dJ ⟨by omega,by omega⟩;rw[X]at L ⊢;have an:Hid (Gr w wr):=dJ (J.out.trans HX.out.2);clear E aw av au X;unfold ef at HV
         go_wp2_with (first|(go_at_call 46;refine(aD.out x _ _ af.out aM.out aI.out _ (an.out.alloc _) (jt HV.out (an.out.alloc _))).mono ?_;rintro e d ⟨rfl,g1⟩;have U:=dJ (HX.out.gr (((qj _).alloc _).trans g1));clear g1)|(at_builtin;refine oC rfl _ _ rfl rfl U.out.1 (Tx.lineS x (u:Int)) rfl (by omega) U.out.2.size ?_;intro A4 c4 w4 G ai _;have aK:Hid (LW W w4 (.slice A4 ((Tx.upIn f k j l).length+1) c4) (Tx.upIn f k (j+1) l)):=dJ (by rw[L.out];exact⟨G,Gr.below U.out.2 ai (pS _)⟩);clear G ai))
         go_roundw;case rel=>exact⟨j+1,A4,c4,by omega,by go_num,congrArg (Value.int .i64) (by have:=aH.out;omega),by rw[L.out];simp,by rw[show (Tx.upIn f k (j+1) l).length=(Tx.upIn f k j l).length+1 by rw[L.out];simp];exact aK⟩
         case measure=>simp[intOf]<;>omega
        ·have ao:j=l.length:=by omega
         have aR:decide (j<l.length)=false:=by simpa using N
         have Q:=dJ ao;clear ao;go_wp2;go_roundw;case rel=>exact⟨k+1,A3,c3,by omega,by go_num,congrArg (Value.int .i64) (by rw[ab.out,Q.out]),by rw[ES.out,Q.out],by rw[ES.out,<-Q.out];exact HX⟩
         case measure=>simp[intOf]<;>omega
      ·have m:k=f.blocks.length:=by omega
       have aR:decide (k<f.blocks.length)=false:=by simpa using g
       have aJ:Hid (WordsIn wo (.slice A (Tx.upTo f k).length c) (Tx.linesS f)):=dJ (by
         have h:=gq HL.out.1 (by have:=M.out;omega)
         rw[m,Z.out]at h
         rw[m,Z.out];exact h)
       clear m;go_wp2;go_ret;exact⟨_,rfl,aJ,J.out.trans HL.out.2⟩
namespace Tx
def nUpTo (f:Fn)(k:Nat):List Int:=-1::numsFrom (f.blocks.take k) f.params.length
def nUpIn (f:Fn)(k j:Nat)(l:List Ins):List Int:=nUpTo f k++-1::insNums (l.take j) (Ref.number f k)
theorem nUpTo_zero (f:Fn):nUpTo f 0=[-1]:=rfl
theorem nUpTo_all (f:Fn):nUpTo f f.blocks.length=numsL f:=by unfold nUpTo numsL;rw[pE]
theorem numsFrom_snoc (l:List Ins):∀(bs:List (List Ins))(v:Int),numsFrom (bs++[l]) v=numsFrom bs v++-1::insNums l (v+Ref.total bs)
 | [],v=>by simp[numsFrom,Ref.total]
 | m::r,v=>by
  rw[List.cons_append,numsFrom,numsFrom_snoc l r,numsFrom,Ref.total_cons]
  rw[List.cons_append,List.append_assoc]
  rw[show v+(m.length:Int)+(Ref.total r:Int)=v+((m.length+Ref.total r:Nat):Int) by push_cast;omega]
theorem nUpTo_succ {f:Fn}{k:Nat}{l:List Ins}(h:f.blocks[k]?=some l):nUpTo f (k+1)=nUpIn f k l.length l:=by unfold nUpIn nUpTo;rw[List.take_add_one,h,pE];show _::numsFrom (f.blocks.take k++[l]) _=_;rw[numsFrom_snoc,List.cons_append,show (f.params.length:Int)+(Ref.total (f.blocks.take k):Int)=((Ref.number f k:Nat):Int) by unfold Ref.number;push_cast;rfl]
theorem insNums_snoc (x:Ins):∀(l:List Ins)(v:Int),insNums (l++[x]) v=insNums l v++[v+l.length]
 | [],v=>by simp[insNums]
 | y::r,v=>by rw[List.cons_append,insNums,insNums_snoc x r,insNums,List.cons_append,List.length_cons,show v+1+(r.length:Int)=v+((r.length+1:Nat):Int) by push_cast;omega]
theorem nUpIn_zero (f:Fn)(k:Nat)(l:List Ins):nUpIn f k 0 l=nUpTo f k++[-1]:=by unfold nUpIn;simp[insNums]
theorem nUpIn_succ {f:Fn}{k j:Nat}{l:List Ins}{x:Ins}(hx:l[j]?=some x):nUpIn f k (j+1) l=nUpIn f k j l++[((Ref.number f k+j:Nat):Int)]:=by
 unfold nUpIn;have d:(l.take j).length=j:=by rw[List.length_take];have:=(oZ.1 hx).1;omega
 rw[List.take_add_one,hx];show _++_::insNums (l.take j++[x]) _=_;rw[insNums_snoc,d]
 push_cast
 simp
theorem nUpTo_len (f:Fn)(k:Nat):(nUpTo f k).length=(upTo f k).length:=by unfold nUpTo upTo;rw[List.length_cons,List.length_cons,linesFrom_len,numsFrom_len]
theorem nUpIn_len (f:Fn)(k j:Nat)(l:List Ins):(nUpIn f k j l).length=(upIn f k j l).length:=by unfold nUpIn upIn;rw[pT,pT,List.length_cons,List.length_cons,insLines_len,insNums_len,nUpTo_len]
end Tx
theorem lL:((prog).info? 3).map (fun i=>(i.zero,i.size,i.bytes))=some (some (.int .i64 0),1,8):=by kernel_rfl
def dF (zs:List Int):List Value:=zs.map (Value.int .i64)
theorem oH {w:World}{ops:Array Oper}{rest:List Oper}{o:Oper}{a:Act}{Q:Exit->Act->World->Prop}{B:Nat}
  (hgd:o.guard=none) (s x:Operand) (ho:o.op=.call {callee:=.builtin .append,args:=#[s,x],argTypes:=#[22,22]})
  {v:Value} {ws:List Int} (hs:a.eval s=v) (hown:Own1 B 3 w v (dF ws)) (y:Int) {e':TypeId} (hx:a.eval x=.slice (some ⟨w.heap.size,0,none⟩) 1 1) (hlt:ws.length<1099511627776) (hB:B<=w.heap.size)
  (h:∀A c w',Own1 B 3 w' (.slice A (ws.length+1) c) (dF (ws++[y]))->Below B w w'->(w.alloc (.cells #[.int .i64 y] e')).grownBy w' v.ownBlock->wpList prog ops Q rest (a.put o.dst (.slice A (ws.length+1) c)) w') :
  wpList prog ops Q (o::rest) a (w.alloc (.cells #[.int .i64 y] e')):=by
 obtain⟨i0,q,g,j,l⟩:=info_parts lL;have r:(dF ws).length=ws.length:=pv _;refine nF (i:=i0) (z:=.int .i64 0) (bytes:=8) underlying22 q g j l rfl (by omega) hgd s x ho hs hown (y:=.int .i64 y) rfl hx (by omega) hB ?_;intro A c w' d m p;rw[r]at d ⊢;unfold dF at h;rw[List.map_append]at h;exact h A c w' d m p
theorem nj {B:Nat}(w:World)(y:Int)(hB:B<=w.heap.size):Own1 B 3 (w.alloc (.cells #[.int .i64 y] 3)) (.slice (some ⟨w.heap.size,0,none⟩) 1 1) (dF [y]) :=
 ⟨rfl,.inr ⟨w.heap.size,1,#[.int .i64 y],rfl,hB,heap_alloc_new w _,pS _,by simp[maxLen],rfl,rfl⟩⟩
def LN (W wr:World)(vo:Value)(ls:List (List UInt8))(vn:Value)(ns:List Int):Prop:=Own1 W.heap.size 9 wr vo (es ls)/\Own1 W.heap.size 3 wr vn (dF ns)/\Gr W wr
theorem LN.gr {W wr w':World}{vo vn:Value}{ls:List (List UInt8)}{ns:List Int}(h:LN W wr vo ls vn ns)(g:Gr wr w'):LN W w' vo ls vn ns:=⟨h.1.gr g,h.2.1.gr g,h.2.2.trans g⟩
theorem LN.str {W wr w':World}{vo vo' vn:Value}{ls ls':List (List UInt8)}{ns:List Int}{tmp:Obj}(h:LN W wr vo ls vn ns)(ho:Own1 W.heap.size 9 w' vo' (es ls'))(hb:Below W.heap.size wr w')(hg:(wr.alloc tmp).grownBy w' vo.ownBlock):LN W w' vo' ls' vn ns :=
 ⟨ho,(h.2.1.alloc tmp).other hg (fun k d e=>h.2.1.ne h.1 (by decide) k d e),Gr.below h.2.2 hb (pS _)⟩
theorem LN.num {W wr w':World}{vo vn vn':Value}{ls:List (List UInt8)}{ns ns':List Int}{tmp:Obj}(h:LN W wr vo ls vn ns)(ho:Own1 W.heap.size 3 w' vn' (dF ns'))(hb:Below W.heap.size wr w')(hg:(wr.alloc tmp).grownBy w' vn.ownBlock):LN W w' vo ls vn' ns' :=
 ⟨(h.1.alloc tmp).other hg (fun k d e=>h.1.ne h.2.1 (by decide) k d e),ho,Gr.below h.2.2 hb (pS _)⟩
theorem hG (v:Value)(f:Fn)(w:World)(hf:FnAt w.heap.size w v f)(hv:Ref.validate f=0)(hi:Tx.Im f)(ht:TabW w) :
  Calls prog 47 #[v] w fun e w'=>∃v' vn,e=.returned (.tuple #[v',vn])/\Hid (WordsIn w' v' (Tx.linesS f)/\IntsAt w'.heap.size w' vn (Tx.numsL f))/\Gr w w':=by
 have hp:=Tx.pr_of hv hi;have R:=((Ref.val_iff f).1 hv).size;have aR:Hid (∀l∈f.blocks,∀x∈l,x.args.length<=10/\x.to.length<=10):=fun l K x y=>Tx.args_len hv K y;obtain⟨vp,vs,vb,rfl,ay,az,ax⟩:=hf;have a4:=dJ ay;have a5:=dJ az;have a2:=dJ ax;obtain⟨Ap,cp,rfl,bm,-,-⟩:=ay;obtain⟨As,cs,rfl,bn,-,-⟩:=az;obtain⟨Ab,cb,rfl,bj,-,-⟩:=ax;have qp:=Tx.argsS_len f.params hp.params;have qs:=Tx.argsS_len f.slots hp.slots;have qr:=Tx.num_len hp.ret;have qh:(Tx.h0 f).length<=52:=by unfold Tx.h0;simp;omega
 have HI:Hid (∀z,Tx.Ok z->∀d,Gr w d->Calls prog 73 #[.int .i64 z] d (RG (.string (bs (Tx.num z))) d)):=fun z C d q=>fW z C.1 C.2 d (ht.gr q);have aU:Hid (∀(x:Ins)(z:Int)(vx:Value),Tx.PrI x->(x.args.length<=10/\x.to.length<=10)->Tx.Ok z->∀d,Gr w d->jS d.heap.size d vx x->Calls prog 76 #[vx,.int .i64 z] d (RG (.string (bs (Tx.lineS x z))) d)):=fun x z vx h1 h2 h3 d q h4=>mm x z h1 h2 h3 vx d h4 (ht.gr q);have HP:=dJ hp;have H:=dJ R;have aO:Hid (Tx.h0 f=[102,117,110,99]++Tx.argsS f.params++([32,58,32]++Tx.num f.ret++[32,58])):=dJ rfl;have aP:=dJ (Tx.head_pieces f);have aQ:=dJ (Tx.upTo_zero f);have aj:=dJ (Tx.upTo_all f);have a8:=dJ (Tx.nUpTo_zero f);have ao:=dJ (Tx.nUpTo_all f);have a7:=dJ (Tx.nUpTo_len f);have a6:=dJ (Tx.nUpIn_len f);obtain⟨W,hW,U,KP⟩:=dz w (.slice Ap f.params.length cp) (.int .i64 f.ret) (.slice As f.slots.length cs) (.slice Ab f.blocks.length cb);obtain⟨k0,k1,k2,k3⟩:=KP.out W (qj _);have z1:f.params.length<=3:=R.1;have z2:f.slots.length<=2:=R.2.1;have z3:f.blocks.length<=10:=R.2.2.2.1;clear hp hv ht R hi
 go_enter func47, ntmps47
 go_wp2
 go_loopw [4,5] (fun s4 s5 wr=>∃k:Nat,k<=f.params.length/\s5=.int .i64 k/\s4=.string (bs ([102,117,110,99]++Tx.argsS (f.params.take k)))/\Hid (Gr W wr)) (fun _ i _=>f.params.length-(intOf i).toNat)
 case atStart=>exact⟨0,pR _,rfl,by simp[Tx.argsS];rfl,dJ (qj _)⟩
 case round =>
  obtain⟨k,hk,rfl,rfl,B⟩:=hrel;obtain⟨m0,m1,m2,m3⟩:=KP.out _ B.out;clear k0 k1 k2 k3;obtain⟨t0,g⟩:∃t,Hid (t=[102,117,110,99]++Tx.argsS (f.params.take k)):=⟨_,dJ rfl⟩;by_cases p:k<f.params.length
  ·have C:=oY p;obtain⟨z,T⟩:=xJ (f.params[k]);rw[T]at C;obtain⟨b,aN,rfl,ba⟩:=ek a4.out (U.out.trans B.out) C;have r:Tx.Ok z:=HP.out.params z (pa C);have E:=dJ r;have lz:=Tx.num_len r;have ls:=Tx.argsS_len (f.params.take k) (fun a ha=>HP.out.params a (List.mem_of_mem_take ha));have lt:(f.params.take k).length<=3:=by rw[List.length_take];omega
   have l0:t0.length<=37:=by rw[g.out];simp;omega
   obtain⟨t1,I⟩:∃t,Hid (t=t0++[32]):=⟨_,dJ rfl⟩;have A1:∀d:World,(Op.stringOp .add (bs t0) ⟨#[32]⟩).run prog d=.ok (.string (bs t1)) d:=fun d=>by rw[I.out];exact dq d _ [32] (by simp;omega)
   have Z:∀d:World,(Op.stringOp .add (bs t1) (bs (Tx.num z))).run prog d=.ok (.string (bs ([102,117,110,99]++Tx.argsS (f.params.take (k+1))))) d:=fun d=>by rw[I.out,Tx.argsS_snoc C,dq d _ _ (by simp;omega),g.out];simp
   rw[<-g.out];obtain⟨t2,J⟩:∃t,Hid (t=[102,117,110,99]++Tx.argsS (f.params.take (k+1))):=⟨_,dJ rfl⟩;rw[<-J.out]at Z;clear C T r lz ls lt l0;go_wp2_with (go_at_call 73;refine(HI.out _ E.out _ (U.out.trans B.out)).mono ?_;rintro e d ⟨rfl,g1⟩;have D:Hid (Gr W d):=dJ (B.out.trans g1);clear g1);go_roundw;case rel=>exact⟨k+1,by omega,rfl,by rw[J.out],D⟩
   case measure=>simp[intOf]<;>omega
  ·have m:k=f.params.length:=by omega
   have hd:decide (k<f.params.length)=false:=by simpa using p
   have bd:t0.length<=37:=by rw[g.out,m,pE];simp;omega
   obtain⟨r0,G⟩:∃t,Hid (t=t0++[32,58,32]):=⟨_,dJ rfl⟩;obtain⟨r1,X⟩:∃t,Hid (t=r0++Tx.num f.ret):=⟨_,dJ rfl⟩;have EH:Hid (Tx.h0 f=r1++[32,58]):=dJ (by rw[aO.out,X.out,G.out,g.out,m,pE];simp);have A1:∀d:World,(Op.stringOp .add (bs t0) ⟨#[32,58,32]⟩).run prog d=.ok (.string (bs r0)) d:=fun d=>by rw[G.out];exact dq d _ [32,58,32] (by simp;omega)
   have Z:∀d:World,(Op.stringOp .add (bs r0) (bs (Tx.num f.ret))).run prog d=.ok (.string (bs r1)) d:=fun d=>by rw[X.out,G.out];exact dq d _ _ (by simp;omega)
   have A3:∀d:World,(Op.stringOp .add (bs r1) ⟨#[32,58]⟩).run prog d=.ok (.string (bs (Tx.h0 f))) d:=fun d=>by rw[EH.out,X.out,G.out];exact dq d _ [32,58] (by simp;omega)
   rw[<-g.out];have aX:=dJ HP.out.ret;clear m bd;go_wp2_with (go_at_call 73;refine(HI.out _ aX.out _ (U.out.trans B.out)).mono ?_;rintro e d ⟨rfl,g1⟩;have D:Hid (Gr W d):=dJ (B.out.trans g1);clear g1);clear A1 Z A3 B m0 m1 m2 m3
   go_loopw [4,6] (fun s4 s6 wr=>∃k:Nat,k<=f.slots.length/\s6=.int .i64 k/\s4=.string (bs (Tx.h0 f++Tx.argsS (f.slots.take k)))/\Hid (Gr W wr)) (fun _ i _=>f.slots.length-(intOf i).toNat)
   case atStart=>exact⟨0,pR _,rfl,by simp[Tx.argsS],D⟩
   case round =>
    clear D p hd hk g G X EH;obtain⟨k,hk,rfl,rfl,B⟩:=hrel;obtain⟨m0,m1,m2,m3⟩:=KP.out _ B.out;obtain⟨t0,g⟩:∃t,Hid (t=Tx.h0 f++Tx.argsS (f.slots.take k)):=⟨_,dJ rfl⟩;by_cases p:k<f.slots.length
    ·have C:=oY p;obtain⟨z,T⟩:=xJ (f.slots[k]);rw[T]at C;obtain⟨b,aN,rfl,ba⟩:=ek a5.out (U.out.trans B.out) C;have r:Tx.Ok z:=HP.out.slots z (pa C);have E:=dJ r;have lz:=Tx.num_len r;have ls:=Tx.argsS_len (f.slots.take k) (fun a ha=>HP.out.slots a (List.mem_of_mem_take ha));have lt:(f.slots.take k).length<=3:=by rw[List.length_take];omega
     have l0:t0.length<=85:=by rw[g.out];simp;omega
     obtain⟨t1,I⟩:∃t,Hid (t=t0++[32]):=⟨_,dJ rfl⟩;have A1:∀d:World,(Op.stringOp .add (bs t0) ⟨#[32]⟩).run prog d=.ok (.string (bs t1)) d:=fun d=>by rw[I.out];exact dq d _ [32] (by simp;omega)
     obtain⟨t2,J⟩:∃t,Hid (t=Tx.h0 f++Tx.argsS (f.slots.take (k+1))):=⟨_,dJ rfl⟩
     have Z:∀d:World,(Op.stringOp .add (bs t1) (bs (Tx.num z))).run prog d=.ok (.string (bs t2)) d:=fun d=>by rw[I.out,J.out,Tx.argsS_snoc C,dq d _ _ (by simp;omega),g.out];simp
     rw[<-g.out];clear C T r lz ls lt l0;go_wp2_with (go_at_call 73;refine(HI.out _ E.out _ (U.out.trans B.out)).mono ?_;rintro e d ⟨rfl,g1⟩;have D:Hid (Gr W d):=dJ (B.out.trans g1);clear g1);go_roundw;case rel=>exact⟨k+1,by omega,rfl,by rw[J.out],D⟩
     case measure=>simp[intOf]<;>omega
    ·have m:k=f.slots.length:=by omega
     have hd:decide (k<f.slots.length)=false:=by simpa using p
     have FH:Hid (t0=Tx.unw (Tx.headW f)):=dJ (by rw[g.out,aP.out,m,pE]);rw[<-g.out];clear m;have bc:W.heap.size<=wr.heap.size:=B.out.size;obtain⟨W2,Y⟩:=xJ (wr.alloc (.cells #[.string (bs t0)] 9));have aM:W2.heap.size=wr.heap.size+1:=by rw[<-Y];simp
     have bi:=dJ aM;obtain⟨W3,ap⟩:=xJ (W2.alloc (.cells #[.int .i64 (-1)] 3))
     have ac:Hid (LN W W3 (.slice (some ⟨wr.heap.size,0,none⟩) 1 1) (Tx.upTo f 0) (.slice (some ⟨W2.heap.size,0,none⟩) 1 1) (Tx.nUpTo f 0)):=dJ (by
       rw[aQ.out,a8.out,<-FH.out,<-ap]
       refine⟨?_,nj W2 (-1) (by omega),?_⟩
       · rw[<-Y];exact(lZ wr t0 bc).gr ((qj _).alloc _)
       · rw[<-Y];exact(B.out.alloc _).alloc _)
     obtain⟨l0,l1,l2,l3⟩:=KP.out _ ac.out.2.2;clear aM;go_wp2
     go_loopw [7,8,9,10,11] (fun s7 s8 s9 s10 _ wr=>∃(k:Nat)(A:Option Addr)(c:Nat)(An:Option Addr)(cn:Nat),k<=f.blocks.length/\s10=.int .i64 k/\s9=.int .i64 (Ref.number f k)/\s7=.slice A (Tx.upTo f k).length c/\s8=.slice An (Tx.nUpTo f k).length cn/\Hid (LN W wr (.slice A (Tx.upTo f k).length c) (Tx.upTo f k) (.slice An (Tx.nUpTo f k).length cn) (Tx.nUpTo f k))) (fun _ _ _ i _ _=>f.blocks.length-(intOf i).toNat)
     case atStart=>exact⟨0,_,_,_,_,pR _,rfl,by simp[Ref.number,Ref.total],rfl,rfl,ac⟩
     case round =>
      clear ac Y ap l0 l1 l2 l3 m0 m1 m2 m3 g FH p hd hk;obtain⟨k,A,c,An,cn,hk,rfl,rfl,rfl,rfl,HL⟩:=hrel;obtain⟨wo,a9⟩:∃wo,wo=wr:=⟨wr,rfl⟩;subst a9;obtain⟨m0,m1,m2,m3⟩:=KP.out _ HL.out.2.2;have aG:=Tx.upTo_len f k;have L:=a7.out k;by_cases p:k<f.blocks.length
      ·have K:=oY p;obtain⟨l,aH⟩:=xJ (f.blocks[k]);rw[aH]at K;have aw:=lm K;have aS:=dJ K;have E:Hid (Tx.Ok (k:Int)):=dJ ⟨by omega,by omega⟩;have lz:=Tx.num_len E.out;have A1:∀d:World,(Op.stringOp .add (bs (Tx.num (k:Int))) ⟨#[58]⟩).run prog d=.ok (.string (bs (Tx.num (k:Int)++[58]))) d:=fun d=>dq d _ [58] (by simp;omega);have EZ:=dJ (Tx.upIn_zero f k l);have ES:=dJ (Tx.upTo_succ K);have NZ:=dJ (Tx.nUpIn_zero f k l);have NS:=dJ (Tx.nUpTo_succ K);have aV:Hid (∀x∈l,Tx.PrI x/\x.args.length<=10/\x.to.length<=10):=dJ fun x y=>⟨HP.out.ins l (pa K) x y,aR.out l (pa K) x y⟩;have am:Hid (∀(j:Nat)(x:Ins),l[j]?=some x->Tx.upIn f k (j+1) l=Tx.upIn f k j l++[Tx.lineS x ((Ref.number f k+j:Nat):Int)]):=dJ fun j x y=>Tx.upIn_succ y;have ak:Hid (∀(j:Nat)(x:Ins),l[j]?=some x->Tx.nUpIn f k (j+1) l=Tx.nUpIn f k j l++[((Ref.number f k+j:Nat):Int)]):=dJ fun j x y=>Tx.nUpIn_succ y;have aW:Hid (∀j,(Tx.upIn f k j l).length<=52+j):=dJ fun j=>by have:=Tx.upIn_len (f:=f) (k:=k) (j:=j) (l:=l);have:=H.out;omega
       have al:Hid (Ref.number f (k+1)=Ref.number f k+l.length):=dJ (Ref.number_next f K);obtain⟨n0,aI⟩:=xJ (Ref.number f k);rw[aI]at am ak al aw ⊢;have bf:n0+l.length<=43:=by have:=H.out;omega
       have bp:(Tx.upTo f k).length<=51:=by have:=H.out;omega
       have bo:(Tx.nUpTo f k).length<=51:=by omega
       clear K aH aw aI lz aG L
       go_wp2_with (first|(go_at_call 73;refine(HI.out _ E.out _ (U.out.trans HL.out.2.2)).mono ?_;rintro e d ⟨rfl,g1⟩;have ad:=dJ (HL.out.gr g1);clear g1)|(at_builtin;refine oC rfl _ _ rfl rfl ad.out.1 (Tx.num (k:Int)++[58]) rfl (by omega) ad.out.2.2.size ?_;intro Z c2 w2 M aq aA;have ae:Hid (LN W w2 (.slice Z ((Tx.upTo f k).length+1) c2) (Tx.upIn f k 0 l) (.slice An (Tx.nUpTo f k).length cn) (Tx.nUpTo f k)):=dJ (by rw[EZ.out];exact ad.out.str M aq aA);clear M aq aA)|(at_builtin;refine oH rfl _ _ rfl rfl ae.out.2.1 (-1) rfl (by omega) ae.out.2.2.size ?_;intro A3 c3 w3 N ar aB;have aT:Hid (LN W w3 (.slice Z ((Tx.upTo f k).length+1) c2) (Tx.upIn f k 0 l) (.slice A3 ((Tx.nUpTo f k).length+1) c3) (Tx.nUpIn f k 0 l)):=dJ (by rw[NZ.out];exact ae.out.num N ar aB);clear N ar aB))
       clear m0 m1 m2 m3
       go_loopw [7,8,9,11] (fun s7 s8 s9 s11 wx=>∃(j:Nat)(A:Option Addr)(c:Nat)(An:Option Addr)(cn:Nat),j<=l.length/\s11=.int .i64 j/\s9=.int .i64 ((n0+j:Nat):Int)/\s7=.slice A (Tx.upIn f k j l).length c/\s8=.slice An (Tx.nUpIn f k j l).length cn/\Hid (LN W wx (.slice A (Tx.upIn f k j l).length c) (Tx.upIn f k j l) (.slice An (Tx.nUpIn f k j l).length cn) (Tx.nUpIn f k j l))) (fun _ _ _ i _=>l.length-(intOf i).toNat)
       case atStart =>
        have e1:(Tx.upIn f k 0 l).length=(Tx.upTo f k).length+1:=by rw[EZ.out];simp
        have e2:(Tx.nUpIn f k 0 l).length=(Tx.nUpTo f k).length+1:=by rw[NZ.out];simp
        exact⟨0,Z,c2,A3,c3,pR _,rfl,rfl,by rw[e1],by rw[e2],by rw[e1,e2];exact aT⟩
       case round =>
        obtain⟨j,A4,c4,A5,c5,hj,rfl,rfl,rfl,rfl,HX⟩:=hrel;have bl:=aW.out j;have aF:=a6.out k j l;obtain⟨m0,m1,m2,m3⟩:=KP.out _ HX.out.2.2;obtain⟨b,aN,Al,cl,rfl,hu,HB,bk⟩:=ic a2.out (U.out.trans HX.out.2.2) aS.out;by_cases ab:j<l.length
        ·have y:=oY ab;obtain⟨x,aL⟩:=xJ (l[j]);rw[aL]at y;obtain⟨b2,bh,Aa,ca,At,ct,rfl,⟨y0,y1,y2,y3,y4,y5⟩,HV⟩:=ju HB.out (U.out.trans HX.out.2.2) y;obtain⟨aK,aJ⟩:=aV.out x (pa y);have an:=dJ aK;have a3:=dJ aJ;have af:=dJ (am.out j x y);have F:=dJ (ak.out j x y);obtain⟨u,ai⟩:=xJ (n0+j);have aY:=dJ ai;have bg:u<43:=by omega
         have aZ:Hid (Tx.Ok (u:Int)):=dJ ⟨by omega,by omega⟩;rw[ai]at af F ⊢;have aC:Hid (Gr w wr):=dJ (U.out.trans HX.out.2.2);have be:(Tx.nUpIn f k j l).length<=100:=by omega
         clear y aL aK aJ ai aF;unfold ef at HV
         go_wp2_with (first|(go_at_call 76;refine(aU.out x _ _ an.out a3.out aZ.out _ aC.out (jt HV.out aC.out)).mono ?_;rintro e d ⟨rfl,g1⟩;have ag:=dJ (HX.out.gr g1);clear g1)|(at_builtin;refine oC rfl _ _ rfl rfl ag.out.1 (Tx.lineS x (u:Int)) rfl (by omega) ag.out.2.2.size ?_;intro A6 c6 w6 O au aa;have ah:Hid (LN W w6 (.slice A6 ((Tx.upIn f k j l).length+1) c6) (Tx.upIn f k (j+1) l) (.slice A5 (Tx.nUpIn f k j l).length c5) (Tx.nUpIn f k j l)):=dJ (by rw[af.out];exact ag.out.str O au aa);clear O au aa)|(at_builtin;refine oH rfl _ _ rfl rfl ah.out.2.1 (u:Int) rfl (by omega) ah.out.2.2.size ?_;intro A7 c7 w7 Q av aD;have a1:Hid (LN W w7 (.slice A6 ((Tx.upIn f k j l).length+1) c6) (Tx.upIn f k (j+1) l) (.slice A7 ((Tx.nUpIn f k j l).length+1) c7) (Tx.nUpIn f k (j+1) l)):=dJ (by rw[F.out];exact ah.out.num Q av aD);clear Q av aD))
         have e1:Hid ((Tx.upIn f k (j+1) l).length=(Tx.upIn f k j l).length+1):=dJ (by rw[af.out];simp);have e2:Hid ((Tx.nUpIn f k (j+1) l).length=(Tx.nUpIn f k j l).length+1):=dJ (by rw[F.out];simp);go_roundw;case rel=>exact⟨j+1,A6,c6,A7,c7,by omega,by go_num,congrArg (Value.int .i64) (by have:=aY.out;omega),by rw[e1.out],by rw[e2.out],by rw[e1.out,e2.out];exact a1⟩
         case measure=>simp[intOf]<;>omega
        ·have aE:j=l.length:=by omega
         have bb:decide (j<l.length)=false:=by simpa using ab
         have V:=dJ aE;clear aE aF;go_wp2;go_roundw;case rel=>exact⟨k+1,A4,c4,A5,c5,by omega,by go_num,congrArg (Value.int .i64) (by rw[al.out,V.out]),by rw[ES.out,V.out],by rw[NS.out,V.out],by rw[ES.out,NS.out,<-V.out];exact HX⟩
         case measure=>simp[intOf]<;>omega
      ·have m:k=f.blocks.length:=by omega
       have bb:decide (k<f.blocks.length)=false:=by simpa using p
       have a0:Hid (WordsIn wo (.slice A (Tx.upTo f k).length c) (Tx.linesS f)/\IntsAt wo.heap.size wo (.slice An (Tx.nUpTo f k).length cn) (Tx.numsL f)):=dJ (by
         have h:=gq HL.out.1 (by have:=H.out;omega)
         have h2:=HL.out.2.1.ints (by have:=H.out;omega)
         rw[m,aj.out]at h
         rw[m,ao.out]at h2
         rw[m,aj.out,ao.out];exact⟨h,h2⟩)
       clear m L;go_wp2;go_ret2;exact⟨_,_,rfl,a0,U.out.trans HL.out.2.2⟩
def di (f:Fn):List UInt8:=if Ref.validate f=0 then Tx.textS f else []
theorem gQ (f:Fn):Tx.linesS f≠[]:=by unfold Tx.linesS;simp
theorem fR (v:Value)(f:Fn)(w:World)(hf:FnAt w.heap.size w v f)(hv:Ref.validate f=0)(hi:Tx.Im f)(ht:TabW w) :
  Calls prog 29 #[v] w (RG (.string (bs (Tx.textS f))) w):=by
 have F:Hid (∀d,Gr w d->Calls prog 57 #[v] d fun e w'=>∃g,e=.returned g/\Hid (WordsIn w' g (Tx.linesS f))/\Gr d w'):=fun d q=>gV v f d (hf.gr q) hv hi (ht.gr q);have y:=Tx.join_text (Tx.linesS f) (gQ f);have r:=Tx.textS_len hv hi;have t:Hid (Tx.textS f=Lib.join (Tx.linesS f) [10]++[10]):=dJ y.symm
 have j:(Lib.join (Tx.linesS f) [10]).length<=1000000:=by have h:=congrArg List.length t.out;rw[pT]at h;omega
 have E:Hid (∀(g:Value)(d:World),WordsIn d g (Tx.linesS f)->Calls prog 56 #[g,.string (bs [10])] d (RG (.string (bs (Lib.join (Tx.linesS f) [10]))) d)):=fun g d q=>mZ g _ d q (gQ f) j;have O:∀d:World,(Op.stringOp .add (bs (Lib.join (Tx.linesS f) [10])) ⟨#[10]⟩).run prog d=.ok (.string (bs (Tx.textS f))) d:=fun d=>by rw[t.out];exact dq d _ [10] (by simp;omega)
 obtain⟨Y,Z,X,rfl,m,p,l⟩:=hf;obtain⟨A,J,rfl,M,-,-⟩:=m;obtain⟨B,K,rfl,N,-,-⟩:=p;obtain⟨z,I,rfl,L,-,-⟩:=l;obtain⟨W,Q,u,H⟩:=dz w (.slice A f.params.length J) (.int .i64 f.ret) (.slice B f.slots.length K) (.slice z f.blocks.length I);obtain⟨R,T,U,V⟩:=H.out W (qj _);clear hv hi ht y j r
 go_enter func29, ntmps29
 go_wp2_with (first|(go_at_call 57;refine(F.out _ u.out).mono ?_;rintro e d ⟨g,rfl,G,g1⟩;have C:=dJ (u.out.trans g1);clear g1)|(go_at_call 56;refine(E.out _ _ G.out).mono ?_;rintro e w2 ⟨rfl,g2⟩;have D:=dJ (C.out.trans g2);clear g2))
 go_ret;exact⟨rfl,D.out⟩
theorem ja (v:Value)(f:Fn)(w:World)(hf:FnAt w.heap.size w v f)(hv:Ref.validate f=0)(hi:Tx.Im f)(ht:TabW w) :
  Calls prog 31 #[v] w (RG (.string (bs (Tx.textS f))) w):=by
 have U:Hid (∀d,Gr w d->Calls prog 47 #[v] d fun e w'=>∃O Q,e=.returned (.tuple #[O,Q])/\Hid (WordsIn w' O (Tx.linesS f)/\IntsAt w'.heap.size w' Q (Tx.numsL f))/\Gr d w'):=fun d q=>hG v f d (hf.gr q) hv hi (ht.gr q);have E:Hid (∀s∈Tx.linesS f,s.length<=500):=dJ (Tx.linesS_max hv hi);have M:(Tx.linesS f).length<=51:=by have:=Tx.linesS_len f;have:=((Ref.val_iff f).1 hv).size;omega
 have R:Hid (Tx.textS f=(Tx.linesS f).flatMap fun l=>l++[10]):=dJ rfl;obtain⟨g,y⟩:=xJ (Tx.linesS f);rw[y]at U E M R;obtain⟨vp,vs,vb,rfl,K,L,J⟩:=hf;obtain⟨Ap,cp,rfl,ac,-,-⟩:=K;obtain⟨As,cs,rfl,ad,-,-⟩:=L;obtain⟨Z,cb,rfl,aa,-,-⟩:=J;obtain⟨W,hW,T,KP⟩:=dz w (.slice Ap f.params.length cp) (.int .i64 f.ret) (.slice As f.slots.length cs) (.slice Z f.blocks.length cb);obtain⟨k0,k1,k2,k3⟩:=KP.out W (qj _);clear hv hi ht y
 go_enter func31, ntmps31
 go_wp2_with (go_at_call 47;refine(U.out _ T.out).mono ?_;rintro e d ⟨O,Q,rfl,G,g1⟩;have G1:=dJ (T.out.trans g1);clear g1;have H:=dJ G.out.1;obtain⟨⟨A,c,N,hc,-,-⟩,-⟩:=G.out;subst N);clear G
 go_loop [5,6] (fun s5 s6=>∃k:Nat,k<=g.length/\s6=.int .i64 k/\s5=.string (bs ((g.take k).flatMap fun l=>l++[10]))) (fun _ i=>g.length-(intOf i).toNat)
 case atStart=>exact⟨0,pR _,rfl,by simp;rfl⟩
 case round =>
  obtain⟨k,hk,rfl,rfl⟩:=hrel;by_cases B:k<g.length
  ·have C:=oY B;obtain⟨z,D⟩:=xJ (g[k]);rw[D]at C
   obtain⟨b,j,rfl,ab⟩:∃b j,A=some ⟨b,j,none⟩/\d.cell? ⟨b,j+k,none⟩=some (.string (bs z)):=by obtain⟨A',c',e,-,-,I⟩:=H.out;injection e with e1 V e3;subst e1;obtain⟨b,j,e',hb,hR⟩:=I (by omega);exact⟨b,j,e',hR k z C⟩
   have h1:=E.out z (pa C);have X:=Tx.flat_lines_len (g.take k) 500 fun s hs=>E.out s (List.mem_of_mem_take hs);have I:(g.take k).length*(500+1)<=51*501:=Nat.mul_le_mul_right _ (by rw[List.length_take];omega);obtain⟨t0,m⟩:∃t,Hid (t=(g.take k).flatMap fun l=>l++[10]):=⟨_,dJ rfl⟩;rw[<-m.out]at X ⊢;obtain⟨t2,r⟩:∃t,Hid (t=(g.take (k+1)).flatMap fun l=>l++[10]):=⟨_,dJ rfl⟩;have V:Hid (t2=t0++z++[10]):=dJ (by rw[r.out,m.out,List.take_add_one,C,List.flatMap_append];simp);obtain⟨Y,p⟩:∃t,Hid (t=t0++z):=⟨_,dJ rfl⟩;have A1:∀d:World,(Op.stringOp .add (bs t0) (bs z)).run prog d=.ok (.string (bs Y)) d:=fun d=>by rw[p.out];exact dq d _ _ (by omega)
   have A2:∀d:World,(Op.stringOp .add (bs Y) ⟨#[10]⟩).run prog d=.ok (.string (bs t2)) d:=fun d=>by rw[V.out,p.out];exact dq d _ [10] (by simp;omega)
   clear C D h1 X I;go_wp2;go_round;case rel=>exact⟨k+1,by omega,rfl,by rw[r.out]⟩
   case measure=>simp[intOf]<;>omega
  ·have u:k=g.length:=by omega
   have hd:decide (k<g.length)=false:=by simpa using B
   have F:Hid (bs ((g.take k).flatMap fun l=>l++[10])=bs (Tx.textS f)):=dJ (by rw[R.out,u,pE]);rw[F.out];clear u;go_wp2;go_ret;exact⟨rfl,G1.out⟩
theorem dW (v:Value)(f:Fn)(w:World)(hf:FnAt w.heap.size w v f)(hn:ia f)(hi:Tx.Im f)(ht:TabW w) :
  Calls prog 12 #[v] w (RG (.tuple #[.string (bs (di f)),.int .i64 (Ref.validate f)]) w):=by
 have r:Hid (∀d,Gr w d->Calls prog 28 #[v] d (RG (.int .i64 (Ref.validate f)) d)):=fun d q=>eP v f d (hf.gr q) hn;have z:Hid (Ref.validate f=0->∀d,Gr w d->Calls prog 29 #[v] d (RG (.string (bs (Tx.textS f))) d)):=fun h d q=>fR v f d (hf.gr q) h hi (ht.gr q);have m:Hid (di f=if Ref.validate f=0 then Tx.textS f else []):=dJ rfl;obtain⟨vp,vs,Z,rfl,u,y,t⟩:=hf;obtain⟨D,H,rfl,K,-,-⟩:=u;obtain⟨E,I,rfl,L,-,-⟩:=y;obtain⟨C,G,rfl,J,-,-⟩:=t;obtain⟨W,N,l,A⟩:=dz w (.slice D f.params.length H) (.int .i64 f.ret) (.slice E f.slots.length I) (.slice C f.blocks.length G);obtain⟨O,Q,R,T⟩:=A.out W (qj _);obtain⟨e,B⟩:=xJ (Ref.validate f);rw[B]at r z m ⊢;clear B hi ht hn;by_cases h0:e=0
 ·have g:Hid (di f=Tx.textS f):=dJ (by rw[m.out,pB h0]);have p:=dJ (z.out h0);subst h0
  go_enter func12, ntmps12
  go_wp2_with (first|(go_at_call 28;refine(r.out _ l.out).mono ?_;rintro e d ⟨rfl,g1⟩;have j:=dJ (l.out.trans g1);obtain⟨U,V,X,Y⟩:=A.out _ g1;clear g1)|(go_at_call 29;refine(p.out _ j.out).mono ?_;rintro e w2 ⟨rfl,g2⟩;have F:=dJ (j.out.trans g2);clear g2))
  go_ret2;exact⟨by rw[g.out];rfl,F.out⟩
 ·have g:Hid (di f=[]):=dJ (by rw[m.out,pC h0]);have M:(e != 0)=true:=by simpa using h0
  clear h0
  go_enter func12, ntmps12
  go_wp2_with (go_at_call 28;refine(r.out _ l.out).mono ?_;rintro e d ⟨rfl,g1⟩;have j:=dJ (l.out.trans g1);clear g1);go_ret2;exact⟨by rw[g.out];rfl,j.out⟩
theorem kF (v:Value)(f:Fn)(w:World)(hf:FnAt w.heap.size w v f)(hn:ia f)(hi:Tx.Im f)(ht:TabW w) :
  Calls prog 13 #[v] w (RG (.tuple #[.string (bs (di f)),.int .i64 (Ref.validate f)]) w):=by
 have r:Hid (∀d,Gr w d->Calls prog 30 #[v] d (RG (.int .i64 (Ref.validate f)) d)):=fun d q=>gA v f d (hf.gr q) hn;have z:Hid (Ref.validate f=0->∀d,Gr w d->Calls prog 31 #[v] d (RG (.string (bs (Tx.textS f))) d)):=fun h d q=>ja v f d (hf.gr q) h hi (ht.gr q);have m:Hid (di f=if Ref.validate f=0 then Tx.textS f else []):=dJ rfl;obtain⟨vp,vs,Z,rfl,u,y,t⟩:=hf;obtain⟨D,H,rfl,K,-,-⟩:=u;obtain⟨E,I,rfl,L,-,-⟩:=y;obtain⟨C,G,rfl,J,-,-⟩:=t;obtain⟨W,N,l,A⟩:=dz w (.slice D f.params.length H) (.int .i64 f.ret) (.slice E f.slots.length I) (.slice C f.blocks.length G);obtain⟨O,Q,R,T⟩:=A.out W (qj _);obtain⟨e,B⟩:=xJ (Ref.validate f);rw[B]at r z m ⊢;clear B hi ht hn;by_cases h0:e=0
 ·have g:Hid (di f=Tx.textS f):=dJ (by rw[m.out,pB h0]);have p:=dJ (z.out h0);subst h0
  go_enter func13, ntmps13
  go_wp2_with (first|(go_at_call 30;refine(r.out _ l.out).mono ?_;rintro e d ⟨rfl,g1⟩;have j:=dJ (l.out.trans g1);obtain⟨U,V,X,Y⟩:=A.out _ g1;clear g1)|(go_at_call 31;refine(p.out _ j.out).mono ?_;rintro e w2 ⟨rfl,g2⟩;have F:=dJ (j.out.trans g2);clear g2))
  go_ret2;exact⟨by rw[g.out];rfl,F.out⟩
 ·have g:Hid (di f=[]):=dJ (by rw[m.out,pC h0]);have M:(e != 0)=true:=by simpa using h0
  clear h0
  go_enter func13, ntmps13
  go_wp2_with (go_at_call 30;refine(r.out _ l.out).mono ?_;rintro e d ⟨rfl,g1⟩;have j:=dJ (l.out.trans g1);clear g1);go_ret2;exact⟨by rw[g.out];rfl,j.out⟩

/- Parts: Is En It Iu Cn Cg Cx Aj Iv. -/
import Derived.Laws.CopyRow
import Derived.Lib.AppendZeros
import Derived.Lib.Overlaps
import Derived.Laws.Externs
import Derived.Shelf.Spec.SlicesInsertGrow
import Derived.Test.YthfhamagopbgcaaGreatH43
set_option linter.unusedSimpArgs false
set_option linter.unusedVariables false
set_option maxRecDepth 100000
set_option maxHeartbeats 16000000
open Go.Proofs.Tryz
namespace Go.Proofs.YthfhamagopbgcaaGreat
section
open Go.RowKit
theorem eK {P:Program}(w:World)(dT sT ty elem:TypeId)(g o dLen dCap:Nat)(a:Addr)(sLen sCap size:Nat)(cur:Array Value)(t:TypeId)(cs:List Value)
  (hu:P.underlying dT=some (.slice elem)) (hs:(P.info? elem).map (·.size)=some size)
  (hg:w.heap[g]?=some (.cells cur t (0,0))) (hn:cs.length=Nat.min sLen dLen*size)
  (hsrc:∀j v,cs[j]?=some v->w.cell? (a.add j)=some v) (hfit:o+cs.length<=cur.size) (h1:∀v∈cs,v.oneCell'=true) :
  (Builtin.copy_ #[dT,sT] ty #[.slice (some ⟨g,o,none⟩) dLen dCap,.slice (some a) sLen sCap]).run P w =
   .ok (goInt (Nat.min sLen dLen)) (w.setRow g (cur.toList.take o++cs++cur.toList.drop (o+cs.length)).toArray):=by
 have hl:=run_loadCells_list (P:=P) w a cs hsrc;have d:=run_storeCells_at P g o t cs 0 cur w hg (by simpa using hfit) h1
 cases hq:P.info? elem with
 | none=>simp[hq] at hs
 | some i =>
  have l:i.size=size:=by simpa[hq] using hs
  rw[hn] at hl;simp[Builtin.copy_,run_underlying hu,Builtin.lenOf,Builtin.firstCells,sizeOf,typeInfo,hq,l,hl,d]
theorem jQ:(prog.info? 39).map (fun i=>(i.zero,i.size,i.bytes))=some (some (.agg #[.int .i64 0,.bool false,.int .i64 0,.int .u32 0,.slice none 0 0]),5,56):=by kernel_rfl
theorem tb {B vb n:Nat}{v:Value}{xs ys:List Value}{w:World}(h:w.ownsRow B 39 5 v n xs)(hB:B<=w.heap.size)(hn:n<=1000)(hy:ys.length=5)(hyc:∀j u,ys[j]?=some u->w.cell? ⟨vb,j,none⟩=some u)(h1:∀y∈ys,y.oneCell'=true) :
  Calls prog 51 #[v,.int .i64 n,.slice (some ⟨vb,0,none⟩) 1 1] w fun e w'=>∃A c,e=.returned (.slice A (n+1) c)/\w'.ownsRow B 39 5 (.slice A (n+1) c) (n+1) (xs++ys)/\w.grownBy w' v.ownBlock/\∀k,(Value.slice A (n+1) c).ownBlock=some k->v.ownBlock=some k\/w.heap.size<=k:=by
 obtain⟨N,t,z,C,D⟩:=info_parts jQ;obtain⟨A,c,rfl,X,-,R⟩:=dU h;have p:Src w (.slice (some ⟨vb,0,none⟩) 1 1) 5 1 ys:=⟨_,_,rfl,by omega,fun _=>⟨_,rfl,fun j x hx=>by rw[eP,Nat.zero_add];exact hyc j x hx⟩⟩
 have S:c<=9223372036854775807:=by
  rcases h.2 with ⟨e,-⟩|⟨g,H,I,e,-,-,-,Q,-⟩
  ·injection e with _ _ e;omega
  ·injection e with _ _ e;unfold maxLen at Q;omega
 have F:=dJ h;have M:=dJ p;have L:=dJ h1;clear h p hyc R h1 hy
 cases A with
 | none =>
  obtain rfl:n=0:=by
   rcases F.out.2 with ⟨-,e⟩|⟨g,H,I,e,-⟩
   ·exact e
   ·cases e
  go_enter func51, ntmps51
  go_wp2_with (at_builtin;refine dG rfl (.tmp 23) (.tmp 24) 45 rfl B 39 N _ 5 56 underlying45 t z C D rfl (by decide) _ 0 _ rfl F.out _ 1 ys rfl M.out L.out (by unfold maxLen;omega) (by omega) hB ?_;intro T w' l r d;obtain⟨E,G,rfl,K,-,J⟩:=dU l);go_ret;exact⟨E,G,rfl,l,r,fun k m=>d.elim (fun q=>.inl (q ▸ m)) (fun q=>.inr (by rw[q] at m;injection m with m;omega))⟩
 | some a =>
  obtain⟨U,W,O⟩:=a
  go_enter func51, ntmps51
  go_wp2_with (at_builtin;refine dG rfl (.tmp 23) (.tmp 24) 45 rfl B 39 N _ 5 56 underlying45 t z C D rfl (by decide) _ n _ rfl F.out _ 1 ys rfl M.out L.out (by unfold maxLen;omega) (by omega) hB ?_;intro T w' l r d;obtain⟨E,G,rfl,K,-,J⟩:=dU l);all_goals go_ret
  all_goals exact⟨E,G,rfl,l,r,fun k m=>d.elim (fun q=>.inl (q ▸ m)) (fun q=>.inr (by rw[q] at m;injection m with m;omega))⟩
theorem eA {w:World}{g:Nat}{cur row:Array Value}{t:TypeId}{fr:Nat × Nat}(h:w.heap[g]?=some (.cells cur t fr)):(w.setRow g row).heap[g]?=some (.cells row t fr):=setRow_heap w g cur row t fr h
theorem ou {w:World}{g k:Nat}{row:Array Value}(h:k≠g):(w.setRow g row).heap[k]?=w.heap[k]?:=by
 unfold World.setRow;simp[Array.getElem?_modify,Ne.symm h]
theorem iR (w:World)(g:Nat)(row:Array Value):(w.setRow g row).heap.size=w.heap.size:=by
 unfold World.setRow;simp
theorem FrS.setRow {S:Nat->Prop}{w a:World}(h:FrS S w a){g:Nat}(hg:S g)(row:Array Value):FrS S w (a.setRow g row) :=
 ⟨h.os,h.tape,h.output,by rw[iR];exact h.size,fun k j d=>(ou (fun e=>d (by rw[e];exact hg))).trans (h.block k j d)⟩
def dH (L:List Value)(o:Nat)(cs:List Value):List Value:=L.take o++cs++L.drop (o+cs.length)
theorem fG {L cs:List Value}{o:Nat}(h:o+cs.length<=L.length):(dH L o cs).length=L.length:=by unfold dH;simp;omega
theorem lm {L xs ys:List Value}{n i:Nat}(hL:L.take (n*5)=xs)(hx:xs.length=n*5)(hi:i<=n)(hy:ys.length=5)(hLn:(n+1)*5<=L.length) :
  (dH (dH L ((i+1)*5) (xs.drop (i*5))) (i*5) ys).take ((n+1)*5)=xs.take (i*5)++ys++xs.drop (i*5):=by
 have m:(xs.drop (i*5)).length=(n-i)*5:=by rw[List.length_drop,hx];omega
 have j:(L.take ((i+1)*5)).length=(i+1)*5:=by rw[List.length_take];omega
 have d:(dH L ((i+1)*5) (xs.drop (i*5))).take (i*5)=xs.take (i*5):=by
  unfold dH;rw[List.append_assoc,List.take_append_of_le_length (by omega),List.take_take,<-hL,List.take_take];congr 1;omega
 have g:(dH L ((i+1)*5) (xs.drop (i*5))).drop (i*5+5)=xs.drop (i*5)++L.drop ((i+1)*5+(xs.drop (i*5)).length):=by
  unfold dH;rw[List.append_assoc,List.drop_append_of_le_length (by omega),show i*5+5=(i+1)*5 by omega];rw[vQ (by omega)];rfl
 have l:(xs.take (i*5)).length=i*5:=by rw[List.length_take];omega
 show ((dH L ((i+1)*5) (xs.drop (i*5))).take (i*5)++ys++(dH L ((i+1)*5) (xs.drop (i*5))).drop (i*5+ys.length)).take ((n+1)*5)=_;rw[hy,d,g,<-List.append_assoc,List.take_append_of_le_length (by simp;omega)];exact vO (by simp;omega)
theorem mB {L xs ys:List Value}{n i:Nat}(hL:L.take (i*5)=xs.take (i*5))(hx:xs.length=n*5)(hi:i<=n)(hy:ys.length=5)(hLn:(n+1)*5<=L.length) :
  (dH (dH L (i*5) ys) ((i+1)*5) (xs.drop (i*5))).take ((n+1)*5)=xs.take (i*5)++ys++xs.drop (i*5):=by
 have l:(xs.drop (i*5)).length=(n-i)*5:=by rw[List.length_drop,hx];omega
 have g:(L.take (i*5)).length=i*5:=by rw[List.length_take];omega
 have d:(dH L (i*5) ys).take ((i+1)*5)=xs.take (i*5)++ys:=by
  unfold dH;rw[List.take_append_of_le_length (by simp;omega),hL];exact vO (by rw[<-hL];simp;omega)
 have j:(xs.take (i*5)).length=i*5:=by rw[List.length_take];omega
 show ((dH L (i*5) ys).take ((i+1)*5)++xs.drop (i*5)++(dH L (i*5) ys).drop ((i+1)*5+(xs.drop (i*5)).length)).take ((n+1)*5)=_;rw[d,List.take_append_of_le_length (by simp;omega)];exact vO (by simp;omega)
theorem pJ:((prog).info? 122).map (·.size)=some 16:=by kernel_rfl
theorem ry:((prog).info? 81).map (·.size)=some 10:=by kernel_rfl
theorem nN:(prog.info? 22).map (fun i=>(i.zero,i.size,i.bytes))=some (some (.slice none 0 0),1,24):=by kernel_rfl
theorem rp (hRA:Ref.RcAll){w:World}{f:Fn}{vf:Value}(hfn:FnAt w.heap.size w vf f)(hf:VFn f){i:Rn.Inp}{va vm:Value}(ha:U32At w.heap.size w va i.args)(hm:TabAt w.heap.size w vm i.mem)(hi:Rn.validInput f i=0)(hnn:∀a∈i.args,0<=a)
  {vpk:Value} {picks:List Int} (hpk:U32At w.heap.size w vpk picks) (hpr:∀z∈picks,0<=z/\z<4294967296) (hpl:picks.length<=1000) :
  Calls prog 45 #[vf,.agg #[va,vm],vpk] w fun e w'=>ui f i picks w.heap.size e w'/\Gr w w':=by
 obtain⟨i0,bO,bX,bY,bZ⟩:=info_parts dR;obtain⟨i1,bP,bU,bV,bW⟩:=info_parts nN;obtain⟨hv,bM,al,bT,bN⟩:=Rn.valid_input hi;have ao:=hf.val.size
 have ac:Ref.count f<=1000:=by
  have e:Ref.count f=f.params.length+Ref.total f.blocks:=by unfold Ref.count Ref.number;rw[wg]
  omega
 have bQ:f.params.length<=Ref.count f:=by unfold Ref.count Ref.number;omega
 have a1:f.blocks.length<=100000:=by have:=ao.2.2.2.1;omega
 obtain⟨vp,vs,vb,rfl,hp,hs,hb⟩:=hfn;have aO:Hid (FnAt w.heap.size w (.agg #[vp,.int .i64 f.ret,vs,vb]) f):=⟨vp,vs,vb,rfl,hp,hs,hb⟩;obtain⟨W0,ax⟩:=xJ (w.alloc (.cells #[vp,.int .i64 f.ret,vs,vb] 25));obtain⟨W1,ay⟩:=xJ (W0.alloc (.cells #[va,vm] 29));obtain⟨W2,aj⟩:=xJ (W1.alloc (.cells #[.int .i64 0,.bool false,.int .i64 0,.int .u32 0,ef,ef,ef,.int .i64 0,ef,ef] 81));obtain⟨W3,az⟩:=xJ (W2.alloc (.cells #[.slice none 0 0,.int .i64 0,.slice none 0 0,.slice none 0 0,.slice none 0 0,.slice none 0 0,.int .i64 0,.bool false,.int .i64 0,.int .u32 0,.slice none 0 0,.slice none 0 0,.slice none 0 0,.int .i64 0,.slice none 0 0,.slice none 0 0] 122));obtain⟨W,hW⟩:=xJ (W3.setRow (w.heap.size+3) (rh vp f.ret vs vb ef vpk ef ef));have s0:W0.heap.size=w.heap.size+1:=by rw[<-ax];simp
 have s1:W1.heap.size=w.heap.size+2:=by rw[<-ay];simp[s0]
 have s2:W2.heap.size=w.heap.size+3:=by rw[<-aj];simp[s1]
 have bd:W3.heap.size=w.heap.size+4:=by rw[<-az];simp[s2]
 have q3:W3.heap[w.heap.size+3]?=some (.cells #[.slice none 0 0,.int .i64 0,.slice none 0 0,.slice none 0 0,.slice none 0 0,.slice none 0 0,.int .i64 0,.bool false,.int .i64 0,.int .u32 0,.slice none 0 0,.slice none 0 0,.slice none 0 0,.int .i64 0,.slice none 0 0,.slice none 0 0] 122 (0,0)):=by rw[<-az,<-s2];exact heap_alloc_new _ _
 have s3:W.heap.size=w.heap.size+4:=by rw[<-hW,iR];exact bd
 have gW:Gr w W0:=by rw[<-ax];exact(wL _).alloc _
 have gA:Gr W0 W1:=by rw[<-ay];exact(wL _).alloc _
 have gB:Gr W1 W2:=by rw[<-aj];exact(wL _).alloc _
 have aY:Gr W2 W3:=by rw[<-az];exact(wL _).alloc _
 have gC:Gr W2 W:=gr_frs' (S:=fun k=>k=w.heap.size+3) aY (by rw[<-hW];exact FrS.setRow (S:=fun k=>k=w.heap.size+3) (FrS.refl _ _) rfl _) (fun k I=>by omega);have q0:W0.heap[w.heap.size]?=some (.cells #[vp,.int .i64 f.ret,vs,vb] 25 (0,0)):=by rw[<-ax];exact heap_alloc_new _ _
 have q1:W1.heap[w.heap.size+1]?=some (.cells #[va,vm] 29 (0,0)):=by rw[<-ay,<-s0];exact heap_alloc_new _ _
 have q2:W2.heap[w.heap.size+2]?=some (.cells #[.int .i64 0,.bool false,.int .i64 0,.int .u32 0,ef,ef,ef,.int .i64 0,ef,ef] 81 (0,0)):=by rw[<-aj,<-s1];exact heap_alloc_new _ _
 have aW:Hid (WS (w.heap.size+3) W W (rh vp f.ret vs vb ef vpk ef ef)):=⟨FrS.refl _ _,by rw[<-hW];exact eA q3⟩;have X:=(((gB.trans gC)).heap _ (by omega)).trans ((gA.heap _ (by omega)).trans q0);have r1:=((gB.trans gC).heap _ (by omega)).trans q1;have r2:=(gC.heap _ (by omega)).trans q2
 have ap:Hid (∀(wr:World) (row:Array Value),WS (w.heap.size+3) W wr row->wr.heap[w.heap.size]?=some (.cells #[vp,.int .i64 f.ret,vs,vb] 25 (0,0))/\wr.heap[w.heap.size+1]?=some (.cells #[va,vm] 29 (0,0)) /\
     wr.heap[w.heap.size+2]?=some (.cells #[.int .i64 0,.bool false,.int .i64 0,.int .u32 0,ef,ef,ef,.int .i64 0,ef,ef] 81 (0,0))/\Gr w wr):=fun wr row h =>
  ⟨(h.fr.block _ (by omega) (by omega)).trans X,(h.fr.block _ (by omega) (by omega)).trans r1,(h.fr.block _ (by omega) (by omega)).trans r2,gr_frs' (((gW.trans gA).trans gB).trans gC) h.fr (fun k I=>by omega)⟩
 have aP:Hid (∀(k:Nat) (l:List Int),i.mem[k]?=some l->1<=l.length/\l.length<=8):=fun k l hl=>by
  have h1:=congrArg (fun q=>q[k]?) al;simp only[vH,hl,Option.map_some] at h1;have h2:=vT.1 hf.val.head.2 _ (vz h1.symm);unfold Ref.isSlot at h2;simp at h2;omega
 have bx:Hid (∀(k:Nat) (l:List Int),i.mem[k]?=some l->∃bm om vl,vm=.slice (some ⟨bm,om,none⟩) i.mem.length (match vm with|.slice _ _ c=>c|_=>0)/\IntsAt w.heap.size w vl l/\∀wr,Gr w wr->wr.cell? ⟨bm,om+k,none⟩=some vl):=fun k l hl=>by
  obtain⟨A,c,rfl,-,-,h3⟩:=hm;obtain⟨b,o,rfl,hb,h4⟩:=h3 (by have:=(vy.1 hl).1;omega);obtain⟨u,hu,h5⟩:=h4 k l hl;exact⟨b,o,u,rfl,h5,fun wr g=>(g.cell _ _ (by omega)).trans hu⟩
 have aQ:Hid (i.mem.map (fun r=>(r.length:Int))=f.slots):=al
 have bB:Hid (i.mem.length<=1000):=by
  show _<=_;have h1:=congrArg List.length al;rw[vS] at h1;omega
 have bl:Hid (i.args.length<=Ref.count f):=by show _<=_;omega
 have bk:Hid (∀k x,i.args[k]?=some x->∃b o,va=.slice (some ⟨b,o,none⟩) i.args.length (match va with|.slice _ _ c=>c|_=>0)/\∀wr,Gr w wr->wr.cell? ⟨b,o+k,none⟩=some (.int .u32 x)):=fun k x hx=>by
  obtain⟨A,c,rfl,-,-,h3⟩:=ha;obtain⟨b,o,rfl,hb,h4⟩:=h3 (by have:=(vy.1 hx).1;omega);exact⟨b,o,rfl,fun wr g=>(g.cell _ _ (by omega)).trans (h4 k x hx)⟩
 have HF:=dJ hf;have HI:=dJ hi;have bC:=dJ hnn;have bD:=dJ hpk;have bE:=dJ hpr;have B:=dJ s3;have aS:=dJ hRA;obtain⟨k0,k1,k2,k3⟩:W0.cell? ⟨w.heap.size,0,none⟩=some vp/\W0.cell? ⟨w.heap.size,1,none⟩=some (.int .i64 f.ret)/\W0.cell? ⟨w.heap.size,2,none⟩=some vs/\W0.cell? ⟨w.heap.size,3,none⟩=some vb:=⟨vX _ _ 0 _ _ _ q0,vX _ _ 1 _ _ _ q0,vX _ _ 2 _ _ _ q0,vX _ _ 3 _ _ _ q0⟩;have ah:=(gB.heap _ (by omega)).trans ((gA.heap _ (by omega)).trans q0);obtain⟨l0,l1,l2,l3⟩:W2.cell? ⟨w.heap.size,0,none⟩=some vp/\W2.cell? ⟨w.heap.size,1,none⟩=some (.int .i64 f.ret)/\W2.cell? ⟨w.heap.size,2,none⟩=some vs/\W2.cell? ⟨w.heap.size,3,none⟩=some vb:=⟨vX _ _ 0 _ _ _ ah,vX _ _ 1 _ _ _ ah,vX _ _ 2 _ _ _ ah,vX _ _ 3 _ _ _ ah⟩;obtain⟨Ap,cp,rfl,-⟩:=hp;obtain⟨As,cs,rfl,-⟩:=hs;obtain⟨Ab,cb,rfl,-⟩:=hb;obtain⟨Ak,ck,rfl,-⟩:=id hpk;obtain⟨Aa,ca,rfl,-⟩:=ha;obtain⟨Am,cm,rfl,-⟩:=hm;unfold rh ef at hW;unfold ef at aj;clear hi hv bT bN ao bM al bQ hf hnn hpk hpr hRA q0 q1 q2 ah X r1 r2 gW gA gB gC;have bF:=dJ q3;clear q3 aY bd
 go_enter func45, ntmps45
 go_wp2_with (refine wpList_store_row rfl 122 (.tmp 7) (.tmp 16) rfl (w.heap.size+3) #[.slice Ap f.params.length cp,.int .i64 f.ret,.slice As f.slots.length cs,.slice Ab f.blocks.length cb,.slice none 0 0,.slice Ak picks.length ck,.int .i64 0,.bool false,.int .i64 0,.int .u32 0,.slice none 0 0,.slice none 0 0,.slice none 0 0,.int .i64 0,.slice none 0 0,.slice none 0 0] rfl rfl 122 #[.slice none 0 0,.int .i64 0,.slice none 0 0,.slice none 0 0,.slice none 0 0,.slice none 0 0,.int .i64 0,.bool false,.int .i64 0,.int .u32 0,.slice none 0 0,.slice none 0 0,.slice none 0 0,.int .i64 0,.slice none 0 0,.slice none 0 0] bF.out (by rw[pJ];rfl) rfl (by simp[Value.oneCell']) ?_;rw[hW])
 go_loopw [8] (fun s8 wr=>∃(k:Nat) (us:List (Nat × Nat)) (A8:Option Addr) (c8:Nat),k<=i.mem.length/\s8=.int .i64 (k:Int)/\us.length=k /\
     Hid (WS (w.heap.size+3) W wr (rh (.slice Ap f.params.length cp) f.ret (.slice As f.slots.length cs) (.slice Ab f.blocks.length cb) (.slice A8 k c8) (.slice Ak picks.length ck) ef ef)) /\
     Hid (MU (w.heap.size+1) wr us i.mem ef)/\Hid (Own1 (w.heap.size+4) 22 wr (.slice A8 k c8) (usV us i.mem))) (fun s8 _=>i.mem.length-(intOf s8).toNat)
 case atStart=>exact⟨0,[],none,0,vU _,rfl,rfl,aW,MU.nil _ _ _ _,Own1.nil _ _ _⟩
 case round =>
  obtain⟨k,us,A8,c8,I,rfl,U,J,am,F⟩:=hrel;have bS:=B.out;obtain⟨X,r1,r2,gw⟩:=ap.out _ _ J.out;have x1:wr.cell? ⟨w.heap.size+1,1,none⟩=some (.slice Am i.mem.length cm):=vX _ _ 1 _ _ _ r1;by_cases O:k<i.mem.length
  ·obtain⟨l,hl⟩:∃l,i.mem[k]?=some l:=⟨_,vu O⟩;obtain⟨bm,om,vl,aG,aF,a3⟩:=bx.out k l hl;injection aG with aG _ _;subst aG;obtain⟨l1,l2⟩:=aP.out k l hl;obtain⟨Al,cl,rfl,-⟩:=id aF
   have HC:Hid (∀j,Gr wr j->j.cell? ⟨w.heap.size+3,4,none⟩=some (.slice A8 k c8)/\j.cell? ⟨w.heap.size+1,1,none⟩=some (.slice (some ⟨bm,om,none⟩) i.mem.length cm)/\j.cell? ⟨bm,om+k,none⟩=some (.slice Al l.length cl)/\j.frozen? ⟨w.heap.size+3,4,none⟩=false /\
       IntsAt w.heap.size j (.slice Al l.length cl) l/\Own1 (w.heap.size+4) 22 j (.slice A8 k c8) (usV us i.mem)/\w.heap.size+4<=j.heap.size):=fun j D=>by
    have aH:=J.out.grow D (by omega);exact⟨vX _ _ 4 _ _ _ aH.st,vX _ _ 1 _ _ _ (ap.out _ _ aH).2.1,a3 j (gw.trans D),vY _ _ 4 _ _ aH.st,aF.below (gw.trans D),F.out.gr D,by have:=J.out.fr.size;have:=D.size;omega⟩
   have aN:Hid (∀(j w2:World) (be:Obj) (b H:Nat) (A2:Option Addr) (c2:Nat),Gr wr j->tO j wr.heap.size b H l->(j.alloc be).grownBy w2 (Value.slice A8 k c8).ownBlock->Own1 (w.heap.size+4) 22 w2 (.slice A2 (k+1) c2) (usV us i.mem++[.slice (some ⟨b,0,none⟩) l.length H])->_):=fun j w2 be b H A2 c2 D hb hg an=>tM B.out J.out am.out F.out U hl D hb hg an;have bJ:Hid ((usV us i.mem).length=k):=by show _=_;rw[gF _ _ (by omega),U]
   have Z:Hid (∀u:Nat × Nat,(us++[u]).length=k+1):=fun u=>by simp[U]
   have bi:k<1000000:=by have h3:i.mem.length<=1000:=bB.out;omega
   have mixed:(prog).follows .mixedOrders=true:=by kernel_rfl
   obtain⟨x4,-,xl,z4,-⟩:=HC.out wr (wL _);have Q4:=fun o=>(HC.out (wr.alloc o) ((wL wr).alloc o)).1;have Q1:=fun o=>(HC.out (wr.alloc o) ((wL wr).alloc o)).2.1;have Ql:=fun o=>(HC.out (wr.alloc o) ((wL wr).alloc o)).2.2.1;clear hl U J am F aF a3 X r1 r2;go_wp2
   go_region_law_o (first|(refine qP (C:=w.heap.size) (ys:=l) underlying22 bO bX bY bZ rfl rfl (.tmp 26) (.tmp 31) rfl rfl (HC.out _ ((wL wr).alloc _).drew).2.2.2.2.1 rfl (by omega) ?_;intro b H j aD D;have G1:Hid (Gr wr j):=(((wL wr).alloc _).drew).trans D;have bI:Hid (tO j wr.heap.size b H l):=⟨Nat.le_trans (by simp) aD.1,aD.2⟩;have av:=dJ (HC.out j G1.out);have ch:=av.out.1;have b8:=fun o=>(HC.out (j.alloc o) (G1.out.alloc o)).1;clear aD D)|(refine gE (n:=k) (v:=.slice A8 k c8) underlying27 bP bU bV bW rfl (by omega) rfl (.tmp 25) (.tmp 33) rfl bJ.out rfl av.out.2.2.2.2.2.1 rfl rfl (by omega) av.out.2.2.2.2.2.2 ?_;intro A2 c2 w2 an a7 a0;have ar:=dJ (aN.out j w2 _ b H A2 c2 G1.out bI.out a7 an);have ci:=ar.out.1.1;have cj:=ar.out.1.2;clear an a7 a0))
   all_goals go_wp2
   all_goals
    obtain⟨-,j1,j2,j3⟩:=ar.out;exact⟨⟨k+1,us++[(b,H)],A2,c2,by omega,by go_num,Z.out _,j1,j2,j3⟩,by simp[intOf];omega⟩
  ·obtain rfl:k=i.mem.length:=by omega
   obtain⟨n,hn⟩:=xJ (Ref.count f);have ai:=dJ hn;have CN:=dJ (fw (.agg #[.slice Ap f.params.length cp,.int .i64 f.ret,.slice As f.slots.length cs,.slice Ab f.blocks.length cb]) f f.blocks.length wr ((aO.out.below gw).mono gw.size) (vV _) a1);rw[show Ref.number f f.blocks.length=n from hn] at CN;rw[hn] at ac;have ce:=fun T=>ff T n ac;have cd:=fun T=>mO T n ac;have bH:Hid (Array.replicate n (Value.bool false)=((List.replicate n false).map Value.bool).toArray):=by (show _=_);simp
   have f0:wr.cell? ⟨w.heap.size,0,none⟩=some (.slice Ap f.params.length cp):=vX _ _ 0 _ _ _ X;have f1:wr.cell? ⟨w.heap.size,1,none⟩=some (.int .i64 f.ret):=vX _ _ 1 _ _ _ X;have f2:wr.cell? ⟨w.heap.size,2,none⟩=some (.slice As f.slots.length cs):=vX _ _ 2 _ _ _ X;have f3:wr.cell? ⟨w.heap.size,3,none⟩=some (.slice Ab f.blocks.length cb):=vX _ _ 3 _ _ _ X
   have bA:Hid (∀j,Gr wr j->j.heap[w.heap.size+3]?=some (.cells (rh (.slice Ap f.params.length cp) f.ret (.slice As f.slots.length cs) (.slice Ab f.blocks.length cb) (.slice A8 i.mem.length c8) (.slice Ak picks.length ck) ef ef) 122 (0,0))/\w.heap.size+3<j.heap.size /\
       WM w.heap.size n W ((((j.setCell ⟨w.heap.size+3,14,none⟩ (.slice (some ⟨j.heap.size,0,none⟩) n n)).setCell ⟨w.heap.size+3,15,none⟩ (.slice (some ⟨j.heap.size+1,0,none⟩) n n)).alloc (.cells (dy (List.replicate n Rn.zero)).toArray 37)).alloc (.cells ((List.replicate n false).map Value.bool).toArray 4)) (.slice Ap f.params.length cp) f.ret (.slice As f.slots.length cs) (.slice Ab f.blocks.length cb) (.slice A8 i.mem.length c8) (.slice Ak picks.length ck) us i.mem j.heap.size (j.heap.size+1) (eu Rn.zero (i.args.map Rn.word) n 0) (eu false (i.args.map fun _=>true) n 0)):=fun j D=>by
    have h1:=J.out.grow D (by omega);refine⟨h1.st,cY h1.st,?_⟩;rw[fB,fB];exact tL B.out h1 (am.out.keep (by omega) (FrS.of_gr (S:=fun _=>False) D) (fun _ _ q=>q)) (F.out.gr D) (by omega) _ _
   have Z:Hid (us.length=i.mem.length):=U;clear hn O I J am F U X r1 r2;go_wp2_with (go_at_call 80;refine CN.out.mono ?_;rintro e j ⟨rfl,D⟩;obtain⟨m1,m2,m3⟩:=bA.out j D;have bs:=dJ m3;obtain⟨bg,bh⟩:=crw2 m1 14 15;obtain⟨cn,cq⟩:=frw2 m1 14 15;clear D m1 m3 f0 f1 f2 f3)
   go_loopw [10] (fun aJ wr=>∃k Bv Bh:Nat,k<=i.args.length/\aJ=.int .i64 (k:Int)/\Hid (WM w.heap.size n W wr (.slice Ap f.params.length cp) f.ret (.slice As f.slots.length cs) (.slice Ab f.blocks.length cb) (.slice A8 i.mem.length c8) (.slice Ak picks.length ck) us i.mem Bv Bh (eu Rn.zero (i.args.map Rn.word) n k) (eu false (i.args.map fun _=>true) n k))) (fun aJ _=>i.args.length-(intOf aJ).toNat)
   case atStart =>
    (try rw[bH.out]);exact⟨0,j.heap.size,j.heap.size+1,vU _,rfl,bs⟩
   case round =>
    obtain⟨k,Bv,Bh,I,rfl,d⟩:=hrel;obtain⟨X,r1,r2,gw⟩:=ap.out _ _ d.out.ws;have x0:wr.cell? ⟨w.heap.size+1,0,none⟩=some (.slice Aa i.args.length ca):=vX _ _ 0 _ _ _ r1;have aZ:i.args.length<=n:=by have:=bl.out;have:=ai.out;omega
    by_cases O:k<i.args.length
    ·obtain⟨x,hx⟩:∃x,i.args[k]?=some x:=⟨_,vu O⟩;obtain⟨ba,oa,aE,a2⟩:=bk.out k x hx;injection aE with aE _ _;subst aE;have xa:=a2 wr gw;have b9:wr.cell? ⟨w.heap.size+3,14,none⟩=some (.slice (some ⟨Bv,0,none⟩) n n):=vX _ _ 14 _ _ _ d.out.ws.st;have cc:wr.cell? ⟨w.heap.size+3,15,none⟩=some (.slice (some ⟨Bh,0,none⟩) n n):=vX _ _ 15 _ _ _ d.out.ws.st;have a8:k<n:=by omega
     obtain⟨y,hy⟩:∃y,(eu Rn.zero (i.args.map Rn.word) n k)[k]?=some y:=⟨_,vu (by rw[fo _ _ _ _ (by simp;omega) (by simp;omega)];exact a8)⟩;obtain⟨z,hz⟩:∃z,(eu false (i.args.map fun _=>true) n k)[k]?=some z:=⟨_,vu (by rw[fo _ _ _ _ (by simp;omega) (by simp;omega)];exact a8)⟩;obtain⟨aK,aL,aM⟩:=dZ _ _ _ hy;rw[Nat.mul_comm] at aK aL aM;have d0:wr.cell? ⟨Bv,k*3,none⟩=some (.bool y.p):=(vX _ _ _ _ _ _ d.out.hv).trans (by simpa using aK);have d1:wr.cell? ⟨Bv,k*3+1,none⟩=some (.int .i64 y.s):=(vX _ _ _ _ _ _ d.out.hv).trans (by simpa using aL);have d2:wr.cell? ⟨Bv,k*3+2,none⟩=some (.int .u32 y.n):=(vX _ _ _ _ _ _ d.out.hv).trans (by simpa using aM);have e0:wr.cell? ⟨Bh,k,none⟩=some (.bool z):=(vX _ _ _ _ _ _ d.out.hh).trans (by simp[hz]);have f0:wr.frozen? ⟨Bv,k*3,none⟩=false:=vY _ _ _ _ _ d.out.hv;have f1:wr.frozen? ⟨Bv,k*3+1,none⟩=false:=vY _ _ _ _ _ d.out.hv;have f2:wr.frozen? ⟨Bv,k*3+2,none⟩=false:=vY _ _ _ _ _ d.out.hv;have f3:wr.frozen? ⟨Bh,k,none⟩=false:=vY _ _ _ _ _ d.out.hh;have n0:Bv≠Bh:=hE d.out.hv d.out.hh (by decide);have n1:w.heap.size+3≠Bv:=by have:=d.out.vN;omega
     have n2:w.heap.size+3≠Bh:=by have:=d.out.hN;omega
     have af:us.length<=i.mem.length:=by have:=Z.out;omega
     have h9:=sI (k:=k) B.out (d.out.grow B.out af ((wL wr).drew)) af x;have h8:=(sI (k:=k) B.out d.out af x).grow B.out af ((wL _).drew);rw[fA Rn.zero (i.args.map Rn.word) n k (by simp;omega) (Rn.word x) (by rw[vH,hx];rfl),fA false (i.args.map fun _=>true) n k (by simp;omega) true (by rw[vH,hx];rfl)] at h9 h8;have H9:=dJ h9;have H8:=dJ h8;clear hx hy hz aK aL aM h9 h8 d af X r1 r2 gw a2;go_wp2
     go_region_with (fail)
     all_goals go_wp2
     all_goals first
      | exact⟨⟨k+1,Bv,Bh,by omega,by go_num,H9⟩,by simp[intOf];omega⟩
      | exact⟨⟨k+1,Bv,Bh,by omega,by go_num,H8⟩,by simp[intOf];omega⟩
    ·obtain rfl:k=i.args.length:=by omega
     have ag:=d.out
     rw[show eu Rn.zero (i.args.map Rn.word) n i.args.length=(Rn.start f i).vals by unfold eu Rn.start;rw[ai.out,vO (by simp)],
       show eu false (i.args.map fun _=>true) n i.args.length=(Rn.start f i).had by unfold eu Rn.start;rw[ai.out,vO (by simp)],<-Z.out] at ag
     obtain⟨c,e1,e2,e3,a6,a5,bb,Q⟩:=un B.out ag Z.out (by unfold Rn.start;have:=ai.out;simp;omega) aQ.out (aO.out.below gw) (U32At.frsD bD.out gw);obtain⟨l,hl,he⟩:=Rn.start_ent aS.out HI.out bC.out;subst e2;obtain⟨R,hR⟩:=xJ (Rn.run c.f (Rn.given picks) i);obtain⟨Wd,bL⟩:∃Wd,Wd=wr:=⟨_,rfl⟩;subst bL;have bG:Hid (gN [] (Rn.from_ c.f (Rn.given picks) 401 0 (-1) (Rn.start c.f i))=R):=by show _=_;rw[<-hR];rfl
     have HR:=dJ hR;have bn:Hid (DLeft c picks Wd ef ef (Rn.start c.f i) [] ⟨0,Rn.zero,[]⟩ ef Wd):=a6.left (FrS.refl _ _);have HL:=dJ hl;have HE:=dJ he;have aq:=dJ (And.intro a5 (And.intro bb Q));have au:=dJ e3;have bo:=dJ e1;have br:=dJ gw;have bK:Hid (Rn.WOk (Rn.start c.f i)):=⟨vU _,fun z hz=>by cases hz⟩;have Y:=dJ r2;clear d ag a6 a5 bb Q hl he hR e1 e3 X r1 r2 gw aZ O I;go_wp2
     go_loopg [11,12] 401 (fun kx b0 b1 wr=>∃bz fz:Int,b1=.int .i64 bz/\b0=.int .i64 fz/\((∃(G:Nat) (sq:Rn.St) (T:List Int) (lq:List Ins),bz=(G:Int)/\Hid (DLeft c picks Wd ef ef sq T ⟨0,Rn.zero,[]⟩ ef wr)/\Hid (c.f.blocks[G]?=some lq)/\Hid (Rn.Ent c.f G fz lq sq)/\sq.steps<=400/\Hid (Rn.WOk sq)/\401<=sq.steps+kx/\T.length+kx<=401/\Hid (gN T (Rn.from_ c.f (Rn.given picks) kx G fz sq)=R)) \/
         (bz=-1/\Hid (DLeft c picks Wd ef ef R.2.1 R.2.2 R.1 (pV c R.1) wr))))
     case atStart=>exact⟨0,-1,rfl,rfl,.inl ⟨0,Rn.start c.f i,[],l,rfl,bn,HL,HE,vU _,bK,by omega,by simp,bG⟩⟩
     case round =>
      obtain⟨bz,fz,rfl,rfl,⟨G,sq,T,lq,rfl,ad,aA,ae,bc,aI,b6,hT,L⟩|⟨rfl,ad⟩⟩:=hrel
      ·obtain⟨k,rfl⟩:∃k,gk=k+1:=⟨gk-1,by omega⟩;obtain⟨bf,aX,p1,F1,O1⟩:=ad.out;have CB:=nA p1 HF.out (by have:=aq.out.2.2;have:=F1.size;omega) bE.out hpl (by omega) aA.out ae.out bc aI.out;rw[au.out] at CB;have bj:=dJ CB;have ab:=Rn.block_ok aS.out HF.out.val HF.out.im (Rn.given_ok picks) ae.out aA.out;have E:=Rn.block_steps c.f (Rn.given picks) G fz sq bc;have K:=Rn.block_wok HF.out.val HF.out.im (Rn.given picks) G fz aI.out;have aU:=dJ fun(s':Rn.St) (bl':List Int) (o':Rn.Out) (om':Value) (w':World) (h:DLeft c picks wr bf aX s' bl' o' om' w')=>dP F1 O1 h;have cf:(0:Int)<=(G:Int):=by omega
       clear CB p1 F1 O1 ad aI ae aA;go_wp2_with (fail)
       go_at_call 81
       (with_reducible refine bj.out.mono ?_);intro e w5 aa
       cases hq:Rn.block c.f (Rn.given picks) G fz sq with
       | mk r s2 =>
        rw[hq] at ab E K aa;have aV:=dJ K
        cases r with
        | over o =>
         have aw:Hid (R=(o,s2,T++[(G:Int)])):=by (show _=_);rw[<-L.out,kK hq];rfl
         obtain⟨rfl,hd⟩:=aa
         have HD:Hid (DLeft c picks Wd ef ef R.2.1 R.2.2 R.1 (pV c R.1) w5):=by
          rw[aw.out];exact aU.out _ _ _ _ _ hd
         clear hd hq ab E K L;go_wp2
         go_roundg k
         case measure=>omega
         case rel=>exact⟨-1,G,rfl,rfl,.inr ⟨rfl,HD⟩⟩
        | run t =>
         obtain⟨rfl,hd⟩:=aa;obtain⟨m,a9,Q,aB⟩:=ab;obtain⟨tn,rfl⟩:=vF a9;rw[vG] at Q aB;have bu:=dJ Q;have bv:=dJ aB
         have aw:Hid (gN (T++[(G:Int)]) (Rn.from_ c.f (Rn.given picks) k tn G s2)=R):=by
          (show _=_);rw[<-L.out,mI hq];unfold gN;simp
         have HD:=dJ (aU.out _ _ _ _ _ hd);have bR:s2.steps<=400:=E.1;have bS:sq.steps+1<=s2.steps:=E.2.2 _ rfl;clear hd hq E K L a9 Q aB;go_wp2
         go_roundg k
         case measure=>omega
         case rel=>exact⟨tn,G,rfl,rfl,.inl ⟨tn,s2,T++[(G:Int)],m,rfl,HD,bu,bv,bR,aV,by omega,by rw[vW,List.length_singleton];omega,aw⟩⟩
      ·obtain⟨bf,aX,p1,F1,O1⟩:=ad.out;obtain⟨Aw,cw,rfl⟩:=p1.wid.form;obtain⟨M,N,rfl⟩:=p1.blk.form;simp only[vS] at p1 O1
       obtain⟨Ao,no,co,aC⟩:∃A n c',pV c R.1=.slice A n c':=by
        unfold pV ef Cfg.mv;split <;> exact⟨_,_,_,rfl⟩
       have hp:=p1.st;unfold sQ at hp;rw[au.out,aC] at hp;have aT:Hid (wr.heap[w.heap.size+2]?=some (.cells #[.int .i64 0,.bool false,.int .i64 0,.int .u32 0,.slice none 0 0,.slice none 0 0,.slice none 0 0,.int .i64 0,.slice none 0 0,.slice none 0 0] 81 (0,0))):=(F1.block _ (by have:=au.out;have:=cY Y.out;omega) (fun q=>by have:=aq.out.1 _ q;omega)).trans Y.out;have HP:=dJ p1;have bp:=dJ (And.intro F1 O1);have aR:=dJ aC;obtain⟨⟨ok,⟨op,os,on⟩,b7⟩,S,BL⟩:=R;dsimp only at hp HP aR;obtain⟨y6,y7,y8,y9,b2,b3⟩:=crw6 hp 6 7 8 9 10 11;obtain⟨b4,b5,bg,bh⟩:=crw4 hp 12 13 14 15;clear p1 F1 O1 aC hp ad;go_wp2_with (refine wpList_store_row rfl 81 (.tmp 6) (.tmp 80) rfl (w.heap.size+2) #[.int .i64 ok,.bool op,.int .i64 os,.int .u32 on,.slice Ao no co,.slice Aw S.widths.length cw,.slice M BL.length N,.int .i64 S.steps,.slice (some ⟨c.Bv,0,none⟩) S.vals.length S.vals.length,.slice (some ⟨c.Bh,0,none⟩) S.vals.length S.vals.length] rfl rfl 81 #[.int .i64 0,.bool false,.int .i64 0,.int .u32 0,.slice none 0 0,.slice none 0 0,.slice none 0 0,.int .i64 0,.slice none 0 0,.slice none 0 0] aT.out (by rw[ry];rfl) rfl (by simp[Value.oneCell']) ?_);obtain⟨W9,ak⟩:=xJ (wr.setRow (w.heap.size+2) #[.int .i64 ok,.bool op,.int .i64 os,.int .u32 on,.slice Ao no co,.slice Aw S.widths.length cw,.slice M BL.length N,.int .i64 S.steps,.slice (some ⟨c.Bv,0,none⟩) S.vals.length S.vals.length,.slice (some ⟨c.Bh,0,none⟩) S.vals.length S.vals.length]);rw[ak];have h9:W9.heap[w.heap.size+2]?=some (.cells #[.int .i64 ok,.bool op,.int .i64 os,.int .u32 on,.slice Ao no co,.slice Aw S.widths.length cw,.slice M BL.length N,.int .i64 S.steps,.slice (some ⟨c.Bv,0,none⟩) S.vals.length S.vals.length,.slice (some ⟨c.Bh,0,none⟩) S.vals.length S.vals.length] 81 (0,0)):=by rw[<-ak];exact eA aT.out
       have F9:FrS (·=w.heap.size+2) wr W9:=by rw[<-ak];exact FrS.setRow (S:=fun k=>k=w.heap.size+2) (FrS.refl _ _) rfl _
       obtain⟨q0,q1,q2,q3,q4,q5⟩:=crw6 h9 0 1 2 3 4 5;obtain⟨q6,q7,q8,q9⟩:=crw4 h9 6 7 8 9;refine vZ (v:=.agg #[.int .i64 ok,.bool op,.int .i64 os,.int .u32 on,.slice Ao no co,.slice Aw S.widths.length cw,.slice M BL.length N,.int .i64 S.steps,.slice (some ⟨c.Bv,0,none⟩) S.vals.length S.vals.length,.slice (some ⟨c.Bh,0,none⟩) S.vals.length S.vals.length]) (by simp[results,results45,go_sem,q0,q1,q2,q3,q4,q5,q6,q7,q8,q9]) rfl ?_;clear ak h9 q0 q1 q2 q3 q4 q5 q6 q7 q8 q9 y6 y7 y8 y9 b2 b3 b4 b5 bg bh;obtain⟨d1,d2,d3⟩:=aq.out;obtain⟨F1,O1⟩:=bp.out;have e1:=bo.out;have cg:=F1.size;have O:=cY Y.out
       have a4:∀k,DO c (.slice Aw S.widths.length cw) (.slice M BL.length N) k->w.heap.size+3<=k:=fun k I=>by
        rcases O1 k I with q|q
        ·exact d1 k q
        ·have:=d2;have:=d3;omega
       refine⟨⟨c,.slice Aw S.widths.length cw,.slice M BL.length N,?_,rfl,?_,fun k I=>by have:=a4 k I;omega,by omega,by have:=F9.size;omega⟩,?_⟩
       ·rw[HR.out];unfold pR;rw[aR.out]
       ·rw[HR.out];exact HP.out.away F9 (fun k I=>⟨by omega,fun q=>by have:=a4 k q;omega,by omega⟩)
       ·exact gr_frs' (S:=fun k=>w.heap.size<=k) br.out ((F1.mono fun k I=>by have:=d1 k I;omega).trans (F9.mono fun k I=>by omega)) (fun k I=>I)
theorem FrS.weak {S S':Nat->Prop}{w w':World}(h:FrS S w w')(hs:∀k,k<w.heap.size->S k->S' k):FrS S' w w':=⟨h.os,h.tape,h.output,h.size,fun k d g=>h.block k d fun q=>g (hs k d q)⟩
theorem rB {B vb n i b:Nat}{xs ys:List Value}{w:World}(h:w.ownsRow B 39 5 (.slice (some ⟨b,0,none⟩) n n) n xs)(hB:B<=w.heap.size)(hn:n<=1000)(hi:i<n)(hy:ys.length=5)(hyc:∀j u,ys[j]?=some u->w.cell? ⟨vb,j,none⟩=some u)(h1:∀y∈ys,y.oneCell'=true)(hx1:∀y∈xs,y.oneCell'=true) :
  Calls prog 51 #[.slice (some ⟨b,0,none⟩) n n,.int .i64 i,.slice (some ⟨vb,0,none⟩) 1 1] w fun e w'=>∃A c,e=.returned (.slice A (n+1) c)/\w'.ownsRow B 39 5 (.slice A (n+1) c) (n+1) (xs.take (i*5)++ys++xs.drop (i*5))/\FrS (fun _=>False) w w'/\∀k,(Value.slice A (n+1) c).ownBlock=some k->w.heap.size<=k:=by
 obtain⟨iu,Z,ah,ac,ad⟩:=info_parts jQ;have D:xs.length=n*5:=h.1
 have M:∀j v,xs[j]?=some v->w.cell? ⟨b,j,none⟩=some v:=fun j v l=>by
  have ar:=(vy.1 l).1;rw[<-l];obtain⟨b',e,-,-,hc⟩:=dz h rfl (by omega);injection e with e;injection e with e _ _;subst e;exact hc j (by omega)
 have af:b<w.heap.size:=(dx h b rfl).2;have ai:vb<w.heap.size:=World.block_lt_of_cell? w ⟨vb,0,none⟩ (hyc 0 ys[0] (vu (by omega)))
 have H:(Builtin.firstCells iu.size i (.slice (some ⟨b,0,none⟩) i n)).run prog w.drew=.ok (xs.take (i*5)).toArray w.drew:=by
  rw[ac]
  exact run_firstCells_some w.drew 5 i ⟨b,0,none⟩ i n (xs.take (i*5)) (by rw[List.length_take];omega) (fun j v l=>by
    rw[eP,Nat.zero_add]
    rw[vL] at l
    split at l
    · exact M j v l
    · cases l)
 have O:i+(n+1-i)=n+1:=by omega
 have aa:(n:Int)+1-(i:Int)=((n+1-i:Nat):Int):=by omega
 obtain⟨G,hG⟩:=xJ (grownCap w (n+1) n 39);obtain⟨d,g⟩:∃d:Array Value,(xs.take (i*5)).toArray++Builtin.zeroCells #[.int .i64 0,.bool false,.int .i64 0,.int .u32 0,.slice none 0 0] (n+1-i)++Builtin.zeroCells #[.int .i64 0,.bool false,.int .i64 0,.int .u32 0,.slice none 0 0] (G-(n+1))=d:=⟨_,rfl⟩;obtain⟨F,r⟩:=xJ (w.drew.alloc (.cells d 39))
 have ag:∀ty,(Builtin.append_ #[45,3] ty #[.slice (some ⟨b,0,none⟩) i n,.int .i64 ((n:Int)+1-(i:Int))]).run prog w=.ok (.slice (some ⟨w.heap.size,0,none⟩) (n+1) G) F:=fun ty=>by
  have:=Lib.run_append_grow_zeros (P:=prog) w 45 3 ty 39 iu _ .i64 .i64 underlying45 underlying3 Z ah (some ⟨b,0,none⟩) i n (xs.take (i*5)) H (n+1-i) (by omega) (by omega) (by omega) (by omega) (by rw[ad];omega) (by rw[ad,O];exact growslice_fits (by omega) (by omega));rw[O,hG] at this;rw[aa,<-r,<-g];exact this
 have ae:n+1<=G:=by rw[<-hG];exact grownCap_ge w _ _ _
 have an:G<=9223372036854775807:=by
  have:=grownCap_le_maxLen w (n+1) n 39 (by unfold maxLen;omega);rw[hG] at this;unfold maxLen at this;omega
 have p:d.size=G*5:=by
  rw[<-g];simp[Builtin.zeroCells];rw[Nat.min_eq_left (by omega)];omega
 have K:F.heap[w.heap.size]?=some (.cells d 39 (0,0)):=by rw[<-r];exact heap_alloc_new w.drew _
 have R:Gr w F:=by rw[<-r];exact((wL w).drew).alloc _
 have W:d.toList.take (i*5)=xs.take (i*5):=by
  rw[<-g];rw[Array.toList_append,Array.toList_append,List.append_assoc];rw[List.take_append_of_le_length (by simp;omega)];exact vO (by simp;omega)
 have ab:((prog).info? 39).map (·.size)=some 5:=by rw[Z];simp[ac]
 have m1:Nat.min 1 (n+1-i)=1:=by show min _ _=_;omega
 have m2:Nat.min (n-i) (n-i)=n-i:=Nat.min_self _;obtain⟨m,t⟩:=xJ (F.setRow w.heap.size (dH d.toList (i*5) ys).toArray);have L:m.heap[w.heap.size]?=some (.cells (dH d.toList (i*5) ys).toArray 39 (0,0)):=by rw[<-t];exact eA K
 have J:FrS (fun k=>k=w.heap.size) F m:=by rw[<-t];exact(FrS.refl (fun k=>k=w.heap.size) F).setRow rfl _
 have X:∀ty I,(Builtin.copy_ #[45,45] ty #[.slice (some ⟨w.heap.size,i*5,none⟩) (n+1-i) I,.slice (some ⟨vb,0,none⟩) 1 1]).run prog F=.ok (goInt 1) m:=fun ty I=>by
  have:=eK (P:=prog) F 45 45 ty 39 w.heap.size (i*5) (n+1-i) I ⟨vb,0,none⟩ 1 1 5 d 39 ys underlying45 ab K (by rw[hy,m1]) (fun j v l=>by rw[eP,Nat.zero_add,R.cell _ _ ai];exact hyc j v l) (by rw[hy,p];omega) h1;rw[this,<-t,m1];rfl
 obtain⟨Q,z⟩:=xJ (m.drew.setRow w.heap.size (dH (dH d.toList (i*5) ys) ((i+1)*5) (xs.drop (i*5))).toArray);have C:(dH d.toList (i*5) ys).length=G*5:=by rw[fG (by rw[hy];simp;omega)];simp[p]
 have U:Q.heap[w.heap.size]?=some (.cells (dH (dH d.toList (i*5) ys) ((i+1)*5) (xs.drop (i*5))).toArray 39 (0,0)):=by rw[<-z];exact eA (w:=m.drew) L
 have T:FrS (fun k=>k=w.heap.size) m Q:=by rw[<-z];exact(FrS.refl (fun k=>k=w.heap.size) m).drew.setRow rfl _
 have N:(xs.drop (i*5)).length=(n-i)*5:=by rw[List.length_drop,D];omega
 have Y:∀ty I sc,(Builtin.copy_ #[45,45] ty #[.slice (some ⟨w.heap.size,(i+1)*5,none⟩) (n-i) I,.slice (some ⟨b,i*5,none⟩) (n-i) sc]).run prog m.drew=.ok (goInt (n-i:Nat)) Q:=fun ty I sc=>by
  have:=eK (P:=prog) m.drew 45 45 ty 39 w.heap.size ((i+1)*5) (n-i) I ⟨b,i*5,none⟩ (n-i) sc 5 (dH d.toList (i*5) ys).toArray 39 (xs.drop (i*5)) underlying45 ab L (by rw[N,m2]) (fun j v l=>by
    rw[eP]
    rw[List.getElem?_drop] at l
    have h2:=M _ v l
    rw[<-h2,<-R.cell _ _ af]
    exact wA (J.block b (by have:=R.size;omega) (by omega))) (by simp[C,D];omega) (fun y aj=>hx1 y (List.mem_of_mem_drop aj))
  rw[this,<-z,m2];rfl
 have E:Hid (Q.ownsRow B 39 5 (.slice (some ⟨w.heap.size,0,none⟩) (n+1) G) (n+1) (xs.take (i*5)++ys++xs.drop (i*5))/\FrS (fun _=>False) w Q):=by
  refine⟨⟨by simp[D,hy];omega,.inr ⟨w.heap.size,G,_,rfl,hB,U,ae,by unfold maxLen;omega,?_,?_⟩⟩,?_⟩
  ·simp only[List.size_toArray];rw[fG (by rw[N,C];omega),C]
  ·simp only;exact mB W D (by omega) hy (by simp[p];omega)
  ·have hf:=((FrS.of_gr (S:=fun k=>w.heap.size<=k) R).trans (J.mono fun k hk=>by omega)).trans (T.mono fun k hk=>by omega);exact hf.weak fun k hk q=>by omega
 have ax:¬((i:Int)=(n:Int)):=by omega
 have ay:(n:Int)<(n:Int)+1:=by omega
 have aq:i<=n:=by omega
 have ao:(i:Int)<=(n:Int):=by omega
 have am:¬(G=i):=by omega
 have ak:¬(G=i+1):=by omega
 have ap:¬(n=i):=by omega
 have al:(i:Int)+1<=(n:Int)+1:=by omega
 clear h M H aa g r hG p K W L J U T C N t z R hyc h1 hx1 O
 go_enter func51, ntmps51
 go_wp2_with (first|(at_builtin;refine Lib.wpList_append_run _ rfl _ _ _ _ rfl _ _ rfl rfl _ _ (ag _) ?_)|(at_builtin;refine wpList_copy_runI _ rfl _ _ 45 45 rfl _ _ rfl rfl (X _ _) ?_))
 have mixed:(prog).follows .mixedOrders=true:=by kernel_rfl
 have au:IntKind.i64.wrap ((i:Int)+1)=(i:Int)+1:=IntWalk.i64_in _ (by omega);have av:(0:Int)<=(i:Int)+1:=by omega
 have aw:((i:Int)+1).toNat=i+1:=by omega
 go_region_law_o (refine step_copy_runI rfl (.tmp 50) (.tmp 53) 45 45 rfl (.slice (some ⟨w.heap.size,(i+1)*5,none⟩) (n-i) (G-(i+1))) (.slice (some ⟨b,i*5,none⟩) (n-i) (n-i)) (by simp[Act.eval,Act.put]) (by simp[Act.eval,Act.put]) (Y _ _ _) ?_)
 all_goals go_wp2
 all_goals go_ret
 all_goals exact⟨_,_,rfl,E.out.1,E.out.2,fun k hk=>by simp[Value.ownBlock] at hk;omega⟩
theorem pK {B vb n i b c:Nat}{xs ys:List Value}{w:World}(h:w.ownsRow B 39 5 (.slice (some ⟨b,0,none⟩) n c) n xs)(hB:B<=w.heap.size)(hn:n<=1000)(hi:i<n)(hc:n+1<=c)(hy:ys.length=5){t2:TypeId}(hyb:w.heap[vb]?=some (.cells ys.toArray t2 (0,0)))(hvb:vb≠b)(h1:∀y∈ys,y.oneCell'=true)(hx1:∀y∈xs,y.oneCell'=true) :
  Calls prog 51 #[.slice (some ⟨b,0,none⟩) n c,.int .i64 i,.slice (some ⟨vb,0,none⟩) 1 1] w fun e w'=>e=.returned (.slice (some ⟨b,0,none⟩) (n+1) c)/\w'.ownsRow B 39 5 (.slice (some ⟨b,0,none⟩) (n+1) c) (n+1) (xs.take (i*5)++ys++xs.drop (i*5))/\FrS (fun k=>k=b) w w':=by
 obtain⟨iu,T,ai,W,aj⟩:=info_parts jQ;have H:xs.length=n*5:=h.1
 obtain⟨d,l,F,q,G⟩:∃d:Array Value,w.heap[b]?=some (.cells d 39 (0,0))/\c<=maxLen/\d.size=c*5/\d.toList.take (n*5)=xs:=by
  rcases h.2 with ⟨e,-⟩|⟨g,ac,d,e,-,q1,-,q2,q3,q4⟩
  ·cases e
  ·injection e with J _ e2;injection J with J;injection J with J _ _;subst J;subst e2;exact⟨d,q1,q2,q3,q4⟩
 have S:B<=b:=(dx h b rfl).1;have O:((prog).info? 39).map (·.size)=some 5:=by rw[T];simp[W]
 have m1:Nat.min 1 (n+1-i)=1:=by show min _ _=_;omega
 have m2:Nat.min (n+1-i) (n-i)=n-i:=by show min _ _=_;omega
 have r:(xs.drop (i*5)).length=(n-i)*5:=by rw[List.length_drop,H];omega
 have Q:∀j u,ys[j]?=some u->w.cell? ⟨vb,j,none⟩=some u:=fun j u hj=>by rw[vX _ _ _ _ _ _ hyb];simpa using hj
 obtain⟨A,m⟩:=xJ (w.drew.setRow b (dH d.toList ((i+1)*5) (xs.drop (i*5))).toArray);have E:A.heap[b]?=some (.cells (dH d.toList ((i+1)*5) (xs.drop (i*5))).toArray 39 (0,0)):=by rw[<-m];exact eA (w:=w.drew) l
 have D:FrS (fun k=>k=b) w A:=by rw[<-m];exact(FrS.refl (fun k=>k=b) w).drew.setRow rfl _
 have t:(dH d.toList ((i+1)*5) (xs.drop (i*5))).length=c*5:=by rw[fG (by rw[r];simp;omega)];simp[q]
 have N:∀ty C Y,(Builtin.copy_ #[45,45] ty #[.slice (some ⟨b,(i+1)*5,none⟩) (n-i) C,.slice (some ⟨b,i*5,none⟩) (n+1-i) Y]).run prog w.drew=.ok (goInt (n-i:Nat)) A:=fun ty C Y=>by
  have:=eK (P:=prog) w.drew 45 45 ty 39 b ((i+1)*5) (n-i) C ⟨b,i*5,none⟩ (n+1-i) Y 5 d 39 (xs.drop (i*5)) underlying45 O l (by rw[r,m2]) (fun j v hj=>by
    rw[eP]
    rw[List.getElem?_drop,<-G,vL] at hj
    show w.cell? _=_
    rw[vX _ _ _ _ _ _ l]
    split at hj
    · simpa using hj
    · cases hj) (by rw[r,q];omega) (fun y X=>hx1 y (List.mem_of_mem_drop X))
  rw[this,<-m,m2];rfl
 obtain⟨I,p⟩:=xJ (A.setRow b (dH (dH d.toList ((i+1)*5) (xs.drop (i*5))) (i*5) ys).toArray);have L:I.heap[b]?=some (.cells (dH (dH d.toList ((i+1)*5) (xs.drop (i*5))) (i*5) ys).toArray 39 (0,0)):=by rw[<-p];exact eA E
 have K:FrS (fun k=>k=b) A I:=by rw[<-p];exact(FrS.refl (fun k=>k=b) A).setRow rfl _
 have M:∀ty C,(Builtin.copy_ #[45,45] ty #[.slice (some ⟨b,i*5,none⟩) (n+1-i) C,.slice (some ⟨vb,0,none⟩) 1 1]).run prog A=.ok (goInt 1) I:=fun ty C=>by
  have:=eK (P:=prog) A 45 45 ty 39 b (i*5) (n+1-i) C ⟨vb,0,none⟩ 1 1 5 _ 39 ys underlying45 O E (by rw[hy,m1]) (fun j v hj=>by
    rw[eP,Nat.zero_add,<-Q j v hj]
    exact wA (D.block vb (cY hyb) hvb)) (by rw[hy];simp[t];omega) h1
  rw[this,<-p,m1];rfl
 have z:Hid (I.ownsRow B 39 5 (.slice (some ⟨b,0,none⟩) (n+1) c) (n+1) (xs.take (i*5)++ys++xs.drop (i*5))/\FrS (fun k=>k=b) w I):=by
  refine⟨⟨by simp[H,hy];omega,.inr ⟨b,c,_,rfl,S,L,hc,F,?_,?_⟩⟩,D.trans K⟩
  ·simp only[List.size_toArray];rw[fG (by rw[hy,t];omega),t]
  ·simp only;exact lm G H (by omega) hy (by simp[q];omega)
 have U:∀lb R,(callFunc 93 #[.slice (some ⟨vb,0,none⟩) 1 1,.slice (some ⟨b,(i+1)*5,none⟩) lb R]).run prog w=.ok (.value (.bool false)) w:=fun lb R=>by
  rw[run_callFunc_extern (P:=prog) (f:=93) rfl (by kernel_rfl) (by kernel_rfl) (by kernel_rfl) (e:=Extern.SlicesOverlaps.overlaps #[45,45] #[4]) (by kernel_rfl),
    Lib.run_overlaps_apart w 45 4 39 underlying45 5 (fun w=>by kernel_rfl) ⟨vb,0,none⟩ ⟨b,(i+1)*5,none⟩ 1 1 lb R hvb t2 39 ys.toArray.size d.size (by unfold World.shape?;simp[hyb]) (by unfold World.shape?;simp[l]) (by omega) (vY _ _ _ _ _ hyb) (vY _ _ _ _ _ hyb)]
  rfl
 have an:¬((i:Int)=(n:Int)):=by omega
 have ao:¬((c:Int)<(n:Int)+1):=by omega
 have ah:i<=n:=by omega
 have ad:(i:Int)<=(n:Int):=by omega
 have ae:(n:Int)+1<=(c:Int):=by omega
 have af:(i:Int)<=(n:Int)+1:=by omega
 have ag:¬(c=i):=by omega
 have aa:¬(c=i+1):=by omega
 have ab:(i:Int)+1<=(n:Int)+1:=by omega
 have Z:c<=9223372036854775807:=by unfold maxLen at F;omega
 have mixed:(prog).follows .mixedOrders=true:=by kernel_rfl
 have ak:IntKind.i64.wrap ((i:Int)+1)=(i:Int)+1:=IntWalk.i64_in _ (by omega);have al:(0:Int)<=(i:Int)+1:=by omega
 have am:((i:Int)+1).toNat=i+1:=by omega
 clear h l q G E L D K t r m p hyb Q h1 hx1 F
 go_enter func51, ntmps51
 go_wp2_with (simp only[U])
 go_region_law_o (refine step_copy_runI rfl (.tmp 73) (.tmp 76) 45 45 rfl (.slice (some ⟨b,(i+1)*5,none⟩) (n-i) (c-(i+1))) (.slice (some ⟨b,i*5,none⟩) (n+1-i) (c-i)) (by simp[Act.eval,Act.put]) (by simp[Act.eval,Act.put]) (N _ _ _) ?_)
 all_goals go_wp2_with (at_builtin;refine wpList_copy_runI _ rfl _ _ 45 45 rfl _ _ rfl rfl (M _ _) ?_)
 all_goals go_ret
 all_goals exact⟨rfl,z.out.1,z.out.2⟩
theorem sZ {B vb n i:Nat}{v:Value}{xs ys:List Value}{w:World}(h:w.ownsRow B 39 5 v n xs)(hB:B<=w.heap.size)(hn:n<=1000)(hi:i<=n)(hy:ys.length=5){t2:TypeId}(hyb:w.heap[vb]?=some (.cells ys.toArray t2 (0,0)))(hvb:v.ownBlock≠some vb)(h1:∀y∈ys,y.oneCell'=true)(hx1:∀y∈xs,y.oneCell'=true) :
  Calls prog 51 #[v,.int .i64 i,.slice (some ⟨vb,0,none⟩) 1 1] w fun e w'=>∃A c,e=.returned (.slice A (n+1) c)/\w'.ownsRow B 39 5 (.slice A (n+1) c) (n+1) (xs.take (i*5)++ys++xs.drop (i*5))/\FrS (fun k=>v.ownBlock=some k) w w'/\∀k,(Value.slice A (n+1) c).ownBlock=some k->v.ownBlock=some k\/w.heap.size<=k:=by
 have l:∀j u,ys[j]?=some u->w.cell? ⟨vb,j,none⟩=some u:=fun j u hj=>by rw[vX _ _ _ _ _ _ hyb];simpa using hj
 have I:xs.length=n*5:=h.1;rcases wh i n with g|H
 ·obtain⟨A,c,rfl,J,G,p⟩:=dU h
  cases A with
  | none=>have:=p rfl;omega
  | some a =>
   obtain⟨D,E,a3,a4⟩:=G a rfl;obtain⟨b,o,s⟩:=a;dsimp only at D E a3 a4;subst a3;subst a4;rcases wh n c with q|q
   ·refine(pK h hB hn g q hy hyb (fun e=>hvb (by rw[e];rfl)) h1 hx1).mono fun e w' r=>⟨_,_,r.1,r.2.1,r.2.2.mono fun k d=>by rw[d];rfl,fun k d=>.inl d⟩
   ·obtain rfl:c=n:=by omega
    exact(rB h hB hn g hy l h1 hx1).mono fun e w' ⟨A,F,m,t,z,C⟩=>⟨A,F,m,t,z.mono fun k d=>d.elim,fun k d=>.inr (C k d)⟩
 ·obtain rfl:i=n:=by omega
  refine(tb h hB hn hy l h1).mono fun e w' ⟨A,c,m,t,z,C⟩=>⟨A,c,m,?_,(FrS.refl _ w).grown z (fun k d=>.inl d),C⟩;rw[vO (by omega),vQ (by omega),List.append_nil];exact t
def sH (o:Rn.Out)(vm:Value):List Value:=[.int .i64 o.kind,.bool o.ret.p,.int .i64 o.ret.s,.int .u32 o.ret.n,vm]
def eO:List Rn.Out->List Value->List Value
 | o::os,v::vs=>sH o v++eO os vs
 | _,_=>[]
theorem kJ:∀(os:List Rn.Out) (vs:List Value) (j t:Nat) (o:Rn.Out) (v:Value),os[j]?=some o->vs[j]?=some v->t<5->(eO os vs)[j*5+t]?=(sH o v)[t]?
 | [],_,j,t,o,v,h,_,_=>by simp at h
 | _::_,[],j,t,o,v,_,h,_=>by simp at h
 | o'::os,v'::vs,0,t,o,v,h1,h2,ht=>by
  simp at h1 h2;subst h1;subst h2
  rw[eO,Nat.zero_mul,Nat.zero_add,vJ (by show t<5;exact ht)]
 | o'::os,v'::vs,j+1,t,o,v,h1,h2,ht=>by
  rw[eO,vK (by show 5<=_;omega)]
  rw[show (j+1)*5+t-(sH o' v').length=j*5+t by show _-5=_;omega]
  exact kJ os vs j t o v (by simpa using h1) (by simpa using h2) ht
theorem gK:∀(os os':List Rn.Out) (vs vs':List Value),vs.length=os.length->eO (os++os') (vs++vs')=eO os vs++eO os' vs'
 | [],os',[],vs',_=>rfl
 | o::os,os',v::vs,vs',h=>by
  have:=gK os os' vs vs' (by simpa using h)
  simp only[List.cons_append,eO,this,List.append_assoc]
 | [],_,_::_,_,h=>by simp at h
 | _::_,_,[],_,h=>by simp at h
def RowsIn (D:Nat->Prop)(w:World)(vm:Value)(ns:List Nat):Prop :=
 ∃(A:Option Addr) (c:Nat),vm=.slice A ns.length c/\ns.length<=c/\(0<ns.length->∃(Bm:Nat) (row:Array Value),A=some ⟨Bm,0,none⟩/\D Bm/\w.heap[Bm]?=some (.cells row 22 (0,0)) /\
   ∀(j n:Nat),ns[j]?=some n->∃(b cp:Nat) (cur:Array Value),row[j]?=some (.slice (some ⟨b,0,none⟩) n cp)/\n<=cp/\D b/\w.heap[b]?=some (.cells cur 3 (0,0))/\∀i,i<n->∃z,cur[i]?=some (.int .i64 z))
theorem RowsIn.more {D D':Nat->Prop}{w:World}{vm:Value}{ns:List Nat}(h:RowsIn D w vm ns)(hD:∀k,D k->D' k):RowsIn D' w vm ns:=by
 obtain⟨A,c,e,t,r⟩:=h;refine⟨A,c,e,t,fun y=>?_⟩;obtain⟨Bm,row,l,m,p,q⟩:=r y;refine⟨Bm,row,l,hD _ m,p,fun j n u=>?_⟩;obtain⟨b,g,d,z,B,C,E⟩:=q j n u;exact⟨b,g,d,z,B,hD _ C,E⟩
def Keeps (D:Nat->Prop)(w:World)(vm:Value)(mem:List (List Int)):Prop:=(∀k,D k->k<w.heap.size)/\(∃A c,vm=.slice A mem.length c)/\∀w':World,(∀k,D k->w'.heap[k]?=w.heap[k]?)->w.heap.size<=w'.heap.size->TabAt w'.heap.size w' vm mem/\RowsIn D w' vm (mem.map List.length)
theorem Keeps.frs {D S:Nat->Prop}{w w':World}{vm:Value}{mem:List (List Int)}(h:Keeps D w vm mem)(hF:FrS S w w')(hS:∀k,D k->¬S k):Keeps D w' vm mem :=
 ⟨fun k d=>by have:=h.1 k d;have:=hF.size;omega,h.2.1,fun j g l=>h.2.2 j (fun k d=>(g k d).trans (hF.block k (h.1 k d) (hS k d))) (by have:=hF.size;omega)⟩
theorem Keeps.tab {D:Nat->Prop}{w:World}{vm:Value}{mem:List (List Int)}(h:Keeps D w vm mem):TabAt w.heap.size w vm mem:=(h.2.2 w (fun _ _=>rfl) (vV _)).1
theorem Keeps.rows {D:Nat->Prop}{w:World}{vm:Value}{mem:List (List Int)}(h:Keeps D w vm mem):RowsIn D w vm (mem.map List.length):=(h.2.2 w (fun _ _=>rfl) (vV _)).2
theorem Keeps.gr {D:Nat->Prop}{w w':World}{vm:Value}{mem:List (List Int)}(h:Keeps D w vm mem)(g:Gr w w'):Keeps D w' vm mem:=h.frs (FrS.of_gr (S:=fun _=>False) g) (fun _ _ q=>q)
theorem Keeps.more {D D':Nat->Prop}{w:World}{vm:Value}{mem:List (List Int)}(h:Keeps D w vm mem)(hD:∀k,D k->D' k)(hD':∀k,D' k->k<w.heap.size):Keeps D' w vm mem:=⟨hD',h.2.1,fun w' d g=>have q:=h.2.2 w' (fun k hk=>d k (hD k hk)) g;⟨q.1,q.2.more hD⟩⟩
structure OutsAt (D:Nat->Prop)(B:Nat)(w:World)(v:Value)(outs:List Rn.Out)(vms:List Value):Prop where
 len:vms.length=outs.length
 own:w.ownsRow B 39 5 v outs.length (eO outs vms)
 at_:∀(j:Nat) (o:Rn.Out) (vm:Value),outs[j]?=some o->vms[j]?=some vm->Keeps D w vm o.mem
theorem pC (os:List Rn.Out)(vs:List Value)(h:∀v∈vs,v.oneCell'=true):∀y∈eO os vs,y.oneCell'=true:=by
 induction os generalizing vs with
 | nil=>intro y d;cases vs <;> simp[eO] at d
 | cons o os ih =>
  cases vs with
  | nil=>intro y d;simp[eO] at d
  | cons v vs =>
   intro y d;rw[eO,wl] at d;rcases d with d|d
   ·simp[sH] at d;rcases d with rfl|rfl|rfl|rfl|rfl
    ·rfl
    ·rfl
    ·rfl
    ·rfl
    ·exact h _ (by simp)
   ·exact ih vs (fun u g=>h u (by simp[g])) y d
theorem OutsAt.one {D:Nat->Prop}{B:Nat}{w:World}{v:Value}{outs:List Rn.Out}{vms:List Value}(h:OutsAt D B w v outs vms):∀y∈eO outs vms,y.oneCell'=true :=
 pC _ _ fun u m=>by
  obtain⟨j,g⟩:=List.getElem?_of_mem m;have d:=(vy.1 g).1;obtain⟨o,l⟩:∃o,outs[j]?=some o:=⟨_,vu (by rw[<-h.len];exact d)⟩;obtain⟨-,⟨A,c,rfl⟩,-⟩:=h.at_ j o u l g;rfl
theorem jm:∀(os:List Rn.Out) (vs:List Value) (i:Nat),vs.length=os.length->(eO os vs).take (i*5)=eO (os.take i) (vs.take i)/\(eO os vs).drop (i*5)=eO (os.drop i) (vs.drop i)
 | [],[],i,_=>by simp[eO]
 | o::os,v::vs,0,_=>by simp[eO]
 | o::os,v::vs,i+1,h=>by
  have:=jm os vs i (by simpa using h)
  rw[show (i+1)*5=(sH o v).length+i*5 by show _=5+_;omega];constructor
  ·rw[eO,List.take_length_add_append,this.1];rfl
  ·rw[eO,List.drop_length_add_append,this.2];rfl
 | [],_::_,_,h=>by simp at h
 | _::_,[],_,h=>by simp at h
theorem rA {D:Nat->Prop}{B i vb:Nat}{w:World}{v:Value}{outs:List Rn.Out}{vms:List Value}(h:OutsAt D B w v outs vms)(hB:B<=w.heap.size)(hn:outs.length<=1000)(hi:i<=outs.length){x:Rn.Out}{vx:Value}(hx:Keeps D w vx x.mem){t2:TypeId}(hyb:w.heap[vb]?=some (.cells (sH x vx).toArray t2 (0,0)))(hvb:v.ownBlock≠some vb)(hD:∀k,D k->v.ownBlock≠some k) :
  Calls prog 51 #[v,.int .i64 i,.slice (some ⟨vb,0,none⟩) 1 1] w fun e w'=>∃A c,e=.returned (.slice A (outs.length+1) c)/\OutsAt D B w' (.slice A (outs.length+1) c) (outs.take i++x::outs.drop i) (vms.take i++vx::vms.drop i)/\FrS (fun k=>v.ownBlock=some k) w w'/\∀k,(Value.slice A (outs.length+1) c).ownBlock=some k->v.ownBlock=some k\/w.heap.size<=k:=by
 have p:vx.oneCell'=true:=by obtain⟨-,⟨A,c,rfl⟩,-⟩:=hx;rfl
 refine(sZ (i:=i) h.own hB hn hi rfl hyb hvb (by
   intro y r
   simp[sH] at r
   rcases r with rfl|rfl|rfl|rfl|rfl
   · rfl
   · rfl
   · rfl
   · rfl
   · exact p) h.one).mono fun e w' ⟨A,c,z,t,u,G⟩=>⟨A,c,z,⟨?_,?_,?_⟩,u,G⟩
 ·simp[h.len]
 ·have hl:(outs.take i++x::outs.drop i).length=outs.length+1:=by simp;omega
  rw[hl];obtain⟨E,F⟩:=jm outs vms i h.len;rw[gK _ _ _ _ (by simp[h.len])];rw[E,F,List.append_assoc] at t;exact t
 ·intro j o vm d g
  have l:Keeps D w vm o.mem:=by
   rcases Nat.lt_trichotomy j i with q|q|q
   ·rw[vJ (by simp;omega),vL,wa q] at d;rw[vJ (by simp[h.len];omega),vL,wa q] at g;exact h.at_ j o vm d g
   ·subst q;rw[vK (by simp;omega)] at d;rw[vK (by simp;omega)] at g;simp[Nat.min_eq_left hi] at d;simp[h.len,Nat.min_eq_left hi] at g;subst d;subst g;exact hx
   ·rw[vK (by simp;omega)] at d;rw[vK (by simp;omega)] at g;obtain⟨m,C⟩:∃m,j=i+1+m:=⟨j-i-1,by omega⟩;subst C;rw[show i+1+m-(outs.take i).length=m+1 by simp[Nat.min_eq_left hi];omega] at d;rw[show i+1+m-(vms.take i).length=m+1 by simp[h.len,Nat.min_eq_left hi];omega] at g;simp at d g;exact h.at_ (i+m) o vm d g
  exact l.frs u (fun k l=>hD k l)
theorem mT {B:Nat}{e:TypeId}{w:World}{A:Option Addr}{n c k:Nat}{xs:List Value}(h:Own1 B e w (.slice A n c) xs)(hk:k<=xs.length):Own1 B e w (.slice A k c) (xs.take k):=by
 obtain⟨D,r⟩:=h;have hl:(xs.take k).length=k:=by rw[List.length_take];omega
 refine⟨by omega,?_⟩;rcases r with ⟨hv,C⟩|⟨g,p,d,hv,t,u,E,y,z,m⟩
 ·injection hv with j q l;subst j;subst l;exact .inl ⟨by rw[show k=0 by omega],by rw[hl];omega⟩
 ·injection hv with j q l;subst j;subst l;refine .inr ⟨g,c,d,by rw[hl],t,u,by rw[hl];omega,y,z,?_⟩;rw[Nat.mul_one] at m;have e:xs.take k=(d.toList.take xs.length).take k:=by rw[m]
  rw[hl,Nat.mul_one,e,List.take_take,Nat.min_eq_left hk]
theorem tC {B:Nat}{e:TypeId}{w:World}{b n c j:Nat}{xs:List Value}(h:Own1 B e w (.slice (some ⟨b,0,none⟩) n c) xs)(hj:j<xs.length)(y:Value):Own1 B e (w.setCell ⟨b,j,none⟩ y) (.slice (some ⟨b,0,none⟩) n c) (xs.set j y):=by
 obtain⟨F,u⟩:=h;refine⟨by rw[List.length_set];omega,?_⟩;rcases u with ⟨hv,E⟩|⟨g,q,d,hv,z,A,G,C,D,p⟩
 ·cases hv
 ·injection hv with l r t;have m:b=g:=by injection l with l;injection l
  subst m;subst t;refine .inr ⟨b,c,d.setIfInBounds j y,by rw[List.length_set,<-r],z,cX y A,by rw[List.length_set];omega,C,by simpa using D,?_⟩;rw[Nat.mul_one] at p;have e:xs.set j y=(d.toList.take xs.length).set j y:=by rw[p]
  rw[List.length_set,Nat.mul_one,Array.toList_setIfInBounds,e,List.take_set]
namespace Rn
theorem bump_take (p:List Int)(k:Nat)(h:k<p.length):(p.set k (p.getD k 0+1)).take (k+1)=bump p k:=by
 unfold bump;rw[List.take_set,List.take_add_one,vu h];have e:(p.take k).length=k:=by rw[List.length_take];omega
 rw[List.set_append];rw[wb (by omega),e,Nat.sub_self];rfl
end Rn
theorem nI {B Bg:Nat}{w:World}{p ws:List Int}{u:Nat}{vp vw:Value}(h:ExAt B Bg w p ws u vp vw)(hl:ws.length=p.length)(hp:p.length<=1000000)(hw:∀z∈ws,Wd.Wid z)(hr:∀z∈p,0<=z/\z<4294967296)
  {R:Option Nat} (hR:Rn.nextK p ws p.length=R) :
  Calls prog 52 #[.pointer (some ⟨Bg,0,none⟩)] w fun e w'=>e=.returned (.bool R.isSome)/\FrS (exO Bg vp vw) w w' /\
   (R=none->ExAt B Bg w' p ws 0 vp vw)/\∀k,R=some k->∃vp' vw',ExAt B Bg w' (Rn.bump p k) (ws.take (k+1)) 0 vp' vw'/\∀k,exO Bg vp' vw' k->exO Bg vp vw k:=by
 have ao:=h.pth.form;obtain⟨A,c,rfl⟩:=ao;have ar:=h.wid.form;obtain⟨A',D,rfl⟩:=ar;rw[vS] at h;rw[vS] at h;rw[vS,vS];have f2:w.frozen? ⟨Bg,2,none⟩=false:=vY _ _ 2 _ _ h.st;have g2:w.cell? ⟨Bg,2,none⟩=some (.int .i64 u):=vX _ _ 2 _ _ _ h.st;obtain⟨W,hW⟩:=xJ (w.setCell ⟨Bg,2,none⟩ (.int .i64 0));have hF:FrS (fun k=>k=Bg) w W:=by rw[<-hW];exact(FrS.refl (fun k=>k=Bg) w).setCell (p:=⟨Bg,2,none⟩) rfl _
 have h0:ExAt B Bg W p ws 0 (.slice A p.length c) (.slice A' ws.length D):=by rw[<-hW];exact h.used 0
 have c0:W.cell? ⟨Bg,0,none⟩=some (.slice A p.length c):=vX _ _ 0 _ _ _ h0.st;have c1:W.cell? ⟨Bg,1,none⟩=some (.slice A' p.length D):=by rw[<-hl];exact vX _ _ 1 _ _ _ h0.st
 have l:=dJ h0;have HF:=dJ hF;have HL:=dJ hl;have ac:=dJ hw;have ab:=dJ hr;have HR:=dJ hR;clear h h0 hF hl hw hr hR
 go_enter func52, ntmps52
 go_wp2
 go_loop [3] (fun s3=>∃(n:Nat) (z:Int),n<=p.length/\z+1=n/\s3=.int .i64 z/\Hid (Rn.nextK p ws n=R)) (fun s3=>(intOf s3+1).toNat)
 case atStart=>exact⟨p.length,(p.length:Int)-1,vV _,by omega,rfl,HR⟩
 case round =>
  obtain⟨n,z,hn,hz,rfl,t⟩:=hrel;rcases Nat.eq_zero_or_pos n with rfl|aB
  ·obtain rfl:z=-1:=by omega
   have H:Hid (R=none):=by show _=_;rw[<-t.out];rfl
   clear t;go_wp2;go_ret;refine⟨cZ (by rw[H.out];rfl),HF.out.mono fun k d=>.inl d,fun _=>l.out,fun k d=>by rw[H.out] at d;cases d⟩
  ·obtain⟨j,rfl⟩:∃j,n=j+1:=⟨n-1,by omega⟩;obtain rfl:z=(j:Int):=by omega
   clear hz;obtain⟨x,M⟩:∃x,p[j]?=some x:=⟨_,vu (by omega)⟩;obtain⟨y,hy⟩:∃y,ws[j]?=some y:=⟨_,vu (by have:=HL.out;omega)⟩;obtain⟨b,cc,ev,q1,-,q3,q4,q5⟩:=wW l.out.pth (j:=j) (x:=.int .u32 x) (by rw[vH,M];rfl);injection ev with af ag ah;clear ag;subst af;subst ah;obtain⟨r,aC,ae,aa,-,aF,aG,aH⟩:=wW l.out.wid (j:=j) (x:=.int .i64 y) (by rw[vH,hy];rfl);injection ae with Q S T;clear S;subst Q;subst T;rw[vS] at q1 aa;have L:=ac.out y (vz hy);obtain⟨x0,x1⟩:=ab.out x (vz M);have CM:=dJ (kn y W L);have aq:=Wd.sz_32 L;have ap:=Wd.sz_pos y;have X:j<p.length:=by omega
   have ai:b≠Bg:=by
    obtain⟨-,-,ad,q⟩:=dg l.out.pth (k:=b) rfl;exact hE q l.out.st (by decide)
   have aD:b≠r:=by
    obtain⟨-,-,ad,q⟩:=dg l.out.pth (k:=b) rfl;obtain⟨-,-,O,q'⟩:=dg l.out.wid (k:=r) rfl;exact hE q q' (by decide)
   have E:Rn.nextK p ws (j+1)=if x+1<Wd.sz y then some j else Rn.nextK p ws j:=by
    rw[Rn.nextK,vA,M,vA,hy];rfl
   have J:=dJ E;have aj:=HL.out;have aE:p.length<=D:=by omega
   have gx:p.getD j 0=x:=by rw[vA,M];rfl
   obtain⟨m,Z⟩:=xJ (Wd.sz y);rw[Z] at CM aq ap J;have HY:=dJ hy;have HX:=dJ M;have HG:=dJ gx;clear M hy L E Z gx aj aa;by_cases Y:x+1<m
   ·have H:Hid (R=some j):=by show _=_;rw[<-t.out,J.out,wa Y]
    have au:x<m-1:=by omega
    have f0:W.frozen? ⟨Bg,0,none⟩=false:=vY _ _ 0 _ _ l.out.st;have f1:W.frozen? ⟨Bg,1,none⟩=false:=vY _ _ 1 _ _ l.out.st;obtain⟨C,U⟩:=xJ (W.setCell ⟨b,j,none⟩ (.int .u32 (x+1)));have G:FrS (fun k=>k=b) W C:=by rw[<-U];exact(FrS.refl (fun k=>k=b) W).setCell (p:=⟨b,j,none⟩) rfl _
    have g:C.heap[Bg]?=some (.cells #[.slice (some ⟨b,0,none⟩) p.length c,.slice (some ⟨r,0,none⟩) ws.length D,.int .i64 (0:Nat)] 86 (0,0)):=(G.block Bg (cY l.out.st) (fun e=>ai e.symm)).trans l.out.st;have av:=dJ g
    have I:Own1 B 35 C (.slice (some ⟨b,0,none⟩) p.length c) ((p.set j (x+1)).map (Value.int .u32)):=by
     rw[<-U,List.map_set];have:=tC l.out.pth (j:=j) (by rw[vS];exact X) (.int .u32 (x+1));exact this
    have F:Own1 B 3 C (.slice (some ⟨r,0,none⟩) ws.length D) (ws.map (Value.int .i64)):=dr l.out.wid fun k d=>G.block k (dg l.out.wid d).2.1 (fun e=>by
      have:k=r:=by simp[Value.ownBlock] at d;exact d.symm
      omega)
    have d0:C.cell? ⟨Bg,0,none⟩=some (.slice (some ⟨b,0,none⟩) p.length c):=vX _ _ 0 _ _ _ g;have d1:C.cell? ⟨Bg,1,none⟩=some (.slice (some ⟨r,0,none⟩) p.length D):=by rw[<-HL.out];exact vX _ _ 1 _ _ _ g
    have z0:C.frozen? ⟨Bg,0,none⟩=false:=vY _ _ 0 _ _ g;have z1:C.frozen? ⟨Bg,1,none⟩=false:=vY _ _ 1 _ _ g;have am:j+1<=ws.length:=by have:=HL.out;omega
    have aw:(j:Int)+1<=(c:Int):=by omega
    have ax:(j:Int)+1<=(D:Int):=by omega
    have ay:IntKind.i64.wrap ((j:Int)+1)=(j:Int)+1:=IntWalk.i64_in _ (by omega);have az:(0:Int)<=(j:Int)+1:=by omega
    have aA:((j:Int)+1).toNat=j+1:=by omega
    have N:Hid (∀w9,w9=((C.setCell ⟨Bg,0,none⟩ (.slice (some ⟨b,0,none⟩) (j+1) c)).setCell ⟨Bg,1,none⟩ (.slice (some ⟨r,0,none⟩) (j+1) D)).drew ->
        FrS (exO Bg (.slice (some ⟨b,0,none⟩) p.length c) (.slice (some ⟨r,0,none⟩) ws.length D)) w w9/\∃vp' vw',ExAt B Bg w9 (Rn.bump p j) (ws.take (j+1)) 0 vp' vw'/\∀k,exO Bg vp' vw' k->exO Bg (.slice (some ⟨b,0,none⟩) p.length c) (.slice (some ⟨r,0,none⟩) ws.length D) k):=by
     rintro w9 rfl;have f9:FrS (fun k=>k=Bg) C (((C.setCell ⟨Bg,0,none⟩ (.slice (some ⟨b,0,none⟩) (j+1) c)).setCell ⟨Bg,1,none⟩ (.slice (some ⟨r,0,none⟩) (j+1) D)).drew):=(((FrS.refl (fun k=>k=Bg) C).setCell (p:=⟨Bg,0,none⟩) rfl _).setCell (p:=⟨Bg,1,none⟩) rfl _).drew;refine⟨((HF.out.mono fun k d=>.inl d).trans (G.mono fun k d=>.inr (.inl (by rw[d];rfl)))).trans (f9.mono fun k d=>.inl d),.slice (some ⟨b,0,none⟩) (j+1) c,.slice (some ⟨r,0,none⟩) (j+1) D,⟨cX (i:=1) _ (cX (i:=0) _ g),?_,?_,l.out.ge⟩,fun k d=>d⟩
     ·have K:=mT I (k:=j+1) (by rw[vS,List.length_set];omega);rw[<-List.map_take,<-HG.out,Rn.bump_take p j X] at K
      exact dr K fun k d=>f9.block k (dg K d).2.1 (fun e=>by
        have:k=b:=by simp[Value.ownBlock] at d;exact d.symm
        omega)
     ·have K:=mT F (k:=j+1) (by rw[vS];omega);rw[<-List.map_take] at K;obtain⟨-,-,O,q'⟩:=dg F (k:=r) rfl
      exact dr K fun k d=>f9.block k (dg K d).2.1 (fun e=>by
        have an:k=r:=by simp[Value.ownBlock] at d;exact d.symm
        subst an
        exact hE q' g (by decide) e)
    clear G I F g t am;go_wp2_with (go_at_call 39;refine CM.out.mono ?_;rintro e w1 ⟨rfl,rfl⟩)
    go_region_with (fail)
    all_goals go_wp2
    all_goals go_ret
    all_goals
     obtain⟨e1,e2⟩:=N.out _ rfl;refine⟨cZ (by rw[H.out];rfl),e1,?_,?_⟩
     ·intro q;rw[H.out] at q;cases q
     ·intro k d;rw[H.out] at d;injection d with d;subst d;exact e2
   ·have H:Hid (Rn.nextK p ws j=R):=by show _=_;rw[<-t.out,J.out,wb Y]
    have au:¬x<m-1:=by omega
    clear t;go_wp2_with (go_at_call 39;refine CM.out.mono ?_;rintro e w1 ⟨rfl,rfl⟩);go_round
    case rel =>
     have ak:j<=p.length:=by omega
     have al:(j:Int)-1+1=(j:Int):=by omega
     exact⟨j,(j:Int)-1,ak,al,rfl,H⟩
    case measure=>first|(simp[intOf];done)|(simp[intOf];omega)
theorem lV {Bg B k:Nat}{vp:Value}{picks:List Int}{w:World}(hb:w.heap[Bg]?=some (.cells #[vp,.int .i64 k] 120 (0,0)))(hv:U32At B w vp picks)(hBg:B<=Bg)(n:Int)(hn:Wd.Wid n)(hk:k<=1000000)(hr:∀z∈picks,0<=z/\z<4294967296) :
  Calls prog 265 #[.pointer (some ⟨Bg,0,none⟩),.int .i64 n] w fun e w'=>e=.returned (.int .u32 (Rn.given picks k n))/\w'.heap[Bg]?=some (.cells #[vp,.int .i64 (k+1:Nat)] 120 (0,0))/\FrS (·=Bg) w w':=by
 have F:w.cell? ⟨Bg,0,none⟩=some vp:=vX _ _ 0 _ _ _ hb;have G:w.cell? ⟨Bg,1,none⟩=some (.int .i64 k):=vX _ _ 1 _ _ _ hb;have J:w.frozen? ⟨Bg,1,none⟩=false:=vY _ _ 1 _ _ hb;obtain⟨W,C⟩:=xJ (w.setCell ⟨Bg,1,none⟩ (.int .i64 ((k:Int)+1)))
 have g:W.heap[Bg]?=some (.cells #[vp,.int .i64 (k+1:Nat)] 120 (0,0)):=by
  have:=cX (i:=1) (.int .i64 ((k:Int)+1)) hb;rw[C] at this;exact this
 have t:FrS (·=Bg) w W:=by rw[<-C];exact(FrS.refl (·=Bg) w).setCell (p:=⟨Bg,1,none⟩) rfl _
 have H:W.cell? ⟨Bg,0,none⟩=some vp:=vX _ _ 0 _ _ _ g;obtain⟨A,c,rfl,K,L,v3⟩:=hv;have d:=dJ (And.intro g t);by_cases j:k<picks.length
 ·obtain⟨z,l⟩:∃z,picks[k]?=some z:=⟨_,vu j⟩;obtain⟨u,op,rfl,E,v4⟩:=v3 (by omega)
  have I:W.cell? ⟨u,op+k,none⟩=some (.int .u32 z):=by
   rw[<-v4 k z l]
   exact wA (t.block u (by
     have:=v4 k z l
     rcases wh u w.heap.size with q|q
     · exact q
     · simp[World.cell?,Array.getElem?_eq_none q] at this) (by omega))
  obtain⟨z0,N⟩:=hr z (vz l);have y:=dJ (sO n z W hn)
  have r:Hid (Rn.given picks k n=z%Wd.sz n):=by
   show _=_;unfold Rn.given;rw[wa j,vA,l];rfl
  obtain⟨m,D⟩:=xJ (z%Wd.sz n);rw[D] at y r;clear v3 v4 l hr hb g t hn D
  go_enter func265, ntmps265
  go_wp2_with (go_at_call 266;refine y.out.mono ?_;rintro e M ⟨rfl,rfl⟩);go_ret;exact⟨de r.out.symm,d.out.1,d.out.2⟩
 ·have r:Hid (Rn.given picks k n=0):=by show _=_;exact Rn.given_out (by omega) n
  clear v3 hr hb g t hn
  go_enter func265, ntmps265
  go_wp2;go_ret;exact⟨de r.out.symm,d.out.1,d.out.2⟩
theorem uF (p:Addr)(w:World):(method 377 118 (.pointer (some p)) "backstay/run.choose").run prog w=.ok (265,.pointer (some p)) w:=by kernel_rfl
theorem uE (p:Value)(n:Int)(w:World):(callFunc 265 #[p,.int .i64 n]).run prog w=.ok (.enter 265 #[p,.int .i64 n]) w:=by kernel_rfl
theorem U32At.frs {B:Nat}{w w':World}{v:Value}{zs:List Int}{S:Nat->Prop}(h:U32At B w v zs)(hB:B<=w.heap.size)(hF:FrS S w w')(hS:∀k,S k->B<=k):U32At B w' v zs :=
 SlAt.imp h fun b off l d j z g=>by
  rw[<-d j z g];exact wA (hF.block b (by omega) (fun q=>by have:=hS b q;omega))
def sX (c:Cfg)(Bg:Nat)(vp:Value)(picks:List Int)(fin:List Int)(hch:c.ch=.iface 118 (.pointer (some ⟨Bg,0,none⟩)))(hr:∀z∈picks,0<=z/\z<4294967296)(hBg:c.n₀<=Bg/\¬Kept c Bg)(hfin:fin.length<=1000000):eD c (Rn.given picks) fin where
 ty:=118
 ptr:=.pointer (some ⟨Bg,0,none⟩)
 fnum:=265
 ech:=hch
 inv:=fun w=>uF _ w
 ent:=fun n w=>uE _ n w
 At:=fun w ws O=>w.heap[Bg]?=some (.cells #[vp,.int .i64 ws.length] 120 (0,0))/\U32At c.n₀ w vp picks/\O=(fun k=>k=Bg)
 apart:=fun {w ws O} h k hk=>by
  obtain⟨h1,-,rfl⟩:=h;subst hk;exact⟨hBg.1,cY h1,hBg.2⟩
 keep:=fun {w w' ws O S} h hF hS=>by
  obtain⟨h1,h2,rfl⟩:=h;have hlt:=cY h1;exact⟨(hF.block Bg hlt (fun q=>(hS Bg q).2 rfl)).trans h1,h2.frs (by omega) hF (fun k hk=>(hS k hk).1),rfl⟩
 call:=fun {w ws O} n h hn hp=>by
  obtain⟨h1,h2,rfl⟩:=h;have hl:=hp.length_le;rw[vW,List.length_singleton] at hl;have hlt:=cY h1;refine(lV h1 h2 hBg.1 n hn (by omega) hr).mono fun e w' h=>⟨h.1,h.2.2,_,⟨?_,h2.frs (by omega) h.2.2 (fun k hk=>by rw[hk];exact hBg.1),rfl⟩,fun k hk=>.inl hk⟩;rw[vW,List.length_singleton];exact h.2.1
namespace Rn
theorem padded_snoc {p:List Int}{n:Nat}(h:p.length<=n):padded p n++[0]=padded p (n+1):=by
 unfold padded;rw[List.append_assoc,show n+1-p.length=(n-p.length)+1 by omega,List.replicate_succ']
theorem padded_self (p:List Int):padded p p.length=p:=by unfold padded;simp
theorem take_snoc {ws fin:List Int}{n:Int}(h:ws++[n] <+: fin):fin.take ws.length++[n]=fin.take (ws.length+1)/\fin.getD ws.length 0=n:=by
 obtain⟨t,rfl⟩:=h;constructor
 ·simp[List.take_append,List.take_add_one]
 ·simp[vA]
end Rn
theorem uD (p:Addr)(w:World):(method 377 84 (.pointer (some p)) "backstay/run.choose").run prog w=.ok (264,.pointer (some p)) w:=by kernel_rfl
theorem uC (p:Value)(n:Int)(w:World):(callFunc 264 #[p,.int .i64 n]).run prog w=.ok (.enter 264 #[p,.int .i64 n]) w:=by kernel_rfl
def sJ (B Bg:Nat)(p0 fin:List Int)(w:World)(ws:List Int)(vp vw:Value):Prop :=
 ExAt B Bg w (Rn.padded p0 (max p0.length ws.length)) (fin.take (max p0.length ws.length)) ws.length vp vw
def nJ (c:Cfg)(B Bg:Nat)(p0:List Int)(fin:List Int)(hch:c.ch=.iface 84 (.pointer (some ⟨Bg,0,none⟩)))(hB:c.n₀<=B)(hp:p0.length<=fin.length)(hgood:∀j:Nat,j<p0.length->0<=p0.getD j 0/\p0.getD j 0<Wd.sz (fin.getD j 0))(hfin:fin.length<=1000000) :
  eD c (Rn.given p0) fin where
 ty:=84
 ptr:=.pointer (some ⟨Bg,0,none⟩)
 fnum:=264
 ech:=hch
 inv:=fun w=>uD _ w
 ent:=fun n w=>uC _ n w
 At:=fun w ws O=>(∃vp vw,sJ B Bg p0 fin w ws vp vw/\O=exO Bg vp vw)/\(∀k,Kept c k->k<w.heap.size)/\∀k,O k->¬Kept c k
 apart:=fun {w ws O} h k hk=>by
  obtain⟨⟨vp,vw,h1,rfl⟩,h2,h3⟩:=h;refine⟨?_,?_,h3 k hk⟩
  ·rcases hk with rfl|hk|hk
   ·have:=h1.ge;omega
   ·have:=(dg h1.pth hk).1;omega
   ·have:=(dg h1.wid hk).1;omega
  ·rcases hk with rfl|hk|hk
   ·exact cY h1.st
   ·exact(dg h1.pth hk).2.1
   ·exact(dg h1.wid hk).2.1
 keep:=fun {w w' ws O S} h hF hS=>by
  obtain⟨⟨vp,vw,h1,rfl⟩,h2,h3⟩:=h;exact⟨⟨vp,vw,h1.frs hF (fun k hk q=>(hS k q).2 hk),rfl⟩,fun k hk=>by have:=h2 k hk;have:=hF.size;omega,h3⟩
 call:=fun {w ws O} n h hn hpre=>by
  obtain⟨⟨vp,vw,h1,rfl⟩,h2,h3⟩:=h;have hl:=hpre.length_le;rw[vW,List.length_singleton] at hl;obtain⟨t1,t2⟩:=Rn.take_snoc hpre;rcases wh ws.length p0.length with hk|hk
  ·have hm:max p0.length ws.length=p0.length:=by omega
   have h1':ExAt B Bg w p0 (fin.take p0.length) ws.length vp vw:=by have:=h1;unfold sJ at this;rwa [hm,Rn.padded_self] at this
   refine(lS h1' hk (by omega) n).mono fun e w' h=>⟨?_,h.2.2.mono fun k hk=>.inl hk,exO Bg vp vw,⟨⟨vp,vw,?_,rfl⟩,fun k hk=>by have:=h2 k hk;have:=h.2.2.size;omega,h3⟩,fun k hk=>.inl hk⟩
   ·rw[h.1];have hg:=hgood ws.length hk;unfold Rn.given;rw[wa hk,Int.emod_eq_of_lt hg.1 (by rw[<-t2];exact hg.2)]
   ·unfold sJ;rw[vW,List.length_singleton,show max p0.length (ws.length+1)=p0.length by omega,Rn.padded_self];exact h.2.1
  ·have hm:max p0.length ws.length=ws.length:=by omega
   have hpl:(Rn.padded p0 ws.length).length=ws.length:=Rn.padded_len hk;have h1':ExAt B Bg w (Rn.padded p0 ws.length) (fin.take ws.length) (Rn.padded p0 ws.length).length vp vw:=by have:=h1;unfold sJ at this;rw[hm] at this;rw[hpl];exact this
   refine(kI h1' (by rw[hpl,List.length_take];omega) (by omega) n).mono fun e w' h=>⟨?_,?_⟩
   ·rw[h.1,Rn.given_out hk]
   ·obtain⟨-,vp',vw',q1,q2,q3⟩:=h;refine⟨q2,exO Bg vp' vw',⟨⟨vp',vw',?_,rfl⟩,fun k hk=>by have:=h2 k hk;have:=q2.size;omega,fun k hk hK=>?_⟩,q3⟩
    ·unfold sJ;rw[vW,List.length_singleton,show max p0.length (ws.length+1)=ws.length+1 by omega,<-Rn.padded_snoc hk,<-t1];rw[hpl] at q1;exact q1
    ·rcases q3 k hk with q|q
     ·exact h3 k q hK
     ·have:=h2 k hK;omega
def Dc (c:Cfg)(k:Nat):Prop:=(0<c.us.length/\k=c.Bm)\/∃j cp:Nat,c.us[j]?=some (k,cp)
theorem Dc.kept {c:Cfg}{k:Nat}(h:Dc c k):Kept c k:=by
 rcases h with ⟨-,h⟩|⟨j,d,h⟩
 ·exact .inr (.inr h)
 ·exact .inl (.inr (.inr (.inr ⟨j,d,h⟩)))
theorem qr {B size n:Nat}{e:TypeId}{w w':World}{v:Value}{xs:List Value}(h:w.ownsRow B e size v n xs)(hw:∀k,v.ownBlock=some k->w'.heap[k]?=w.heap[k]?):w'.ownsRow B e size v n xs:=by
 obtain⟨l,j⟩:=h;refine⟨l,?_⟩;rcases j with j|⟨k,d,g,hv,m,p,r⟩
 ·exact .inl j
 ·exact .inr ⟨k,d,g,hv,m,(hw k (by rw[hv];rfl)).trans p,r⟩
theorem mA {f:Fn}(hf:Ref.Val f){mem:List (List Int)}(hsl:mem.map (fun r=>(r.length:Int))=f.slots):mem.length<=1000/\∀l∈mem,l.length<=8:=by
 have j:mem.length=f.slots.length:=by rw[<-hsl,vS]
 have m:=hf.size;refine⟨by omega,fun l hl=>?_⟩;have g:(l.length:Int)∈f.slots:=by rw[<-hsl];exact List.mem_map_of_mem hl
 have d:=vT.1 hf.head.2 _ g;unfold Ref.isSlot at d;simp at d;omega
theorem wS {c:Cfg}{w:World}{mem:List (List Int)}(hM:tP c w mem)(hS:oV c w)(hlt:∀k,Dc c k->k<w.heap.size)(hBm:c.Bm<w.heap.size)(hf:Ref.Val c.f)(hsl:mem.map (fun r=>(r.length:Int))=c.f.slots):Keeps (Dc c) w c.mv mem:=by
 have m:=hM.1;obtain⟨S,Q⟩:=mA hf hsl;refine⟨hlt,⟨c.Am,c.cm,by rw[m];rfl⟩,fun w' C N=>?_⟩;obtain⟨P,R,K⟩:=hS;refine⟨?_,c.Am,c.cm,by rw[vS,m];rfl,by rw[vS,m];exact P,fun q=>?_⟩
 rotate_left
 ·rw[vS] at q;obtain⟨e,A,E,F⟩:=K (by omega);refine⟨c.Bm,A,e,.inl ⟨by omega,rfl⟩,(C c.Bm (.inl ⟨by omega,rfl⟩)).trans E,fun j n B=>?_⟩;rw[vH,Option.map_eq_some_iff] at B;obtain⟨l,hl,rfl⟩:=B;have B:=(vy.1 hl).1;obtain⟨⟨d,g⟩,y⟩:∃u,c.us[j]?=some u:=⟨_,vu (by omega)⟩;have H:c.f.slots[j]?=some (l.length:Int):=by rw[<-hsl,vH,hl];rfl
  obtain⟨I,O,p,D,J⟩:=hM.2 j d g l y hl;exact⟨d,g,p,F j d g l.length y H,I,.inr ⟨j,g,y⟩,(C d (.inr ⟨j,g,y⟩)).trans D,fun i M=>⟨l[i],J i _ (vu M)⟩⟩
 refine⟨c.Am,c.cm,by rw[m];rfl,by omega,by omega,fun q=>?_⟩;obtain⟨e,A,E,F⟩:=K (by omega);have G:c.Bm<w'.heap.size:=by omega
 refine⟨c.Bm,0,e,G,fun j l hl=>?_⟩;have B:=(vy.1 hl).1;obtain⟨⟨d,g⟩,y⟩:∃u,c.us[j]?=some u:=⟨_,vu (by omega)⟩;have H:c.f.slots[j]?=some (l.length:Int):=by rw[<-hsl,vH,hl];rfl
 obtain⟨I,O,p,D,J⟩:=hM.2 j d g l y hl;have L:d<w.heap.size:=cY D;refine⟨.slice (some ⟨d,0,none⟩) l.length g,?_,?_⟩
 ·rw[vX _ _ _ _ _ _ ((C c.Bm (.inl ⟨by omega,rfl⟩)).trans E),Nat.zero_add];exact F j d g l.length y H
 ·have:=Q l (vz hl);refine⟨some ⟨d,0,none⟩,g,rfl,I,by omega,fun _=>⟨d,0,rfl,by omega,fun t z hz=>?_⟩⟩;rw[vX _ _ _ _ _ _ ((C d (.inr ⟨j,g,y⟩)).trans D),Nat.zero_add];exact J t z hz
theorem PS.keeps {c:Cfg}{w:World}{s:Rn.St}{b frm:Int}{vt:Value}(h:PS c w s b frm vt)(hBm:c.Bm<w.heap.size)(hf:Ref.Val c.f)(hsl:s.mem.map (fun r=>(r.length:Int))=c.f.slots):Keeps (Dc c) w c.mv s.mem:=wS h.mem h.slots (fun k d=>h.kept_lt hBm d.kept) hBm hf hsl
theorem kS (D:Nat->Prop)(w:World)(h:∀k,D k->k<w.heap.size):Keeps D w (.slice none 0 0) [] :=
 ⟨h,⟨none,0,rfl⟩,fun w' _ _=>⟨⟨none,0,rfl,vV _,by decide,fun h=>absurd h (by decide)⟩,none,0,rfl,vV _,fun h=>absurd h (by decide)⟩⟩
def uf (c:Cfg)(o:Rn.Out):Value:=if o.kind=0 then c.mv else .slice none 0 0
theorem lf {c:Cfg}{w:World}{s:Rn.St}{b frm:Int}{vt:Value}(h:PS c w s b frm vt)(hBm:c.Bm<w.heap.size)(hf:Ref.Val c.f)(hI:Rn.Inv c.f s){o:Rn.Out}(ho:Rn.OutOf c.f s o):Keeps (Dc c) w (uf c o) o.mem:=by
 unfold uf;rcases ho with ⟨g,j,-⟩|rfl|rfl
 ·rw[wa g,j];exact h.keeps hBm hf hI.mem
 ·exact kS _ _ fun k d=>h.kept_lt hBm d.kept
 ·exact kS _ _ fun k d=>h.kept_lt hBm d.kept
structure Rd (D:Nat->Prop)(B Bg:Nat)(w:World)(v vp vw:Value)(vms:List Value)(p ws:List Int)(u:Nat)(outs:List Rn.Out):Prop where
 ex:ExAt B Bg w p ws u vp vw
 at_:OutsAt D B w v outs vms
 dlt:∀k,D k->B<=k/\k<w.heap.size/\¬exO Bg vp vw k/\v.ownBlock≠some k
 vo:∀k,v.ownBlock=some k->¬exO Bg vp vw k
section
variable {D:Nat->Prop}{B Bg u:Nat}{w w':World}{v vp vw:Value}{vms:List Value}{p ws:List Int}{outs:List Rn.Out}
theorem OutsAt.frs {S:Nat->Prop}(h:OutsAt D B w v outs vms)(hF:FrS S w w')(hD:∀k,D k->¬S k)(hv:∀k,v.ownBlock=some k->¬S k):OutsAt D B w' v outs vms where
 len:=h.len
 own:=qr h.own fun k d=>hF.block k (dx h.own k d).2 (hv k d)
 at_:=fun j o vm g l=>(h.at_ j o vm g l).frs hF hD
theorem OutsAt.more {D':Nat->Prop}(h:OutsAt D B w v outs vms)(hD:∀k,D k->D' k)(hD':∀k,D' k->k<w.heap.size):OutsAt D' B w v outs vms where
 len:=h.len
 own:=h.own
 at_:=fun j o vm d g=>(h.at_ j o vm d g).more hD hD'
theorem kH (h:ExAt B Bg w p ws u vp vw){k:Nat}(hk:exO Bg vp vw k):B<=k/\k<w.heap.size:=by
 rcases hk with rfl|hk|hk
 ·exact⟨h.ge,cY h.st⟩
 ·have:=dg h.pth hk;exact⟨this.1,this.2.1⟩
 ·have:=dg h.wid hk;exact⟨this.1,this.2.1⟩
theorem Rd.gr (h:Rd D B Bg w v vp vw vms p ws u outs)(g:Gr w w'):Rd D B Bg w' v vp vw vms p ws u outs where
 ex:=h.ex.frs (FrS.of_gr (S:=fun _=>False) g) (fun _ _ q=>q)
 at_:=h.at_.frs (FrS.of_gr (S:=fun _=>False) g) (fun _ _ q=>q) (fun _ _ q=>q)
 dlt:=fun k d=>by obtain⟨h1,h2,h3⟩:=h.dlt k d;exact⟨h1,by have:=g.size;omega,h3⟩
 vo:=h.vo
theorem Rd.insert (h:Rd D B Bg w v vp vw vms p ws u outs){v':Value}{outs':List Rn.Out}{vms':List Value}(ho:OutsAt D B w' v' outs' vms')(hF:FrS (fun k=>v.ownBlock=some k) w w')(hv:∀k,v'.ownBlock=some k->v.ownBlock=some k\/w.heap.size<=k) :
  Rd D B Bg w' v' vp vw vms' p ws u outs' where
 ex:=h.ex.frs hF fun k d q=>h.vo k q d
 at_:=ho
 dlt:=fun k d=>by
  obtain⟨g,m,j,l⟩:=h.dlt k d;refine⟨g,by have:=hF.size;omega,j,fun q=>?_⟩;rcases hv k q with q|q
  ·exact l q
  ·omega
 vo:=fun k d q=>by
  rcases hv k d with r|r
  ·exact h.vo k r q
  ·have:=(kH h.ex q).2;omega
theorem Rd.next (h:Rd D B Bg w v vp vw vms p ws u outs){vp' vw':Value}{p' ws':List Int}{u':Nat}(he:ExAt B Bg w' p' ws' u' vp' vw')(hF:FrS (exO Bg vp vw) w w')(hO:∀k,exO Bg vp' vw' k->exO Bg vp vw k):Rd D B Bg w' v vp' vw' vms p' ws' u' outs where
 ex:=he
 at_:=h.at_.frs hF (fun k d q=>(h.dlt k d).2.2.1 q) (fun k d q=>h.vo k d q)
 dlt:=fun k d=>by
  obtain⟨g,m,j,l⟩:=h.dlt k d;exact⟨g,by have:=hF.size;omega,fun q=>j (hO k q),l⟩
 vo:=fun k d q=>h.vo k d (hO k q)
end
theorem rV {D:Nat->Prop}{B Bg:Nat}{f:Fn}{i:Rn.Inp}{w0 w:World}{v vp vw:Value}{vms:List Value}{p:List Int}{outs:List Rn.Out}(h:Rd D B Bg w0 v vp vw vms p ((Rn.wids f i p).take p.length) 0 outs)(hg:Rn.Good f i p)
  (hRA:Ref.RcAll) (hf:VFn f) (hin:Rn.validInput f i=0) (ha:∀a∈i.args,0<=a) (g:Gr w0 w) {c:Cfg} (cn:c.n₀=B) (cf:c.f=f) (cch:c.ch=.iface 84 (.pointer (some ⟨Bg,0,none⟩))) (hp:PS c w (Rn.start f i) 0 (-1) (.slice none 0 0)) (hK:∀k,Kept c k->w0.heap.size<=k) (hBm:c.Bm<w.heap.size) :
  Calls prog 48 #[.pointer (some ⟨c.Bs,0,none⟩)] w fun e w'=>∃vx,e=.returned (gS (Rn.run f (Rn.given p) i).1 vx)/\∃(D':Nat->Prop) (vp' vw':Value),Rd D' B Bg w' v vp' vw' vms (Rn.padded p (Rn.wids f i p).length) (Rn.wids f i p) (Rn.wids f i p).length outs/\Keeps D' w' vx (Rn.run f (Rn.given p) i).1.mem/\FrS (fun k=>B<=k) w w':=by
 subst cn;subst cf;obtain⟨Z,q2,R,S⟩:=Rn.run_ok hRA hf.val hf.im hin ha p;obtain⟨l,hl,Q⟩:=Rn.start_ent hRA hin ha;have H:=h.gr g;have y:∀k,exO Bg vp vw k->k<w0.heap.size:=fun k d=>(kH h.ex d).2
 let ch:=nJ c c.n₀ Bg p (Rn.wids c.f i p) cch (vV _) hg.1 hg.2 (by omega)
 have N:ch.At w (Rn.start c.f i).widths (exO Bg vp vw):=by
  refine⟨⟨vp,vw,?_,rfl⟩,fun k d=>hp.kept_lt hBm d,fun k d q=>by have:=y k d;have:=hK k q;omega⟩;unfold sJ;rw[show (Rn.start c.f i).widths=[] from rfl,List.length_nil,Nat.max_eq_left (vU _),Rn.padded_self];exact H.ex
 refine(gP (pick:=Rn.given p) (fin:=Rn.wids c.f i p) (b:=0) hp hBm hf hRA hl Q (Rn.given_ok p) ch N (vU _) (List.prefix_refl _)).mono ?_;rintro e w' ⟨rfl,b,L,vq,Y,G,T,U,A,W⟩;obtain⟨⟨vp',vw',C,rfl⟩,r7,X⟩:=T;have z:Rn.from_ c.f (Rn.given p) 401 0 (-1) (Rn.start c.f i)=Rn.run c.f (Rn.given p) i:=rfl;rw[z] at G U C ⊢
 have O:ExAt c.n₀ Bg w' (Rn.padded p (Rn.wids c.f i p).length) (Rn.wids c.f i p) (Rn.wids c.f i p).length vp' vw':=by
  have J:(Rn.run c.f (Rn.given p) i).2.1.widths=Rn.wids c.f i p:=rfl;have K:max p.length (Rn.wids c.f i p).length=(Rn.wids c.f i p).length:=Nat.max_eq_right hg.1;unfold sJ at C;rw[J,K,wg] at C;exact C
 have r:c.Bm<w'.heap.size:=by have:=A.size;omega
 have t:=lf G r hf.val R S
 have E:∀k,D k->¬(Mut c k\/exO Bg vp vw k):=fun k d q=>by
  obtain⟨d1,d2,d3,d4⟩:=h.dlt k d;rcases q with q|q
  ·have:=hK k (.inl q);omega
  ·exact d3 q
 have F:∀k,v.ownBlock=some k->¬(Mut c k\/exO Bg vp vw k):=fun k d q=>by
  rcases q with q|q
  ·have:=hK k (.inl q);have:=(dx h.at_.own k d).2;omega
  ·exact h.vo k d q
 have u:∀k,k<w0.heap.size->¬exO Bg vp vw k->¬exO Bg vp' vw' k:=fun k M h2 q=>by
  rcases W k q with q|q
  ·exact h2 q
  ·have:=g.size;omega
 have m:∀k,D k\/Dc c k->k<w'.heap.size:=fun k d=>by
  rcases d with d|d
  ·have:=(h.dlt k d).2.1;have:=g.size;have:=A.size;omega
  ·exact G.kept_lt r d.kept
 refine⟨uf c _,rfl,(fun k=>D k\/Dc c k),vp',vw',⟨O,(H.at_.frs A E F).more (fun k d=>.inl d) m,fun k d=>?_,fun k d=>?_⟩,t.more (fun k d=>.inr d) m,A.mono fun k d=>?_⟩
 ·rcases d with d|d
  ·obtain⟨d1,d2,d3,d4⟩:=h.dlt k d;exact⟨d1,m k (.inl d),u k d2 d3,d4⟩
  ·have M:=hK k d.kept;refine⟨?_,m k (.inr d),fun q=>X k q d.kept,fun q=>?_⟩
   ·have:=hp.n₀;rcases d with ⟨-,rfl⟩|⟨j,I,d⟩
    ·exact hp.old.2.2.2.2.1
    ·exact(hp.old.2.2.2.2.2 j k I d).1
   ·have:=(dx h.at_.own k q).2;omega
 ·exact u k (dx h.at_.own k d).2 (h.vo k d)
 ·rcases d with d|d
  ·exact hp.mut d
  ·exact(kH h.ex d).1
theorem lI {D:Nat->Prop}{B:Nat}{w:World}{v:Value}{outs:List Rn.Out}{vms:List Value}(h:OutsAt D B w v outs vms)(hn:outs.length<=1000)(ha:Rn.Asc outs){x:Rn.Out}{vx:Value}(hx:Keeps D w vx x.mem) :
  Calls prog 49 #[v,gS x vx,.func (.func 50) #[] #[]] w fun e w'=>e=.returned (.tuple #[.int .i64 (Rn.below x outs:Nat),.bool (decide (outs[Rn.below x outs]?=some x))])/\Gr w w':=by
 obtain⟨L,J⟩:=xJ (Rn.below x outs);have M:L<=outs.length:=by rw[<-J];exact Rn.below_le x outs
 have ae:Hid (∀j y,outs[j]?=some y->(Rn.cmpOut y x<0↔j<L)):=fun j y H=>by rw[<-J];exact Rn.below_at x outs ha j y H
 obtain⟨F,hF⟩:∃F,decide (outs[L]?=some x)=F:=⟨_,rfl⟩;have aa:=dJ hF;obtain⟨W,hW⟩:=xJ (ml w x vx);have g1:Gr w W:=by rw[<-hW];exact(wL w).alloc _
 have r:Hid (∀wr,Gr W wr->∀u:GrW wr,_):=fun wr g u=>ed (w:=w) (o:=x) (vm:=vx) (w':=u.val) (by rw[hW];exact g.trans u.gr);obtain⟨A,c,hv,hc,hA,af⟩:=dU h.own;subst hv
 have Z:Hid (∀wr,Gr W wr->∀j y,outs[j]?=some y->∃b I,A=some ⟨b,0,none⟩/\(∃Y cy,I=.slice Y y.mem.length cy)/\(∀u:GrW wr,u.val.cell? ⟨b,j*5,none⟩=some (.int .i64 y.kind)/\u.val.cell? ⟨b,j*5+1,none⟩=some (.bool y.ret.p)/\u.val.cell? ⟨b,j*5+2,none⟩=some (.int .i64 y.ret.s)/\u.val.cell? ⟨b,j*5+3,none⟩=some (.int .u32 y.ret.n)/\u.val.cell? ⟨b,j*5+4,none⟩=some I) /\
     ∀u:GrW wr,Calls prog 50 #[gS y I,gS x vx] u.val fun e w'=>e=.returned (.int .i64 (Rn.cmpOut y x))/\Gr u.val w'):=fun wr g j y H=>by
  have hj:=(vy.1 H).1;obtain⟨b,e,ag,-,R⟩:=dz h.own rfl (by omega);obtain⟨I,ad⟩:∃I,vms[j]?=some I:=⟨_,vu (by rw[h.len];exact hj)⟩;have hk:=h.at_ j y I H ad;refine⟨b,I,e,?_,fun u=>?_,fun u=>?_⟩
  ·obtain⟨-,⟨Y,cy,e2⟩,-⟩:=hk;exact⟨Y,cy,e2⟩
  ·have gg:Gr w u.val:=(g1.trans g).trans u.gr;have q:=fun t (ht:t<5)=>(gg.cell b (j*5+t) ag).trans ((R (j*5+t) (by omega)).trans (kJ outs vms j t y I H ad ht));exact⟨q 0 (by decide),q 1 (by decide),q 2 (by decide),q 3 (by decide),q 4 (by decide)⟩
  ·have gg:Gr w u.val:=(g1.trans g).trans u.gr;exact fQ (hk.gr gg).tab (hx.gr gg).tab (vV _)
 have ab:=dJ g1;obtain⟨-,⟨Ax,cx,rfl⟩,-⟩:=hx;obtain⟨n,K⟩:=xJ outs.length;have HN:=dJ K;rw[K] at hn M hc;rw[J,hF,K];clear h ha J hF g1 K hA af;unfold ml at hW;unfold gS at *
 go_enter func49, ntmps49
 go_wp2
 go_loopw [9,10] (fun s9 T wr=>∃C z:Nat,s9=.int .i64 (C:Int)/\T=.int .i64 (z:Int)/\C<=L/\L<=z/\z<=n/\Hid (Gr W wr)) (fun s9 T _=>(intOf T).toNat-(intOf s9).toNat)
 case atStart=>exact⟨0,n,rfl,rfl,vU _,M,vV _,wL _⟩
 case round =>
  obtain⟨C,z,rfl,rfl,h1,h2,h3,E⟩:=hrel;by_cases ak:C<z
  ·obtain⟨y,H⟩:∃y,outs[(C+z) / 2]?=some y:=⟨_,vu (by have:=HN.out;omega)⟩;obtain⟨b,I,rfl,⟨Y,cy,rfl⟩,l,m⟩:=Z.out wr E.out _ y H;have S:=ae.out _ y H;have X:=dJ m;obtain⟨d,hd⟩:=xJ (Rn.cmpOut y x);rw[hd] at X S;have ac:=dJ S;have U0:=fun u=>(l u).1;have U1:=fun u=>(l u).2.1;have U2:=fun u=>(l u).2.2.1;have U3:=fun u=>(l u).2.2.2.1;have U4:=fun u=>(l u).2.2.2.2;have X0:=fun u=>(r.out wr E.out u).1;have X1:=fun u=>(r.out wr E.out u).2.1;have X2:=fun u=>(r.out wr E.out u).2.2.1;have X3:=fun u=>(r.out wr E.out u).2.2.2.1;have X4:=fun u=>(r.out wr E.out u).2.2.2.2;have ai:(C+z) / 2<n:=by omega
   clear H l m S hd;by_cases N:d<0
   ·go_wp2;refine dc (by kernel_rfl) (by kernel_rfl) ?_;repeat (go_big_quiet_step ((rename_i u;go_at_call 50;exact di u (X.out u))))
    refine wpQuiet_nil ?_;intro w9 G;obtain⟨U,rfl⟩:=G;have O:=dJ (E.out.trans U.gr);clear U0 U1 U2 U3 U4 X0 X1 X2 X3 X4;go_wp2;have ah:(C+z) / 2<L:=ac.out.1 N;refine⟨⟨(C+z) / 2+1,z,by rw[show ((C:Int)+(z:Int)) / 2+1=(((C+z) / 2+1:Nat):Int) by omega],rfl,by omega,h2,h3,O⟩,by simp[intOf];omega⟩
   ·have ah:¬(C+z) / 2<L:=fun q=>N (ac.out.2 q);go_wp2;refine dc (by kernel_rfl) (by kernel_rfl) ?_;repeat (go_big_quiet_step ((rename_i u;go_at_call 50;exact di u (X.out u))))
    refine wpQuiet_nil ?_;intro w9 G;obtain⟨U,rfl⟩:=G;have O:=dJ (E.out.trans U.gr);clear U0 U1 U2 U3 U4 X0 X1 X2 X3 X4;go_wp2;refine⟨⟨C,(C+z) / 2,rfl,by rw[show ((C:Int)+(z:Int)) / 2=(((C+z) / 2:Nat):Int) by omega],h1,by omega,by omega,O⟩,by simp[intOf];omega⟩
  ·obtain rfl:C=L:=by omega
   obtain rfl:z=C:=by omega
   by_cases aj:z<n
   ·obtain⟨y,H⟩:∃y,outs[z]?=some y:=⟨_,vu (by have:=HN.out;omega)⟩;obtain⟨b,I,rfl,⟨Y,cy,rfl⟩,l,m⟩:=Z.out wr E.out _ y H;have X:=dJ m;have hz:=Rn.isCmp_out.zero y x;obtain⟨d,hd⟩:=xJ (Rn.cmpOut y x);rw[hd] at X hz
    have Q:Hid (F=decide (d=0)):=by
     show _=_;rw[<-aa.out,H];simp[hz]
    have U0:=fun u=>(l u).1;have U1:=fun u=>(l u).2.1;have U2:=fun u=>(l u).2.2.1;have U3:=fun u=>(l u).2.2.2.1;have U4:=fun u=>(l u).2.2.2.2;have X0:=fun u=>(r.out wr E.out u).1;have X1:=fun u=>(r.out wr E.out u).2.1;have X2:=fun u=>(r.out wr E.out u).2.2.1;have X3:=fun u=>(r.out wr E.out u).2.2.2.1;have X4:=fun u=>(r.out wr E.out u).2.2.2.2;clear H l m hz hd;by_cases h0:d=0
    all_goals
     go_wp2;refine dc (by kernel_rfl) (by kernel_rfl) ?_;repeat (go_big_quiet_step ((rename_i u;go_at_call 50;exact di u (X.out u))))
     refine wpQuiet_nil ?_;intro w9 G;obtain⟨U,rfl⟩:=G;have O:=dJ (ab.out.trans (E.out.trans U.gr));clear U0 U1 U2 U3 U4 X0 X1 X2 X3 X4;go_wp2;go_ret2;refine⟨?_,O.out⟩;rw[Q.out];simp[h0]
   ·have Q:Hid (F=false):=by
     show _=_;rw[<-aa.out,vP (by have:=HN.out;omega)];simp
    go_wp2;refine dc (by kernel_rfl) (by kernel_rfl) ?_;repeat (go_big_quiet_step (fail))
    refine wpQuiet_nil ?_;intro w9 G;obtain⟨U,rfl⟩:=G;have O:=dJ (ab.out.trans (E.out.trans U.gr));go_wp2;go_ret2;refine⟨?_,O.out⟩;rw[Q.out];rfl
end
end Go.Proofs.YthfhamagopbgcaaGreat

/- Parts. -/
import Derived.Laws.CopyRow
import Derived.Lib.AppendZeros
import Derived.Lib.Overlaps
import Derived.Laws.Externs
import Derived.Shelf.Spec.SlicesInsertGrow
import Derived.Test.YtjkajidbdmbbaaaGreatI43
set_option linter.unusedSimpArgs false
set_option linter.unusedVariables false
set_option maxRecDepth 100000
set_option maxHeartbeats 16000000
open Go.Proofs.Tryz
namespace Go.Proofs.YtjkajidbdmbbaaaGreat
section
open Go.RowKit
theorem dU {P:Program}(w:World)(dT sT ty elem:TypeId)(g o dLen dCap:Nat)(a:Addr)(sLen sCap size:Nat)(cur:Array Value)(t:TypeId)(cs:List Value)
  (hu:P.underlying dT=some (.slice elem)) (hs:(P.info? elem).map (·.size)=some size)
  (hg:w.heap[g]?=some (.cells cur t (0,0))) (hn:cs.length=Nat.min sLen dLen*size)
  (hsrc:∀j v,cs[j]?=some v->w.cell? (a.add j)=some v) (hfit:o+cs.length<=cur.size) (h1:∀v∈cs,v.oneCell'=true) :
  (Builtin.copy_ #[dT,sT] ty #[.slice (some ⟨g,o,none⟩) dLen dCap,.slice (some a) sLen sCap]).run P w =
   .ok (goInt (Nat.min sLen dLen)) (w.setRow g (cur.toList.take o++cs++cur.toList.drop (o+cs.length)).toArray):=by
 have l:=run_loadCells_list (P:=P) w a cs hsrc;have d:=run_storeCells_at P g o t cs 0 cur w hg (by simpa using hfit) h1
 cases hq:P.info? elem with
 | none=>simp[hq]at hs
 | some i =>
  have m:i.size=size:=by simpa[hq] using hs
  rw[hn]at l;simp[Builtin.copy_,run_underlying hu,Builtin.lenOf,Builtin.firstCells,sizeOf,typeInfo,hq,m,l,d]
theorem iJ:(prog.info? 27).map (fun i=>(i.zero,i.size,i.bytes))=some (some (.agg #[.int .i64 0,.bool false,.int .i64 0,.int .u32 0,.slice none 0 0]),5,56):=by kernel_rfl
theorem qQ {B vb n:Nat}{v:Value}{xs ys:List Value}{w:World}(h:w.ownsRow B 27 5 v n xs)(hB:B<=w.heap.size)(hn:n<=1000)(hy:ys.length=5)(hyc:∀j u,ys[j]?=some u->w.cell? ⟨vb,j,none⟩=some u)(h1:∀y∈ys,y.oneCell'=true) :
  Calls prog 83 #[v,.int .i64 n,.slice (some ⟨vb,0,none⟩) 1 1] w fun e w'=>∃A c,e=.returned (.slice A (n+1) c)/\w'.ownsRow B 27 5 (.slice A (n+1) c) (n+1) (xs++ys)/\w.grownBy w' v.ownBlock/\∀k,(Value.slice A (n+1) c).ownBlock=some k->v.ownBlock=some k\/w.heap.size<=k:=by
 obtain⟨N,t,z,C,D⟩:=info_parts iJ;obtain⟨A,c,rfl,X,-,R⟩:=dE h;have p:Src w (.slice (some ⟨vb,0,none⟩) 1 1) 5 1 ys:=⟨_,_,rfl,by omega,fun _=>⟨_,rfl,fun j x hx=>by rw[dZ,Nat.zero_add];exact hyc j x hx⟩⟩
 have S:c<=9223372036854775807:=by
  rcases h.2 with ⟨e,-⟩|⟨g,H,I,e,-,-,-,Q,-⟩
  ·injection e with _ _ e;omega
  ·injection e with _ _ e;unfold maxLen at Q;omega
 have F:=dJ h;have M:=dJ p;have L:=dJ h1;clear h p hyc R h1 hy
 cases A with
 | none =>
  obtain rfl:n=0:=by
   rcases F.out.2 with ⟨-,e⟩|⟨g,H,I,e,-⟩
   ·exact e
   ·cases e
  go_enter func83, ntmps83
  go_wp2_with (at_builtin;refine dB rfl (.tmp 23) (.tmp 24) 31 rfl B 27 N _ 5 56 underlying31 t z C D rfl (by decide) _ 0 _ rfl F.out _ 1 ys rfl M.out L.out (by unfold maxLen;omega) (by omega) hB ?_;intro T w' l r d;obtain⟨E,G,rfl,K,-,J⟩:=dE l);go_ret;exact⟨E,G,rfl,l,r,fun k m=>d.elim (fun q=>.inl (q ▸ m)) (fun q=>.inr (by rw[q]at m;injection m with m;omega))⟩
 | some a =>
  obtain⟨U,W,O⟩:=a
  go_enter func83, ntmps83
  go_wp2_with (at_builtin;refine dB rfl (.tmp 23) (.tmp 24) 31 rfl B 27 N _ 5 56 underlying31 t z C D rfl (by decide) _ n _ rfl F.out _ 1 ys rfl M.out L.out (by unfold maxLen;omega) (by omega) hB ?_;intro T w' l r d;obtain⟨E,G,rfl,K,-,J⟩:=dE l);all_goals go_ret
  all_goals exact⟨E,G,rfl,l,r,fun k m=>d.elim (fun q=>.inl (q ▸ m)) (fun q=>.inr (by rw[q]at m;injection m with m;omega))⟩
theorem eA {w:World}{g:Nat}{cur row:Array Value}{t:TypeId}{fr:Nat × Nat}(h:w.heap[g]?=some (.cells cur t fr)):(w.setRow g row).heap[g]?=some (.cells row t fr):=setRow_heap w g cur row t fr h
theorem mH {w:World}{g k:Nat}{row:Array Value}(h:k≠g):(w.setRow g row).heap[k]?=w.heap[k]?:=by unfold World.setRow;simp[Array.getElem?_modify,Ne.symm h]
theorem kZ (w:World)(g:Nat)(row:Array Value):(w.setRow g row).heap.size=w.heap.size:=by unfold World.setRow;simp
theorem FrS.setRow {S:Nat->Prop}{w a:World}(h:FrS S w a){g:Nat}(hg:S g)(row:Array Value):FrS S w (a.setRow g row) :=
 ⟨h.os,h.tape,h.output,by rw[kZ];exact h.size,fun k j d=>(mH (fun e=>d (by rw[e];exact hg))).trans (h.block k j d)⟩
def dz (L:List Value)(o:Nat)(cs:List Value):List Value:=L.take o++cs++L.drop (o+cs.length)
theorem eR {L cs:List Value}{o:Nat}(h:o+cs.length<=L.length):(dz L o cs).length=L.length:=by unfold dz;simp;omega
theorem jQ {L xs ys:List Value}{n i:Nat}(hL:L.take (n*5)=xs)(hx:xs.length=n*5)(hi:i<=n)(hy:ys.length=5)(hLn:(n+1)*5<=L.length) :
  (dz (dz L ((i+1)*5) (xs.drop (i*5))) (i*5) ys).take ((n+1)*5)=xs.take (i*5)++ys++xs.drop (i*5):=by
 have m:(xs.drop (i*5)).length=(n-i)*5:=by rw[List.length_drop,hx];omega
 have j:(L.take ((i+1)*5)).length=(i+1)*5:=by rw[List.length_take];omega
 have d:(dz L ((i+1)*5) (xs.drop (i*5))).take (i*5)=xs.take (i*5):=by unfold dz;rw[List.append_assoc,List.take_append_of_le_length (by omega),List.take_take,<-hL,List.take_take];congr 1;omega
 have g:(dz L ((i+1)*5) (xs.drop (i*5))).drop (i*5+5)=xs.drop (i*5)++L.drop ((i+1)*5+(xs.drop (i*5)).length):=by unfold dz;rw[List.append_assoc,List.drop_append_of_le_length (by omega),show i*5+5=(i+1)*5 by omega];rw[tq (by omega)];rfl
 have l:(xs.take (i*5)).length=i*5:=by rw[List.length_take];omega
 show ((dz L ((i+1)*5) (xs.drop (i*5))).take (i*5)++ys++(dz L ((i+1)*5) (xs.drop (i*5))).drop (i*5+ys.length)).take ((n+1)*5)=_;rw[hy,d,g,<-List.append_assoc,List.take_append_of_le_length (by simp;omega)];exact tm (by simp;omega)
theorem lf {L xs ys:List Value}{n i:Nat}(hL:L.take (i*5)=xs.take (i*5))(hx:xs.length=n*5)(hi:i<=n)(hy:ys.length=5)(hLn:(n+1)*5<=L.length) :
  (dz (dz L (i*5) ys) ((i+1)*5) (xs.drop (i*5))).take ((n+1)*5)=xs.take (i*5)++ys++xs.drop (i*5):=by
 have l:(xs.drop (i*5)).length=(n-i)*5:=by rw[List.length_drop,hx];omega
 have g:(L.take (i*5)).length=i*5:=by rw[List.length_take];omega
 have d:(dz L (i*5) ys).take ((i+1)*5)=xs.take (i*5)++ys:=by unfold dz;rw[List.take_append_of_le_length (by simp;omega),hL];exact tm (by rw[<-hL];simp;omega)
 have j:(xs.take (i*5)).length=i*5:=by rw[List.length_take];omega
 show ((dz L (i*5) ys).take ((i+1)*5)++xs.drop (i*5)++(dz L (i*5) ys).drop ((i+1)*5+(xs.drop (i*5)).length)).take ((n+1)*5)=_;rw[d,List.take_append_of_le_length (by simp;omega)];exact tm (by simp;omega)
theorem ij:(prog.info? 33).map (fun i=>(i.zero,i.size,i.bytes))=some (some (.slice none 0 0),1,24):=by kernel_rfl
def RowOf (B:Nat)(e:TypeId)(w:World)(v:Value)(ys:List Value):Prop:=∃A c,v=.slice A ys.length c/\ys.length<=c/\(0<ys.length->Own1 B e w v ys)
section
variable {P:Program}{w:World}
end
section
variable {w w':World}{B:Nat}{e:TypeId}{v:Value}{ys:List Value}
theorem RowOf.same (h:RowOf B e w v ys)(hw:∀(k:Nat)(cur:Array Value),B<=k->w.heap[k]?=some (.cells cur e (0,0))->w'.heap[k]?=w.heap[k]?):RowOf B e w' v ys:=by obtain⟨A,c,rfl,j,d⟩:=h;refine⟨A,c,rfl,j,fun g=>dh (d g) fun k hk=>?_⟩;obtain⟨l,-,cur,m⟩:=de (d g) hk;exact hw k cur l m
theorem RowOf.less {B':Nat}(h:RowOf B e w v ys)(hB:B'<=B):RowOf B' e w v ys:=by obtain⟨A,c,rfl,p,q⟩:=h;refine⟨A,c,rfl,p,fun t=>?_⟩;obtain⟨u,y⟩:=q t;refine⟨u,y.elim .inl fun⟨g,d,j,l,m,r⟩=>.inr ⟨g,d,j,l,Nat.le_trans hB m,r⟩⟩
theorem RowOf.sl {n:Nat}(h:RowOf B e w v ys)(hl:ys.length=n)(hn:n<=17592186044416):SlAt w.heap.size v n fun b off=>∀j z,ys[j]?=some z->w.cell? ⟨b,off+j,none⟩=some z:=by subst hl;obtain⟨A,c,rfl,l,m⟩:=h;refine⟨A,c,rfl,l,hn,fun d=>?_⟩;obtain⟨b,rfl,p,-,q⟩:=dq (m d) rfl d;exact⟨b,0,rfl,p,fun j z g=>by rw[Nat.zero_add,q j (by have:=(sR.1 g).1;omega)];exact g⟩
theorem RowOf.ints {zs:List Int}(h:RowOf B e w v (zs.map (Value.int .i64)))(hn:zs.length<=17592186044416):IntsAt w.heap.size w v zs :=
 SlAt.imp (h.sl (tt _) hn) fun b off _ d j z g=>d j _ (by rw[td,g];rfl)
theorem RowOf.u32 {zs:List Int}(h:RowOf B e w v (zs.map (Value.int .u32)))(hn:zs.length<=17592186044416):U32At w.heap.size w v zs :=
 SlAt.imp (h.sl (tt _) hn) fun b off _ d j z g=>d j _ (by rw[td,g];rfl)
theorem Src.u32 {u:Value}{zs:List Int}(h:U32At B w u zs):Src w u 1 zs.length (zs.map (Value.int .u32)):=by obtain⟨A,c,rfl,_,_,g⟩:=h;refine⟨A,c,rfl,by simp,fun m=>?_⟩;obtain⟨b,off,rfl,_,l⟩:=g m;refine⟨_,rfl,fun j x d=>?_⟩;rw[td]at d;obtain⟨z,p,rfl⟩:=Option.map_eq_some_iff.1 d;rw[dZ];exact l j z p
end
structure CS (Bo:Nat)(W w:World)(va:Value)(mem:List (List Int))(k:Nat)(us:List Value)(A8:Option Addr)(c8:Nat):Prop where
 fr:FrS (·=Bo) W w
 st:w.heap[Bo]?=some (.cells #[va,.slice A8 k c8] 41 (0,0))
 len:us.length=k
 own:Own1 (Bo+1) 33 w (.slice A8 k c8) us
 rows:∀(j:Nat)(u:Value)(l:List Int),us[j]?=some u->mem[j]?=some l->RowOf (Bo+1) 3 w u (l.map (Value.int .i64))
section
variable {Bo k c8 c2:Nat}{W w w1 w2:World}{va:Value}{mem:List (List Int)}{us:List Value}{A8 A2:Option Addr}{tmp:Obj}{u:Value}{l:List Int}
theorem CS.grow (hW:W.heap.size=Bo+1)(h:CS Bo W w va mem k us A8 c8)(g:Gr w w1):CS Bo W w1 va mem k us A8 c8 where
 fr:=h.fr.trans (FrS.of_gr g)
 st:=(g.heap _ (cX h.st)).trans h.st
 len:=h.len
 own:=h.own.gr g
 rows:=fun j u l d m=>(h.rows j u l d m).same fun q cur _ hq=>g.heap _ (cX hq)
theorem CS.push (hW:W.heap.size=Bo+1)(h:CS Bo W w va mem k us A8 c8)(hl:mem[k]?=some l)(g1:Gr w w1)(hu:RowOf w.heap.size 3 w1 u (l.map (Value.int .i64)))(hg:(w1.alloc tmp).grownBy w2 (Value.slice A8 k c8).ownBlock)(ho2:Own1 (Bo+1) 33 w2 (.slice A2 (k+1) c2) (us++[u])) :
  (w2.cell? ⟨Bo,1,none⟩=some (.slice A8 k c8)/\w2.frozen? ⟨Bo,1,none⟩=false)/\CS Bo W (w2.setCell ⟨Bo,1,none⟩ (.slice A2 (k+1) c2)) va mem (k+1) (us++[u]) A2 c2:=by
 have y:=h.own.gr g1;have A:FrS (fun q=>(Value.slice A8 k c8).ownBlock=some q) w1 w2:=((FrS.refl _ w1).alloc tmp).grown hg (fun q d=>.inl d);have I:w.heap.size<=w1.heap.size:=g1.size;have H:W.heap.size<=w.heap.size:=h.fr.size;have B:=(g1.heap _ (cX h.st)).trans h.st;have C:w2.heap[Bo]?=some (.cells #[va,.slice A8 k c8] 41 (0,0)):=(A.block _ (cX B) (fun q=>by have:=(de y q).1;omega)).trans B;have G:FrS (fun q=>(Value.slice A8 k c8).ownBlock=some q\/q=Bo) w1 (w2.setCell ⟨Bo,1,none⟩ (.slice A2 (k+1) c2)):=(A.mono fun q d=>.inl d).setCell (p:=⟨Bo,1,none⟩) (.inr rfl) _
 have r:∀(q:Nat)(t:Array Value),Bo+1<=q->w1.heap[q]?=some (.cells t 3 (0,0))->(w2.setCell ⟨Bo,1,none⟩ (.slice A2 (k+1) c2)).heap[q]?=w1.heap[q]?:=fun q t d hc=>G.block _ (cX hc) (by
   rintro (e|e)
   · obtain⟨-,-,F,E⟩:=de y e
     exact df hc E (by decide) rfl
   · omega)
 refine⟨⟨tv _ _ 1 _ _ _ C,tx _ _ 1 _ _ C⟩,?_,?_,by simp[h.len],dh ho2 fun q d=>tH _ _ _ _ (by have:=(de ho2 d).1;show q≠Bo;omega),fun j v m g z=>?_⟩
 ·refine FrS.weaken (S:=fun q=>q=Bo\/W.heap.size<=q) ((h.fr.mono fun q d=>.inl d).trans ((FrS.of_gr g1).trans (G.mono fun q d=>?_))) fun q d e=>e.elim (fun e=>e) (fun e=>by omega);rcases d with e|e
  ·right;have:=(de y e).1;omega
  ·exact .inl e
 ·have:=cY (i:=1) (.slice A2 (k+1) c2) C;exact this
 ·rcases tF j us.length with D|D
  ·rw[te D]at g;exact((h.rows j v m g z).same fun q t _ d=>g1.heap _ (cX d)).same r
  ·rw[tj D]at g
   obtain rfl:j=us.length:=by
    rcases tF us.length j with q|q
    ·rw[tp (by simp;omega)]at g;cases g
    ·omega
   rw[Nat.sub_self]at g;simp at g;subst g;rw[h.len,hl]at z;injection z with z;subst z;exact(hu.less (by omega)).same r
theorem qr (hlen:us.length=mem.length)(hown:Own1 (Bo+1) 33 w (.slice A8 mem.length c8) us)(hrows:∀(j:Nat)(u:Value)(l:List Int),us[j]?=some u->mem[j]?=some l->RowOf (Bo+1) 3 w u (l.map (Value.int .i64)))(hm:mem.length<=1000)(hr:∀l∈mem,l.length<=1000):TabAt w.heap.size w (.slice A8 mem.length c8) mem:=by
 have m:RowOf (Bo+1) 33 w (.slice A8 mem.length c8) us:=by
  obtain⟨-,hr⟩:=id hown;refine⟨A8,c8,by rw[hlen],?_,fun _=>hown⟩;rcases hr with ⟨e,m⟩|⟨g,q,r,e,-,-,A,-⟩
  ·injection e with _ t y;omega
  ·injection e with _ t y;omega
 refine SlAt.imp (m.sl hlen (by omega)) fun b off _ z j l d=>?_;obtain⟨u,p⟩:∃u,us[j]?=some u:=⟨_,sQ (by have:=(sR.1 d).1;have:=hlen;omega)⟩;exact⟨u,z j u p,(hrows j u l p d).ints (by have:=hr l (sS d);omega)⟩
end
abbrev FBox (B:Nat)(w:World)(f:Fn)(Ap As Ab:Option Addr)(cp cs cb:Nat):Prop :=
 w.cell? ⟨B,0,none⟩=some (.slice Ap f.params.length cp)/\w.cell? ⟨B,1,none⟩=some (.int .i64 f.ret)/\w.cell? ⟨B,2,none⟩=some (.slice As f.slots.length cs)/\w.cell? ⟨B,3,none⟩=some (.slice Ab f.blocks.length cb)
theorem FBox.gr {B:Nat}{w w':World}{f:Fn}{Ap As Ab:Option Addr}{cp cs cb:Nat}(h:FBox B w f Ap As Ab cp cs cb)(hB:B<w.heap.size)(q:Gr w w'):FBox B w' f Ap As Ab cp cs cb :=
 ⟨(q.cell _ _ hB).trans h.1,(q.cell _ _ hB).trans h.2.1,(q.cell _ _ hB).trans h.2.2.1,(q.cell _ _ hB).trans h.2.2.2⟩
theorem FBox.new {B:Nat}{V W:World}{f:Fn}{Ap As Ab:Option Addr}{cp cs cb:Nat}(g:Gr (V.alloc (.cells #[.slice Ap f.params.length cp,.int .i64 f.ret,.slice As f.slots.length cs,.slice Ab f.blocks.length cb] 36)) W)(hB:V.heap.size=B):FBox B W f Ap As Ab cp cs cb :=
 ⟨da _ _ 0 g hB,da _ _ 1 g hB,da _ _ 2 g hB,da _ _ 3 g hB⟩
end

/- Parts. -/
import Derived.Test.YthfjdhanbegaoaaGreatDoorT32
import Derived.Test.YthfjdhanbegaoaaGreatDoorT33
import Derived.Shelf.RegionOpenPlain
set_option linter.unusedSimpArgs false
set_option linter.unusedVariables false
set_option maxRecDepth 100000
set_option maxHeartbeats 16000000
open Go.Proofs.Tryz
namespace Go.Proofs.YthfjdhanbegaoaaGreatDoor
section
open Go.RowKit
structure FrS (S:Nat->Prop)(w w':World):Prop where
 os:w'.os=w.os
 tape:w'.tape=w.tape
 output:w'.output=w.output
 size:w.heap.size<=w'.heap.size
 block:∀k,k<w.heap.size->¬S k->w'.heap[k]?=w.heap[k]?
section
variable {S S':Nat->Prop}{w w' w'' a b:World}
theorem FrS.refl (S:Nat->Prop)(w:World):FrS S w w:=⟨rfl,rfl,rfl,pS _,fun _ _ _=>rfl⟩
theorem FrS.trans (h:FrS S w w')(k:FrS S w' w''):FrS S w w'' :=
 ⟨k.os.trans h.os,k.tape.trans h.tape,k.output.trans h.output,Nat.le_trans h.size k.size,fun j g d=>(k.block j (by have:=h.size;omega) d).trans (h.block j g d)⟩
theorem pU (g:Gr w w'):FrS S w w':=⟨g.os,g.tape,g.output,g.size,fun k d _=>g.heap k d⟩
theorem FrS.mono (h:FrS S w w')(hs:∀k,S k->S' k):FrS S' w w':=⟨h.os,h.tape,h.output,h.size,fun k d g=>h.block k d fun q=>g (hs k q)⟩
theorem FrS.below {n:Nat}(h:FrS S w w')(hS:∀k,S k->n<=k)(hn:n<=w.heap.size):Below n w w':=⟨h.os,h.tape,h.output,h.size,fun k d=>h.block k (by omega) fun q=>by have:=hS k q;omega⟩
theorem FrS.setCell (h:FrS S w a){p:Addr}(hp:S p.block)(u:Value):FrS S w (a.setCell p u) :=
 ⟨h.os,h.tape,h.output,by have:=h.size;simp;omega,fun k g d=>(RowKit.Below.heap_setCell _ _ _ _ (fun e=>d (by rw[e];exact hp))).trans (h.block k g d)⟩
theorem FrS.alloc (h:FrS S w a)(o:Obj):FrS S w (a.alloc o):=h.trans (pU ((qj a).alloc o))
theorem FrS.drewN (h:FrS S w a)(n:Nat):FrS S w (a.drewN n):=⟨h.os,h.tape,h.output,h.size,h.block⟩
theorem FrS.drew (h:FrS S w a):FrS S w a.drew:=⟨h.os,h.tape,h.output,h.size,h.block⟩
end
theorem pV {S S':Nat->Prop}{w w':World}(h:FrS S w w')(hs:∀k,k<w.heap.size->S k->S' k):FrS S' w w':=⟨h.os,h.tape,h.output,h.size,fun k d g=>h.block k d fun q=>g (hs k d q)⟩
theorem FrS.grown {S:Nat->Prop}{w a b:World}{row:Option Nat}(h:FrS S w a)(g:a.grownBy b row)(hr:∀k,row=some k->S k\/w.heap.size<=k):FrS S w b :=
 ⟨g.os.trans h.os,g.tape.trans h.tape,g.output.trans h.output,Nat.le_trans h.size g.size,fun k j d=>(g.block k (by have:=h.size;omega) (fun e=>by
   rcases hr k e.symm with q|q
   · exact d q
   · omega)).trans (h.block k j d)⟩
theorem gN {S:Nat->Prop}{w a b:World}(g:Gr w a)(h:FrS S a b)(hS:∀k,S k->w.heap.size<=k):Gr w b :=
 ⟨h.os.trans g.os,h.tape.trans g.tape,h.output.trans g.output,Nat.le_trans g.size h.size,fun k d=>(h.block k (by have:=g.size;omega) (fun q=>by have:=hS k q;omega)).trans (g.heap k d)⟩
theorem dh {w:World}{k:Nat}{o:Obj}(h:w.heap[k]?=some o):k<w.heap.size:=(pf.1 h).1
theorem dE {B:Nat}{e:TypeId}{w:World}{v:Value}{xs:List Value}(h:Own1 B e w v xs){k:Nat}(hk:v.ownBlock=some k):B<=k/\k<w.heap.size/\∃cur,w.heap[k]?=some (.cells cur e (0,0)):=by
 rcases h.2 with ⟨rfl,_⟩|⟨g,j,cur,rfl,l,d,_⟩
 ·simp[Value.ownBlock]at hk
 ·simp[Value.ownBlock]at hk;subst hk;exact⟨l,dh d,cur,d⟩
theorem el {B:Nat}{e:TypeId}{w w':World}{v:Value}{xs:List Value}(h:Own1 B e w v xs)(hw:∀k,v.ownBlock=some k->w'.heap[k]?=w.heap[k]?):Own1 B e w' v xs:=by
 obtain⟨m,j⟩:=h;refine⟨m,?_⟩;rcases j with j|⟨k,d,g,l,p,q,r⟩
 ·exact .inl j
 ·exact .inr ⟨k,d,g,l,p,(hw k (by rw[l];rfl)).trans q,r⟩
theorem nN {P:Program}{w:World}{ops:Array Oper}{rest:List Oper}{o:Oper}{a:Act}{Q:Exit->Act->World->Prop}{B n:Nat}{t e:TypeId}{i:TypeInfo}{z:Value}{bytes:Nat}
  (ht:P.underlying t=some (.slice e)) (hi:P.info? e=some i) (hz:i.zero=some z) (hsize:i.size=1) (hby:i.bytes=bytes) (hzs:z.cells.size=1) (hbb:bytes<=128)
  (hgd:o.guard=none) (s x:Operand) (ho:o.op=.call {callee:=.builtin .append,args:=#[s,x],argTypes:=#[t,t]})
  {v:Value} {xs:List Value} (hn:xs.length=n) (hs:a.eval s=v) (hown:Own1 B e w v xs) {y:Value} {e':TypeId} (hy:y.oneCell'=true) (hx:a.eval x=.slice (some ⟨w.heap.size,0,none⟩) 1 1) (hlt:n<1099511627776) (hB:B<=w.heap.size)
  (h:∀A c w',Own1 B e w' (.slice A (n+1) c) (xs++[y])->(w.alloc (.cells #[y] e')).grownBy w' v.ownBlock->(∀k,(Value.slice A (n+1) c).ownBlock=some k->v.ownBlock=some k\/w.heap.size<=k)->wpList P ops Q rest (a.put o.dst (.slice A (n+1) c)) w') :
  wpList P ops Q (o::rest) a (w.alloc (.cells #[y] e')):=by
 subst hn;refine dL hgd s x t ho B e i z 1 bytes ht hi hz hsize hby hzs (by omega) v xs.length xs hs (eT hown ((qj _).alloc _)) _ 1 [y] hx (qk _ _ _) ?_ ?_ ?_ ?_ ?_
 ·intro u m;simp at m;subst m;exact hy
 ·simp only[maxLen];omega
 ·have:(xs.length+1)*bytes<=(xs.length+1)*128:=Nat.mul_le_mul_left _ hbb;omega
 ·simp;omega
 ·intro D w' g r l;have d:Own1 B e w' D (xs++[y]):=by unfold Own1;rw[pT];exact g
  obtain⟨A,c,p⟩:=d.form;rw[pT]at p;subst p;refine h A c w' d r fun k j=>?_;rcases l with q|q
  ·exact .inl (q ▸ j)
  ·have C:(Value.slice A (xs.length+1) c).ownBlock=some (w.alloc (.cells #[y] e')).heap.size:=q;rw[C]at j;injection j with j;right;rw[<-j];simp
theorem eo {P:Program}{w:World}{ops:Array Oper}{o:Oper}{a:Act}{K:Act->World->Prop}{Q:Exit->Act->World->Prop}{F:Prop}{B n:Nat}{t e:TypeId}{i:TypeInfo}{z:Value}{bytes:Nat}
  (ht:P.underlying t=some (.slice e)) (hi:P.info? e=some i) (hz:i.zero=some z) (hsize:i.size=1) (hby:i.bytes=bytes) (hzs:z.cells.size=1) (hbb:bytes<=128)
  (hgd:o.guard=none) (s x:Operand) (ho:o.op=.call {callee:=.builtin .append,args:=#[s,x],argTypes:=#[t,t]})
  {v:Value} {xs:List Value} (hn:xs.length=n) (hs:a.eval s=v) (hown:Own1 B e w v xs) {y:Value} {e':TypeId} (hy:y.oneCell'=true) (hx:a.eval x=.slice (some ⟨w.heap.size,0,none⟩) 1 1) (hlt:n<1099511627776) (hB:B<=w.heap.size)
  (h:∀A c w',Own1 B e w' (.slice A (n+1) c) (xs++[y])->(w.alloc (.cells #[y] e')).grownBy w' v.ownBlock->(∀k,(Value.slice A (n+1) c).ownBlock=some k->v.ownBlock=some k\/w.heap.size<=k)->K (a.put o.dst (.slice A (n+1) c)) w') :
  if Region.wanted o (yielded ops a.tmps)=true then Oper.wp P o a (w.alloc (.cells #[y] e')) K Q else F:=by
 have C:Region.wanted o (yielded ops a.tmps)=true:=by simp[Region.wanted,hgd]
 rw[pB C];subst hn;refine dT s x t ho B e i z 1 bytes ht hi hz hsize hby hzs (by omega) v xs.length xs hs (eT hown ((qj _).alloc _)) _ 1 [y] hx (qk _ _ _) ?_ ?_ ?_ ?_ ?_
 ·intro u m;simp at m;subst m;exact hy
 ·simp only[maxLen];omega
 ·have:(xs.length+1)*bytes<=(xs.length+1)*128:=Nat.mul_le_mul_left _ hbb;omega
 ·simp;omega
 ·intro E w' g r l;have d:Own1 B e w' E (xs++[y]):=by unfold Own1;rw[pT];exact g
  obtain⟨A,c,p⟩:=d.form;rw[pT]at p;subst p;refine h A c w' d r fun k j=>?_;rcases l with q|q
  ·exact .inl (q ▸ j)
  ·have D:(Value.slice A (xs.length+1) c).ownBlock=some (w.alloc (.cells #[y] e')).heap.size:=q;rw[D]at j;injection j with j;right;rw[<-j];simp
theorem dY {P:Program}{w:World}{ops:Array Oper}{o:Oper}{a:Act}{K:Act->World->Prop}{Q:Exit->Act->World->Prop}{F:Prop}{f:FuncId}{args:Array Value}
  (hg:o.guard=none) (hr:(execOp a.eval o).run P w=.ok (.enter f args) w) (hc:Calls P f args w fun e w'=>∃v,e=.returned v/\K (a.put o.dst v) w') :
  if Region.wanted o (yielded ops a.tmps)=true then Oper.wp P o a w K Q else F:=by
 have j:Region.wanted o (yielded ops a.tmps)=true:=by simp[Region.wanted,hg]
 rw[pB j];unfold Oper.wp;rw[hr];exact hc.mono fun e w' ⟨v,d,g⟩=>by subst d;exact g
theorem dH (fn:Func)(tmps:Array Value)(t s:Nat)(w:World)(B:Nat)(v0 v1 v2 v3:Value)(E:Int)(fr:Nat × Nat)(h:fn.results=#[.cell t 25,.tmp s])(ht:tmps[t]?.getD undef=.pointer (some ⟨B,0,none⟩))(hs:tmps[s]?.getD undef=.int .i64 E)(hb:w.heap[B]?=some (.cells #[v0,v1,v2,v3] 25 fr))
  (o0:∃a n c,v0=.slice a n c) (o1:∃z,v1=.int .i64 z) (o2:∃a n c,v2=.slice a n c) (o3:∃a n c,v3=.slice a n c) :
  (results fn tmps).run prog w=.ok (.tuple #[.agg #[v0,v1,v2,v3],.int .i64 E]) w:=by
 obtain⟨d,g,j,l⟩:=crw4 hb 0 1 2 3;obtain⟨a0,r,m,rfl⟩:=o0;obtain⟨A,rfl⟩:=o1;obtain⟨a2,u,p,rfl⟩:=o2;obtain⟨a3,y,q,rfl⟩:=o3;simp[results,h,ht,hs,go_sem,d,g,j,l]
theorem jL (fn:Func)(tmps:Array Value)(t s:Nat)(w:World)(B:Nat)(v0 v1 v2 v3:Value)(E:Bool)(fr:Nat × Nat)(h:fn.results=#[.cell t 25,.tmp s])(ht:tmps[t]?.getD undef=.pointer (some ⟨B,0,none⟩))(hs:tmps[s]?.getD undef=.bool E)(hb:w.heap[B]?=some (.cells #[v0,v1,v2,v3] 25 fr))
  (o0:∃a n c,v0=.slice a n c) (o1:∃z,v1=.int .i64 z) (o2:∃a n c,v2=.slice a n c) (o3:∃a n c,v3=.slice a n c) :
  (results fn tmps).run prog w=.ok (.tuple #[.agg #[v0,v1,v2,v3],.bool E]) w:=by
 obtain⟨d,g,j,l⟩:=crw4 hb 0 1 2 3;obtain⟨a0,r,m,rfl⟩:=o0;obtain⟨A,rfl⟩:=o1;obtain⟨a2,u,p,rfl⟩:=o2;obtain⟨a3,y,q,rfl⟩:=o3;simp[results,h,ht,hs,go_sem,d,g,j,l]
theorem nO (ws:List Int)(z:Int):dF (ws++[z])=dF ws++[.int .i64 z]:=by unfold dF;rw[List.map_append];rfl
theorem dM (ws:List Int):(dF ws).length=ws.length:=pv _
structure Bx (S:Nat->Prop)(W1 wr:World)(Bh:Nat)(T:TypeId)(row:Array Value)(v1:Value)(l1:List Int)(v2:Value)(l2:List Int):Prop where
 fr:FrS (fun k=>k=Bh\/S k) W1 wr
 lt:Bh<W1.heap.size
 box:wr.heap[Bh]?=some (.cells row T (0,0))
 o1:Own1 W1.heap.size 3 wr v1 (dF l1)
 o2:Own1 W1.heap.size 3 wr v2 (dF l2)
 ap:∀k,v1.ownBlock=some k->v2.ownBlock≠some k
section
variable {S:Nat->Prop}{W1 wr w2 w7:World}{Bh:Nat}{T:TypeId}{row row':Array Value}{v1 v1' v2:Value}{l1 l2:List Int}{z:Int}{tmp:Obj}
theorem Bx.swap (h:Bx S W1 wr Bh T row v1 l1 v2 l2):Bx S W1 wr Bh T row v2 l2 v1 l1:=⟨h.fr,h.lt,h.box,h.o2,h.o1,fun k d e=>h.ap k e d⟩
theorem Bx.step (h:Bx S W1 wr Bh T row v1 l1 v2 l2)(hF:FrS S wr w2)(hS:∀k,S k->k<W1.heap.size/\k≠Bh):Bx S W1 w2 Bh T row v1 l1 v2 l2:=by
 have d:∀{v:Value} {l:List Int},Own1 W1.heap.size 3 wr v (dF l)->Own1 W1.heap.size 3 w2 v (dF l):=fun q=>el q fun k hk=>by obtain⟨b1,b2,-⟩:=dE q hk;exact hF.block k b2 fun s=>by have:=(hS k s).1;omega
 exact⟨h.fr.trans (hF.mono fun k q=>.inr q),h.lt,(hF.block _ (dh h.box) fun s=>(hS _ s).2 rfl).trans h.box,d h.o1,d h.o2,h.ap⟩
theorem Bx.gr (h:Bx S W1 wr Bh T row v1 l1 v2 l2)(g:Gr wr w2):Bx S W1 w2 Bh T row v1 l1 v2 l2 :=
 ⟨h.fr.trans (pU g),h.lt,(g.heap _ (dh h.box)).trans h.box,h.o1.gr g,h.o2.gr g,h.ap⟩
theorem Bx.put (h:Bx S W1 wr Bh T row v1 l1 v2 l2)(i:Nat)(u:Value)(hr:row.setIfInBounds i u=row'):Bx S W1 (wr.setCell ⟨Bh,i,none⟩ u) Bh T row' v1 l1 v2 l2:=by
 have d:∀{v:Value} {l:List Int},Own1 W1.heap.size 3 wr v (dF l)->Own1 W1.heap.size 3 (wr.setCell ⟨Bh,i,none⟩ u) v (dF l):=fun q=>el q fun k hk=>by obtain⟨b1,-,-⟩:=dE q hk;exact Below.heap_setCell _ _ _ _ (by have:=h.lt;show k≠Bh;omega)
 exact⟨h.fr.setCell (p:=⟨Bh,i,none⟩) (.inl rfl) u,h.lt,by have:=de (i:=i) u h.box;rw[hr]at this;exact this,d h.o1,d h.o2,h.ap⟩
theorem Bx.push (h:Bx S W1 wr Bh T row v1 l1 v2 l2)(g7:Gr wr w7)(ho:Own1 W1.heap.size 3 w2 v1' (dF l1++[.int .i64 z]))(hg:(w7.alloc tmp).grownBy w2 v1.ownBlock)(hat:∀k,v1'.ownBlock=some k->v1.ownBlock=some k\/w7.heap.size<=k)(i:Nat)(hr:row.setIfInBounds i v1'=row') :
  w2.heap[Bh]?=some (.cells row T (0,0))/\Bx S W1 (w2.setCell ⟨Bh,i,none⟩ v1') Bh T row' v1' (l1++[z]) v2 l2:=by
 have d:=h.gr g7;have p:W1.heap.size<=w7.heap.size:=d.fr.size;have j:FrS (fun q=>v1.ownBlock=some q) w7 w2:=((FrS.refl _ w7).alloc tmp).grown hg (fun q hq=>.inl hq);have l:w2.heap[Bh]?=some (.cells row T (0,0)):=(j.block _ (dh d.box) fun e=>by have:=(dE d.o1 e).1;have:=h.lt;omega).trans d.box
 have m:Bx S W1 w2 Bh T row v1' (l1++[z]) v2 l2:=by
  refine⟨pV (S:=fun k=>(k=Bh\/S k)\/W1.heap.size<=k) ((d.fr.mono fun k q=>.inl q).trans (j.mono fun k e=>.inr (dE d.o1 e).1)) fun k g q=>q.elim id fun q=>by omega,h.lt,l,by rw[nO];exact ho,el d.o2 fun k g=>j.block k (dE d.o2 g).2.1 fun e=>h.ap k e g,fun k g e=>?_⟩;rcases hat k g with q|q
  ·exact h.ap k q e
  ·have:=(dE d.o2 e).2.1;omega
 exact⟨l,m.put i v1' hr⟩
end
namespace Tx
theorem headR_len:∀(ws:List S)(p:Nat)(f:Fn),(headR ws p f).params.length<=f.params.length+ws.length/\(headR ws p f).slots.length<=f.slots.length+ws.length
 | [],p,f=>⟨by simp[headR],by simp[headR]⟩
 | w::r,p,f=>by
  unfold headR
  split
  ·have:=headR_len r (p+1) f;simp only[List.length_cons];omega
  split
  ·have:=headR_len r p {f with params:=f.params++[numR w]};simp only[List.length_cons,pT,List.length_nil]at *;omega
  split
  ·have:=headR_len r p {f with ret:=numR w};simp only[List.length_cons]at *;omega
  ·have:=headR_len r p {f with slots:=f.slots++[numR w]};simp only[List.length_cons,pT,List.length_nil]at *;omega
end Tx
abbrev dy:Value:=.slice none 0 0
theorem lp (w:World):∃W,(w.alloc (.cells #[dy,.int .i64 0,dy,dy] 25)).alloc (.cells #[dy,.int .i64 0,dy,dy] 25)=W/\Gr w W/\W.heap.size=w.heap.size+2/\W.heap[w.heap.size]?=some (.cells #[dy,.int .i64 0,dy,dy] 25 (0,0))/\W.heap[w.heap.size+1]?=some (.cells #[dy,.int .i64 0,dy,dy] 25 (0,0)):=by
 refine⟨_,rfl,((qj w).alloc _).alloc _,by simp,?_,?_⟩
 ·exact(((qj _).alloc _).heap _ (by simp)).trans (heap_alloc_new w _)
 ·have:=heap_alloc_new (w.alloc (.cells #[dy,.int .i64 0,dy,dy] 25)) (.cells #[dy,.int .i64 0,dy,dy] 25);simpa using this
def od (w w':World)(f:Fn)(e:Ending):Prop :=
 ∃A0 c0 A2 c2,e=.returned (.agg #[.slice A0 f.params.length c0,.int .i64 f.ret,.slice A2 f.slots.length c2,dy])/\Own1 w.heap.size 3 w' (.slice A0 f.params.length c0) (dF f.params)/\Own1 w.heap.size 3 w' (.slice A2 f.slots.length c2) (dF f.slots)/\Gr w w'
theorem jM (s:List UInt8)(hs:s.length<=90000)(w:World) :
  Calls prog 38 #[.string (bs s)] w fun e w'=>od w w' (Tx.headR (Tx.cutS 32 s).tail 0 Tx.fn0) e:=by
 obtain⟨i0,hi,ag,ah,ai⟩:=info_parts lL;have R:Hid ((Tx.cutS 32 s).length<=90001):=dJ (by have:=Tx.cutS_len 32 s;omega);have U:Hid (Tx.cutS 32 s≠[]):=dJ (Tx.cutS_ne 32 s);have T:Hid (∀z∈Tx.cutS 32 s,z.length<=90000):=dJ fun z N=>by have:=Tx.cutS_mem 32 s z N;omega
 have HC:Hid (∀y,Calls prog 37 #[.string (bs s),.int .u8 32] y fun e w'=>∃v,e=.returned v/\Hid (WordsF y.heap.size w' v (Tx.cutS 32 s))/\Gr y w'):=fun y=>eJ 32 32 rfl s hs y;obtain⟨d,af⟩:=xJ (Tx.cutS 32 s);rw[af]at R U T HC ⊢;obtain⟨W,hW,X,ae,ac,ad⟩:=lp w;have HG:=dJ X;have t:=dJ ae;have al:=dJ ac;have am:=dJ ad;clear af hs X ae ac ad
 go_enter func38, ntmps38
 go_wp2_with (go_at_call 37;refine(HC.out _).mono ?_;rintro e y ⟨v,rfl,Q,g1⟩;have G1:=dJ g1;clear g1;obtain⟨A,c,hv,aw,-,-⟩:=id Q.out;subst hv);have ar:W.heap.size<=y.heap.size:=G1.out.size
 have ak:Hid (Bx (fun _=>False) y y (w.heap.size+1) 25 #[dy,.int .i64 0,dy,dy] dy [] dy []):=dJ
  ⟨FrS.refl _ _,by have:=t.out;omega,(G1.out.heap _ (by have:=t.out;omega)).trans am.out,Own1.nil _ _ _,Own1.nil _ _ _,fun k h=>by cases h⟩
 have O:Hid (W.heap.size<=y.heap.size):=dJ ar;have au:1<=d.length:=List.length_pos_iff.2 U.out
 go_loopw [4,6] (fun s4 s6 wr=>∃(k p:Nat)(f:Fn)(B:Option Addr)(E:Nat)(C:Option Addr)(F:Nat),1<=k/\k<=d.length/\s6=.int .i64 k/\s4=.int .i64 (p:Int)/\p<k/\Hid (Tx.headR d.tail 0 Tx.fn0=Tx.headR (d.drop k) p f)/\f.params.length<k/\f.slots.length<k /\
     Hid (Bx (fun _=>False) y wr (w.heap.size+1) 25 #[.slice B f.params.length E,.int .i64 f.ret,.slice C f.slots.length F,dy] (.slice B f.params.length E) f.params (.slice C f.slots.length F) f.slots)) (fun _ i _=>d.length-(intOf i).toNat)
 case atStart=>exact⟨1,0,Tx.fn0,none,0,none,0,pS _,au,rfl,rfl,Nat.zero_lt_one,dJ (by rw[<-List.drop_one]),Nat.zero_lt_one,Nat.zero_lt_one,ak⟩
 case round =>
  obtain⟨k,p,f,B,E,C,F,ax,ay,rfl,rfl,hp,HH,az,aA,j⟩:=hrel;have V:=j.out.box;obtain⟨k0,k1,k2,k3⟩:=crw4 V 0 1 2 3;have ao:Hid (WordsF W.heap.size wr (.slice A d.length c) d):=dJ (Q.out.same j.out.fr.size fun k q1 q2=>j.out.fr.block k q2 (by have:=t.out;rintro (e|e)<;>omega));clear V;by_cases L:k<d.length
  ·have N:=oY L;obtain⟨z,M⟩:=xJ (d[k]);rw[M]at N;obtain⟨b,av,rfl,-,hb,ap⟩:=ao.out.get N;have aj:=T.out z (pa N)
   have hd:d.drop k=z::d.drop (k+1):=by rw[po L,M]
   have HZ:Hid (Tx.headR (d.drop k) p f=if z=[58] then Tx.headR (d.drop (k+1)) (p+1) f else if p=0 then Tx.headR (d.drop (k+1)) p {f with params:=f.params++[Tx.numR z]} else if p=1 then Tx.headR (d.drop (k+1)) p {f with ret:=Tx.numR z} else Tx.headR (d.drop (k+1)) p {f with slots:=f.slots++[Tx.numR z]}):=dJ (by rw[hd];rfl);have aB:=R.out;have z1:(k:Int)<(d.length:Int):=by omega
   have HN:Hid (∀w2,Calls prog 70 #[.string (bs z)] w2 (RS (.int .i64 (Tx.numR z)) w2)):=dJ fun w2=>eK z aj w2;clear N M aj hd;by_cases u:z=[58]
   ·have e1:=iq u;have g:Hid (Tx.headR d.tail 0 Tx.fn0=Tx.headR (d.drop (k+1)) (p+1) f):=dJ (by rw[HH.out,HZ.out,pB u]);clear u;go_wp2;go_roundw;case rel=>exact⟨k+1,p+1,f,B,E,C,F,by omega,by omega,by go_num,by go_num,by omega,g,by omega,by omega,j⟩
    case measure=>simp[intOf]<;>omega
   ·have e1:=gm u;have g:Hid (Tx.headR d.tail 0 Tx.fn0=if p=0 then Tx.headR (d.drop (k+1)) p {f with params:=f.params++[Tx.numR z]} else if p=1 then Tx.headR (d.drop (k+1)) p {f with ret:=Tx.numR z} else Tx.headR (d.drop (k+1)) p {f with slots:=f.slots++[Tx.numR z]}):=dJ (by rw[HH.out,HZ.out,pC u]);obtain⟨m,hm⟩:=xJ (Tx.numR z);rw[hm]at HN g;clear u hm HZ HH;have mixed:(prog).follows .mixedOrders=true:=by kernel_rfl
    have Q0:=fun o=>px (wr.alloc o) _ 0 _ _ _ (j.out.gr ((qj _).alloc o)).box;have Q2:=fun o=>px (wr.alloc o) _ 2 _ _ _ (j.out.gr ((qj _).alloc o)).box;have Qz:∀o,(wr.alloc o).cell? ⟨b,av+k,none⟩=some (.string (bs z)):=fun o=>(((qj wr).alloc o).cell _ _ hb).trans ap;rcases (by omega:p=0\/p=1\/2<=p) with aa|ab|aq
    ·have D:Hid (Tx.headR d.tail 0 Tx.fn0=Tx.headR (d.drop (k+1)) p {f with params:=f.params++[m]}):=dJ (by rw[g.out,pB aa]);have b1:((p:Int) == 0)=true:=by simp;omega
     have Z:(dF f.params).length=f.params.length:=dM _;have K:=dJ Z;clear aa Z g;go_wp2
     go_region_law_o (first|(refine eo (n:=f.params.length) (v:=.slice B f.params.length E) underlying22 hi ag ah ai rfl (by omega) rfl (.tmp 37) (.tmp 43) rfl K.out rfl (j.out.gr (qj wr).drew).o1 rfl rfl (by omega) (by have:=j.out.fr.size;exact this) ?_;intro A5 c5 w5 H G r;have I:=dJ (j.out.push ((qj wr).drew) H G r 0 rfl);have y0:=px _ _ 0 _ _ _ I.out.1;have y1:=pz _ _ 0 _ _ I.out.1;clear H G r)|(refine dY rfl (f:=70) (args:=#[.string (bs z)]) (by simp[go_sem,Act.eval,Act.put]) ((HN.out _).mono ?_);rintro e9 w9 ⟨rfl,rfl⟩;refine⟨_,rfl,?_⟩))
     all_goals go_wp2
     all_goals exact⟨⟨k+1,p,{f with params:=f.params++[m]},A5,c5,C,F,by omega,by omega,by go_num,rfl,by omega,D,by simp only[pT,List.length_singleton];omega,by show f.slots.length<_;omega,dJ (by have q:=I.out.2;simp only[pT,List.length_singleton];exact q)⟩,by simp[intOf]<;>omega⟩
    ·have D:Hid (Tx.headR d.tail 0 Tx.fn0=Tx.headR (d.drop (k+1)) p {f with ret:=m}):=dJ (by rw[g.out,pC (by omega),pB ab]);have b0:((p:Int) == 0)=false:=by simp;omega
     have b1:((p:Int) == 1)=true:=by simp;omega
     have y1:=pz _ _ 1 _ _ j.out.box;have I:Hid (Bx (fun _=>False) y (wr.setCell ⟨w.heap.size+1,1,none⟩ (.int .i64 m)) (w.heap.size+1) 25 #[.slice B f.params.length E,.int .i64 m,.slice C f.slots.length F,dy] (.slice B f.params.length E) f.params (.slice C f.slots.length F) f.slots):=dJ (j.out.put 1 (.int .i64 m) rfl);clear ab g;go_wp2_with (go_at_call 70;refine(HN.out _).mono ?_;rintro e9 w9 ⟨rfl,rfl⟩);go_roundw;case rel=>exact⟨k+1,p,{f with ret:=m},B,E,C,F,by omega,by omega,by go_num,rfl,by omega,D,by show f.params.length<_;omega,by show f.slots.length<_;omega,I⟩
     case measure=>simp[intOf]<;>omega
    ·have D:Hid (Tx.headR d.tail 0 Tx.fn0=Tx.headR (d.drop (k+1)) p {f with slots:=f.slots++[m]}):=dJ (by rw[g.out,pC (by omega),pC (by omega)]);have b0:((p:Int) == 0)=false:=by simp;omega
     have b1:((p:Int) == 1)=false:=by simp;omega
     have K:Hid ((dF f.slots).length=f.slots.length):=dJ (dM _);clear aq g;go_wp2
     go_region_law_o (first|(refine eo (n:=f.slots.length) (v:=.slice C f.slots.length F) underlying22 hi ag ah ai rfl (by omega) rfl (.tmp 16) (.tmp 22) rfl K.out rfl (j.out.gr (qj wr).drew).o2 rfl rfl (by omega) (by have:=j.out.fr.size;exact this) ?_;intro A5 c5 w5 H G r;have I:=dJ (j.out.swap.push ((qj wr).drew) H G r 2 rfl);have y0:=px _ _ 2 _ _ _ I.out.1;have y1:=pz _ _ 2 _ _ I.out.1;clear H G r)|(refine dY rfl (f:=70) (args:=#[.string (bs z)]) (by simp[go_sem,Act.eval,Act.put]) ((HN.out _).mono ?_);rintro e9 w9 ⟨rfl,rfl⟩;refine⟨_,rfl,?_⟩))
     all_goals go_wp2
     all_goals exact⟨⟨k+1,p,{f with slots:=f.slots++[m]},B,E,A5,c5,by omega,by omega,by go_num,rfl,by omega,D,by show f.params.length<_;omega,by simp only[pT,List.length_singleton];omega,dJ (by have q:=I.out.2.swap;simp only[pT,List.length_singleton];exact q)⟩,by simp[intOf]<;>omega⟩
  ·have Y:k=d.length:=by omega
   have hd:decide (k<d.length)=false:=by simpa using L
   have HF:Hid (Tx.headR d.tail 0 Tx.fn0=f):=dJ (by rw[HH.out,Y,List.drop_length];rfl);rw[HF.out];have J:=(j.out.fr.block w.heap.size (by have:=t.out;omega) (by rintro (e|e)<;>omega)).trans ((G1.out.heap _ (by have:=t.out;omega)).trans al.out);obtain⟨r0,r1,r2,r3⟩:=crw4 J 0 1 2 3;obtain⟨f0,f1,f2,f3⟩:=frw4 J 0 1 2 3;have an:=dJ J;clear J Y;go_wp2;refine pA (kH _ _ 2 _ w.heap.size _ _ _ _ _ rfl rfl (dw an.out _ _ _ _) ⟨_,_,_,rfl⟩ ⟨_,rfl⟩ ⟨_,_,_,rfl⟩ ⟨_,_,_,rfl⟩) rfl ?_;rw[HF.out]
   have gz:∀{v:Value} {l:List Int},Own1 y.heap.size 3 wr v (dF l)->Own1 w.heap.size 3 ((((wr.setCell ⟨w.heap.size,0,none⟩ (.slice B f.params.length E)).setCell ⟨w.heap.size,1,none⟩ (.int .i64 f.ret)).setCell ⟨w.heap.size,2,none⟩ (.slice C f.slots.length F)).setCell ⟨w.heap.size,3,none⟩ dy) v (dF l):=fun q=>(el q fun k hk=>by
     have:=(dE q hk).1
     have:=t.out
     have:=O.out
     iterate 4 rw[Below.heap_setCell _ _ _ _ (by show k≠w.heap.size;omega)]).lower (by have:=t.out;have:=O.out;omega)
   refine⟨B,E,C,F,rfl,gz j.out.o1,gz j.out.o2,?_⟩
   iterate 4 refine Gr.setCell ?_ (by show w.heap.size<=w.heap.size;omega) _
   exact gN (HG.out.trans G1.out) j.out.fr (by rintro k (e|e)
                                               · omega
                                               · exact e.elim)
def dl (A:Option Addr)(k c:Nat):Option Addr:=if c=k then A else A.map (·.add (k*1))
theorem fD (w:World)(A:Option Addr)(n c k:Nat)(hk:k<=n):(Instr.slice 58 (.slice A n c) (some (.int .i64 (k:Int))) none none).run prog w=.ok (.slice (dl A k c) (n-k) (c-k)) w:=by
 have d:(prog).underlying 58=some (.slice ((prog).elem 58)):=by kernel_rfl
 have g:∀w:World,(sizeOf ((prog).elem 58)).run prog w=.ok 1 w:=fun w=>by kernel_rfl
 rw[run_slice_l w 58 A n c d .i64 (k:Int) (by omega) (by omega),g];simp only[Result.andThen,sliced,dl,pj]
theorem WordsF.drop {n₀:Nat}{w:World}{A:Option Addr}{n c:Nat}{ws:List (List UInt8)}(h:WordsF n₀ w (.slice A n c) ws){k:Nat}(hk:k<=ws.length):WordsF n₀ w (.slice (dl A k c) (n-k) (c-k)) (ws.drop k):=by
 obtain⟨C,m,e,D,E,t⟩:=h;injection e with p q r;subst p;subst r;subst q;refine⟨_,_,by rw[List.length_drop],by rw[List.length_drop];omega,by rw[List.length_drop];omega,fun y=>?_⟩;rw[List.length_drop]at y;obtain⟨b,d,rfl,z,B,u⟩:=t (by omega);refine⟨b,d+k,?_,z,B,fun j l g=>?_⟩
 ·unfold dl;rw[pC (by omega)];simp[fV]
 ·rw[List.getElem?_drop]at g;have:=u (k+j) l g;rw[show d+k+j=d+(k+j) by omega];exact this
abbrev oc:Array Value:=#[.int .i64 0,.int .i64 0,.int .i64 0,dy,.int .u32 0,dy]
theorem jU (w:World):∃W,(w.alloc (.cells oc 50)).alloc (.cells oc 50)=W/\Gr w W/\W.heap.size=w.heap.size+2/\W.heap[w.heap.size]?=some (.cells oc 50 (0,0))/\W.heap[w.heap.size+1]?=some (.cells oc 50 (0,0)):=by
 refine⟨_,rfl,((qj w).alloc _).alloc _,by simp,?_,?_⟩
 ·exact(((qj _).alloc _).heap _ (by simp)).trans (heap_alloc_new w _)
 ·have:=heap_alloc_new (w.alloc (.cells oc 50)) (.cells oc 50);simpa using this
theorem eM {u:ByteArray}{z:List UInt8}(hu:bs z=u)(h:0<u.size)(d:UInt8):(((u[0]'h).toNat:Int) == (d.toNat:Int))=decide (z.head?=some d):=by
 subst hu
 cases z with
 | nil=>simp[dv]at h
 | cons b r =>
  have e:(bs (b::r))[0]'h=b:=rfl;rw[e,Bool.eq_iff_iff];simp only[beq_iff_eq,List.head?_cons,Option.some.injEq,decide_eq_true_eq];constructor
  ·intro q;exact UInt8.toNat_inj.1 (by omega)
  ·intro q;rw[q]
theorem hP {u:ByteArray}{z:List UInt8}(hu:bs z=u):u.extract 1 u.size=bs z.tail:=by subst hu;rw[<-ie ((bs z).extract 1 (bs z).size),Tx.extract_list,dt,dv];congr 1;rw[List.drop_one,pq (by simp)]
end

/- Parts. -/
import Derived.Test.YtjkajidbdmbbaaaGreatI32
set_option linter.unusedSimpArgs false
set_option linter.unusedVariables false
set_option maxRecDepth 100000
set_option maxHeartbeats 16000000
open Go.Proofs.Tryz
namespace Go.Proofs.YtjkajidbdmbbaaaGreat
section
open Go.RowKit
section
variable {c:Cfg}{w w':World}{s s':Rn.St}{b frm b' frm':Int}{vt vt':Value}
theorem PS.stSet (h:PS c w s b frm vt)(hv:s'.vals=s.vals)(hh:s'.had=s.had)(hm:s'.mem=s.mem)(hF:FrS (·=c.Bs) w w')(hst:w'.heap[c.Bs]?=some (.cells (mR c s.vals.length b' frm' s'.steps vt') 145 (0,0))):PS c w' s' b' frm' vt':=by
 have keep:∀{k:Nat} {d:Array Value} {t:TypeId} {fr:Nat × Nat},w.heap[k]?=some (.cells d t fr)->t≠145->w'.heap[k]?=some (.cells d t fr):=fun g r =>
  (hF.block _ (cX g) (by rintro rfl;exact df g h.st r rfl)).trans g
 obtain⟨A,B,C,D,E,F⟩:=h.old
 exact {
   st:=by rw[hv];exact hst
   vals:=by rw[hv];exact keep h.vals (by decide)
   had:=by rw[hh];exact keep h.had (by decide)
   hlen:=by rw[hv,hh];exact h.hlen
   mem:=by
     rw[hm]
     exact⟨h.mem.1,fun j b' y m r z=>by
       obtain⟨l,p,d,q,u⟩:=h.mem.2 j b' y m r z
       exact⟨l,p,d,keep q (by decide),u⟩⟩
   slots:=⟨h.slots.1,h.slots.2.1,fun hm=>by
     obtain⟨l,d,p,q⟩:=h.slots.2.2 hm
     exact⟨l,d,keep p (by decide),q⟩⟩
   fn:=h.fn.below (hF.below (fun k g=>by rw[g];exact A) h.n₀)
   first:=by
     obtain⟨l,p,d,q,u⟩:=h.first
     exact⟨l,p,d,keep q (by decide),u⟩
   old:=h.old
   apart:=h.apart}
theorem PS.tick (h:PS c w s b frm vt):PS c (w.setCell ⟨c.Bs,11,none⟩ (.int .i64 ((s.steps:Int)+1))) s.tick b frm vt:=by refine h.stSet (s':=s.tick) rfl rfl rfl ((FrS.refl (·=c.Bs) w).setCell (p:=⟨c.Bs,11,none⟩) rfl _) ?_;have:=cY (i:=11) (.int .i64 ((s.steps:Int)+1)) h.st;rw[this];rfl
end
theorem ii (x:Int):∀(zs:List Int)(i:Nat),x∈zs->Lib.idxFrom zs x i=((i+zs.idxOf x:Nat):Int)
 | z::r,i,h=>by
  by_cases e:z=x
  ·subst e;simp[Lib.idxFrom]
  ·have g:x∈r:=by
    rcases List.mem_cons.1 h with q|q
    ·exact absurd q.symm e
    ·exact q
   have d:(z == x)=false:=by simpa using e
   rw[Lib.idxFrom,tC e,ii x r (i+1) g,List.idxOf_cons,d];show ((i+1+r.idxOf x:Nat):Int)=((i+(r.idxOf x+1):Nat):Int);congr 1;omega
theorem pw {x:Int}{zs:List Int}(h:x∈zs):Lib.idxOf zs x=(zs.idxOf x:Nat):=by unfold Lib.idxOf;rw[ii x zs 0 h,Nat.zero_add]
def ix (c:Cfg)(o:Rn.Out):Array Value:=#[.int .i64 o.kind,.bool o.ret.p,.int .i64 o.ret.s,.int .u32 o.ret.n,if o.kind=0 then c.mv else .slice none 0 0]
def nxE (c:Cfg)(w':World)(e:Ending):Rn.Nx->Prop
 | .run t=>e=.returned (.tuple #[.int .i64 t,.pointer none])
 | .over o=>∃(k:Nat)(T:TypeId),e=.returned (.tuple #[.int .i64 0,.pointer (some ⟨k,0,none⟩)])/\w'.heap[k]?=some (.cells (ix c o) T (0,0))
def lL {c:Cfg}{pick:Rn.Pick}{fin:List Int}(ch:dW c pick fin)(O:Nat->Prop)(w:World)(b frm:Int)(vt:Value)(r:Rn.Nx × Rn.St)(e:Ending)(w':World):Prop :=
 Left ch w O r.2 b frm vt w'/\nxE c w' e r.1
theorem rq {c:Cfg}{w:World}{s:Rn.St}{b frm:Int}{vt:Value}(h:PS c w s b frm vt)(v:Nat)(hv:v<s.vals.length)(hn:s.vals.length<=1000)(x:Rn.V)(z:Int)(hz:z=v) :
  Calls prog 148 #[.pointer (some ⟨c.Bs,0,none⟩),.int .i64 z,vv x] w fun e w'=>e=.returned (.tuple #[])/\PS c w' (s.set v x) b frm vt/\FrS (Mut c) w w':=by
 subst hz;exact pY h v hv hn x
def dX (rs:List Rn.V)(n k:Nat):List Rn.V:=rs.take k++List.replicate (n-k) Rn.zero
theorem iz (rs:List Rn.V)(n k:Nat)(h:k<=n)(hn:n=rs.length):(dX rs n k).length=n:=by unfold dX;simp;omega
theorem kT (rs:List Rn.V)(n k:Nat)(hn:n=rs.length)(v:Rn.V)(h:rs[k]?=some v):(dX rs n k).set k v=dX rs n (k+1):=by
 have m:=(sR.1 h).1;apply List.ext_getElem?;intro i;have d:(rs.take k).length=k:=by simp;omega
 have g:(rs.take (k+1)).length=k+1:=by simp;omega
 by_cases e:k=i
 ·subst e;rw[tL (by rw[iz _ _ _ (by omega) hn];omega)];unfold dX;rw[te (by omega),tk,tB (by omega),h]
 ·rw[List.getElem?_set_ne e];unfold dX;by_cases j:i<k
  ·rw[te (by omega),te (by omega),tk,tk,tB j,tB (by omega)]
  ·rw[tj (by omega),tj (by omega),d,g,tr,tr];by_cases l:i<n
   ·rw[tB (by omega),tB (by omega)]
   ·rw[tC (by omega),tC (by omega)]
theorem mB (rs:List Rn.V)(n:Nat)(hn:n=rs.length):dX rs n n=rs:=by unfold dX;subst hn;simp
theorem kY {f:Fn}{pick:Rn.Pick}{reads:List Rn.V}{x:Ins}{r:List Ins}{i v:Nat}{s:Rn.St}(h:s.steps=400):Rn.runIns f pick reads (x::r) i v s=(.over Rn.long,s):=by rw[Rn.runIns,tB h]
theorem mG {f:Fn}{pick:Rn.Pick}{reads:List Rn.V}{x:Ins}{r:List Ins}{i v:Nat}{s:Rn.St}(h:s.steps≠400)(hi:i<reads.length):Rn.runIns f pick reads (x::r) i v s=Rn.runIns f pick reads r (i+1) (v+1) (s.tick.set v (reads.getD i Rn.zero)):=by rw[Rn.runIns,tC h,tB hi]
def qv (f:Fn)(pick:Rn.Pick)(reads:List Rn.V)(r:List Ins)(i v:Nat):Rn.Res × Rn.St->Rn.Nx × Rn.St
 | (.val y,s')=>Rn.runIns f pick reads r (i+1) (v+1) (s'.set v y)
 | (.on,s')=>Rn.runIns f pick reads r (i+1) (v+1) s'
 | (.go t,s')=>(.run t,s')
 | (.fin o,s')=>(.over o,s')
theorem kX {f:Fn}{pick:Rn.Pick}{reads:List Rn.V}{x:Ins}{r:List Ins}{i v:Nat}{s:Rn.St}(h:s.steps≠400)(hi:¬i<reads.length):Rn.runIns f pick reads (x::r) i v s=qv f pick reads r i v (Rn.exec f pick x s.tick):=by
 rw[Rn.runIns,tC h,tC hi]
 cases Rn.exec f pick x s.tick with
 | mk q s'=>cases q<;>rfl
theorem FrS.grown {S:Nat->Prop}{w a b:World}{row:Option Nat}(h:FrS S w a)(g:a.grownBy b row)(hr:∀k,row=some k->S k\/w.heap.size<=k):FrS S w b :=
 ⟨g.os.trans h.os,g.tape.trans h.tape,g.output.trans h.output,Nat.le_trans h.size g.size,fun k j d=>(g.block k (by have:=h.size;omega) (fun e=>by
   rcases hr k e.symm with q|q
   · exact d q
   · omega)).trans (h.block k j d)⟩
theorem iK:(prog.info? 22).map (fun i=>(i.zero,i.size,i.bytes))=some (some (.int .u32 0),1,4):=by kernel_rfl
structure ExAt (B Bg:Nat)(w:World)(p ws:List Int)(u:Nat)(vp vw:Value):Prop where
 st:w.heap[Bg]?=some (.cells #[vp,vw,.int .i64 u] 101 (0,0))
 pth:Own1 B 22 w vp (p.map (Value.int .u32))
 wid:Own1 B 3 w vw (ws.map (Value.int .i64))
 ge:B<=Bg
def exO (Bg:Nat)(vp vw:Value)(k:Nat):Prop:=k=Bg\/vp.ownBlock=some k\/vw.ownBlock=some k
theorem de {B:Nat}{e:TypeId}{w:World}{v:Value}{xs:List Value}(h:Own1 B e w v xs){k:Nat}(hk:v.ownBlock=some k):B<=k/\k<w.heap.size/\∃cur,w.heap[k]?=some (.cells cur e (0,0)):=by
 rcases h.2 with ⟨rfl,_⟩|⟨g,j,cur,rfl,l,d,_⟩
 ·simp[Value.ownBlock]at hk
 ·simp[Value.ownBlock]at hk;subst hk;exact⟨l,cX d,cur,d⟩
theorem dh {B:Nat}{e:TypeId}{w w':World}{v:Value}{xs:List Value}(h:Own1 B e w v xs)(hw:∀k,v.ownBlock=some k->w'.heap[k]?=w.heap[k]?):Own1 B e w' v xs:=by
 obtain⟨l,j⟩:=h;refine⟨l,?_⟩;rcases j with j|⟨k,d,g,hv,m,p,r⟩
 ·exact .inl j
 ·exact .inr ⟨k,d,g,hv,m,(hw k (by rw[hv];rfl)).trans p,r⟩
theorem ExAt.frs {B Bg:Nat}{w w':World}{p ws:List Int}{u:Nat}{vp vw:Value}{S:Nat->Prop}(h:ExAt B Bg w p ws u vp vw)(hF:FrS S w w')(hS:∀k,exO Bg vp vw k->¬S k):ExAt B Bg w' p ws u vp vw where
 st:=(hF.block Bg (cX h.st) (hS Bg (.inl rfl))).trans h.st
 pth:=dh h.pth fun k d=>hF.block k (de h.pth d).2.1 (hS k (.inr (.inl d)))
 wid:=dh h.wid fun k d=>hF.block k (de h.wid d).2.1 (hS k (.inr (.inr d)))
 ge:=h.ge
theorem ExAt.used {B Bg:Nat}{w:World}{p ws:List Int}{u:Nat}{vp vw:Value}(h:ExAt B Bg w p ws u vp vw)(n:Nat):ExAt B Bg (w.setCell ⟨Bg,2,none⟩ (.int .i64 n)) p ws n vp vw where
 st:=cY (i:=2) (.int .i64 n) h.st
 pth:=dh h.pth fun k d=>tH _ _ _ _ (by obtain⟨-,-,cur,q⟩:=de h.pth d;exact df q h.st (by decide))
 wid:=dh h.wid fun k d=>tH _ _ _ _ (by obtain⟨-,-,cur,q⟩:=de h.wid d;exact df q h.st (by decide))
 ge:=h.ge
theorem ga {B:Nat}{e:TypeId}{w:World}{v:Value}{xs:List Value}(h:Own1 B e w v xs){j:Nat}{x:Value}(hx:xs[j]?=some x):∃b c,v=.slice (some ⟨b,0,none⟩) xs.length c/\xs.length<=c/\c<=17592186044416000000/\w.cell? ⟨b,j,none⟩=some x/\w.frozen? ⟨b,j,none⟩=false/\b<w.heap.size:=by
 have z:=(sR.1 hx).1;rcases h.2 with ⟨rfl,t⟩|⟨g,d,m,rfl,y,l,p,q,u,r⟩
 ·omega
 ·refine⟨g,d,rfl,p,by unfold maxLen at q;omega,?_,tx _ _ _ _ _ l,cX l⟩;rw[tv _ _ _ _ _ _ l,<-hx,<-r];rw[tk,tB (by omega)];simp
theorem ko {B Bg:Nat}{w:World}{p ws:List Int}{u:Nat}{vp vw:Value}(h:ExAt B Bg w p ws u vp vw)(hu:u<p.length)(hp:p.length<=1000000)(n:Int) :
  Calls prog 263 #[.pointer (some ⟨Bg,0,none⟩),.int .i64 n] w fun e w'=>e=.returned (.int .u32 (p.getD u 0))/\ExAt B Bg w' p ws (u+1) vp vw/\FrS (fun k=>k=Bg) w w':=by
 obtain⟨z,l⟩:∃z,p[u]?=some z:=⟨_,sQ hu⟩;obtain⟨b,c,rfl,A,C,t,-,I⟩:=ga h.pth (j:=u) (x:=.int .u32 z) (by rw[td,l];rfl);rw[tt]at A
 have g:b≠Bg:=by obtain⟨-,-,r,q⟩:=de h.pth (k:=b) rfl;exact df q h.st (by decide)
 have E:w.cell? ⟨Bg,0,none⟩=some (.slice (some ⟨b,0,none⟩) p.length c):=by have:=tv _ _ 0 _ _ _ h.st;rw[this];simp
 have F:w.cell? ⟨Bg,2,none⟩=some (.int .i64 u):=tv _ _ 2 _ _ _ h.st;have H:w.frozen? ⟨Bg,2,none⟩=false:=tx _ _ 2 _ _ h.st
 have d:Hid (∀k,ExAt B Bg ((w.drewN k).setCell ⟨Bg,2,none⟩ (.int .i64 ((u:Int)+1))) p ws (u+1) (.slice (some ⟨b,0,none⟩) (p.map (Value.int .u32)).length c) vw/\FrS (fun k=>k=Bg) w ((w.drewN k).setCell ⟨Bg,2,none⟩ (.int .i64 ((u:Int)+1)))):=fun k=>by have y:=h.frs (FrS.of_gr (S:=fun _=>False) ((tX w).drewN k)) (fun _ _ q=>q);exact⟨y.used (u+1),((FrS.refl (fun k=>k=Bg) w).drewN k).setCell (p:=⟨Bg,2,none⟩) rfl _⟩
 have D:(u:Int)≠(p.length:Int):=by omega
 have G:∀k v,((w.drewN k).setCell ⟨Bg,2,none⟩ v).cell? ⟨b,u,none⟩=some (.int .u32 z):=fun k v=>(World.cell?_setCell_far _ ⟨Bg,2,none⟩ ⟨b,u,none⟩ v (by exact fun q=>g q.symm)).trans t;have m:Hid (z=p.getD u 0):=by show _=_;rw[sU,l];rfl
 clear h l
 go_enter func263, ntmps263
 go_wp2;go_quiet ((fail));all_goals go_wp2
 all_goals go_quiet ((fail))
 all_goals go_wp2
 all_goals go_ret
 all_goals exact⟨dc m.out,(d.out _).1.frs (FrS.of_gr (S:=fun _=>False) ((tX _).drewN _)) (fun _ _ q=>q),(d.out _).2.drewN _⟩
theorem qH {P:Program}{w:World}{ops:Array Oper}{rest:List Oper}{o:Oper}{a:Act}{Q:Exit->Act->World->Prop}{B n:Nat}{t e:TypeId}{i:TypeInfo}{z:Value}{bytes:Nat}
  (ht:P.underlying t=some (.slice e)) (hi:P.info? e=some i) (hz:i.zero=some z) (hsize:i.size=1) (hby:i.bytes=bytes) (hzs:z.cells.size=1) (hbb:bytes<=128)
  (hgd:o.guard=none) (s x:Operand) (ho:o.op=.call {callee:=.builtin .append,args:=#[s,x],argTypes:=#[t,t]})
  {v:Value} {xs:List Value} (hn:xs.length=n) (hs:a.eval s=v) (hown:Own1 B e w v xs) {y:Value} {e':TypeId} (hy:y.oneCell'=true) (hx:a.eval x=.slice (some ⟨w.heap.size,0,none⟩) 1 1) (hlt:n<1099511627776) (hB:B<=w.heap.size)
  (h:∀A c w',Own1 B e w' (.slice A (n+1) c) (xs++[y])->(w.alloc (.cells #[y] e')).grownBy w' v.ownBlock->(∀k,(Value.slice A (n+1) c).ownBlock=some k->v.ownBlock=some k\/w.heap.size<=k)->wpList P ops Q rest (a.put o.dst (.slice A (n+1) c)) w') :
  wpList P ops Q (o::rest) a (w.alloc (.cells #[y] e')):=by
 subst hn;refine dB hgd s x t ho B e i z 1 bytes ht hi hz hsize hby hzs (by omega) v xs.length xs hs (fU hown ((tX _).alloc _)) _ 1 [y] hx (tY _ _ _) ?_ ?_ ?_ ?_ ?_
 ·intro u m;simp at m;subst m;exact hy
 ·simp only[maxLen];omega
 ·have:(xs.length+1)*bytes<=(xs.length+1)*128:=Nat.mul_le_mul_left _ hbb;omega
 ·simp;omega
 ·intro C w' g p l;have d:Own1 B e w' C (xs++[y]):=by unfold Own1;rw[tT];exact g
  obtain⟨A,c,hv⟩:=d.form;rw[tT]at hv;subst hv;refine h A c w' d p fun k j=>?_;rcases l with q|q
  ·exact .inl (q ▸ j)
  ·have r:(Value.slice A (xs.length+1) c).ownBlock=some (w.alloc (.cells #[y] e')).heap.size:=q;rw[r]at j;injection j with j;right;rw[<-j];simp
section
variable {B Bg:Nat}{W w2:World}{p ws:List Int}{u:Nat}{vp vw v':Value}{tmp:Obj}
theorem ExAt.pushP (h:ExAt B Bg W p ws u vp vw){z:Int}(hg:(W.alloc tmp).grownBy w2 vp.ownBlock)(ho:Own1 B 22 w2 v' (p.map (Value.int .u32)++[.int .u32 z]))(hat:∀k,v'.ownBlock=some k->vp.ownBlock=some k\/W.heap.size<=k) :
  w2.heap[Bg]?=some (.cells #[vp,vw,.int .i64 u] 101 (0,0))/\ExAt B Bg (w2.setCell ⟨Bg,0,none⟩ v') (p++[z]) ws u v' vw/\FrS (exO Bg vp vw) W (w2.setCell ⟨Bg,0,none⟩ v')/\∀k,exO Bg v' vw k->exO Bg vp vw k\/W.heap.size<=k:=by
 have m:FrS (exO Bg vp vw) W w2:=((FrS.refl _ W).alloc tmp).grown hg (fun k d=>.inl (.inr (.inl d)))
 have t:∀{k:Nat},vp.ownBlock=some k->k≠Bg:=fun d=>by obtain⟨-,-,j,q⟩:=de h.pth d;exact df q h.st (by decide)
 have l:∀{k:Nat},vw.ownBlock=some k->k≠Bg/\vp.ownBlock≠some k:=fun d=>by obtain⟨-,-,j,q⟩:=de h.wid d;refine⟨df q h.st (by decide),fun e=>?_⟩;obtain⟨-,-,y,A⟩:=de h.pth e;exact df q A (by decide) rfl
 have keep:∀k,k<W.heap.size->vp.ownBlock≠some k->w2.heap[k]?=W.heap[k]?:=fun k d hn=>(hg.block k (by simp;omega) (fun e=>hn e.symm)).trans (((tX W).alloc tmp).heap k d);have g:w2.heap[Bg]?=some (.cells #[vp,vw,.int .i64 u] 101 (0,0)):=(keep Bg (cX h.st) (fun e=>t e rfl)).trans h.st
 have r:∀{k:Nat},v'.ownBlock=some k->k≠Bg:=fun d=>by obtain⟨-,-,j,q⟩:=de ho d;exact df q g (by decide)
 refine⟨g,⟨cY (i:=0) v' g,?_,?_,h.ge⟩,m.setCell (p:=⟨Bg,0,none⟩) (.inl rfl) _,fun k d=>?_⟩
 ·rw[List.map_append];exact dh ho fun k d=>tH _ _ _ _ (r d)
 ·exact dh h.wid fun k d=>(tH _ _ _ _ (l d).1).trans (keep k (de h.wid d).2.1 (l d).2)
 ·rcases d with d|d|d
  ·exact .inl (.inl d)
  ·exact(hat k d).elim (fun q=>.inl (.inr (.inl q))) .inr
  ·exact .inl (.inr (.inr d))
theorem ExAt.pushW (h:ExAt B Bg W p ws u vp vw){z:Int}(hg:(W.alloc tmp).grownBy w2 vw.ownBlock)(ho:Own1 B 3 w2 v' (ws.map (Value.int .i64)++[.int .i64 z]))(hat:∀k,v'.ownBlock=some k->vw.ownBlock=some k\/W.heap.size<=k) :
  w2.heap[Bg]?=some (.cells #[vp,vw,.int .i64 u] 101 (0,0))/\ExAt B Bg (w2.setCell ⟨Bg,1,none⟩ v') p (ws++[z]) u vp v'/\FrS (exO Bg vp vw) W (w2.setCell ⟨Bg,1,none⟩ v')/\∀k,exO Bg vp v' k->exO Bg vp vw k\/W.heap.size<=k:=by
 have m:FrS (exO Bg vp vw) W w2:=((FrS.refl _ W).alloc tmp).grown hg (fun k d=>.inl (.inr (.inr d)))
 have t:∀{k:Nat},vw.ownBlock=some k->k≠Bg:=fun d=>by obtain⟨-,-,j,q⟩:=de h.wid d;exact df q h.st (by decide)
 have l:∀{k:Nat},vp.ownBlock=some k->k≠Bg/\vw.ownBlock≠some k:=fun d=>by obtain⟨-,-,j,q⟩:=de h.pth d;refine⟨df q h.st (by decide),fun e=>?_⟩;obtain⟨-,-,y,A⟩:=de h.wid e;exact df q A (by decide) rfl
 have keep:∀k,k<W.heap.size->vw.ownBlock≠some k->w2.heap[k]?=W.heap[k]?:=fun k d hn=>(hg.block k (by simp;omega) (fun e=>hn e.symm)).trans (((tX W).alloc tmp).heap k d);have g:w2.heap[Bg]?=some (.cells #[vp,vw,.int .i64 u] 101 (0,0)):=(keep Bg (cX h.st) (fun e=>t e rfl)).trans h.st
 have r:∀{k:Nat},v'.ownBlock=some k->k≠Bg:=fun d=>by obtain⟨-,-,j,q⟩:=de ho d;exact df q g (by decide)
 refine⟨g,⟨cY (i:=1) v' g,?_,?_,h.ge⟩,m.setCell (p:=⟨Bg,1,none⟩) (.inl rfl) _,fun k d=>?_⟩
 ·exact dh h.pth fun k d=>(tH _ _ _ _ (l d).1).trans (keep k (de h.pth d).2.1 (l d).2)
 ·rw[List.map_append];exact dh ho fun k d=>tH _ _ _ _ (r d)
 ·rcases d with d|d|d
  ·exact .inl (.inl d)
  ·exact .inl (.inr (.inl d))
  ·exact(hat k d).elim (fun q=>.inl (.inr (.inr q))) .inr
end
theorem jo {B Bg:Nat}{w:World}{p ws:List Int}{vp vw:Value}(h:ExAt B Bg w p ws p.length vp vw)(hl:ws.length=p.length)(hp:p.length<=1000000)(n:Int) :
  Calls prog 263 #[.pointer (some ⟨Bg,0,none⟩),.int .i64 n] w fun e w'=>e=.returned (.int .u32 0)/\∃vp' vw',ExAt B Bg w' (p++[0]) (ws++[n]) (p.length+1) vp' vw'/\FrS (exO Bg vp vw) w w'/\∀k,exO Bg vp' vw' k->exO Bg vp vw k\/w.heap.size<=k:=by
 obtain⟨iu,ad,ae,af,ag⟩:=info_parts iK;obtain⟨i0,hi,ah,ai,aj⟩:=info_parts dC;obtain⟨A,c,rfl⟩:=h.pth.form;obtain⟨C,D,rfl⟩:=h.wid.form;rw[tt]at h;rw[tt]at h;rw[tt,tt];have c0:w.cell? ⟨Bg,0,none⟩=some (.slice A p.length c):=tv _ _ 0 _ _ _ h.st;have G:w.cell? ⟨Bg,2,none⟩=some (.int .i64 p.length):=tv _ _ 2 _ _ _ h.st;have HH:=dJ h;have HB:Hid (B<=w.heap.size):=by show _<=_;have:=h.ge;have:=cX h.st;omega
 have HL:=dJ hl;have al:ws.length<=1000000:=by omega
 clear h hl
 go_enter func263, ntmps263
 go_wp2;go_quiet ((fail));obtain⟨X,u⟩:=xJ (w.drewN nq);have g1:Gr w X:=by rw[<-u];exact(tX w).drewN _
 have T:=HH.out.frs (FrS.of_gr (S:=fun _=>False) g1) (fun _ _ q=>q);have H1:=dJ T;have Q:=dJ g1;have d0:X.cell? ⟨Bg,0,none⟩=some (.slice A p.length c):=tv _ _ 0 _ _ _ T.st;have z0:X.frozen? ⟨Bg,0,none⟩=false:=tx _ _ 0 _ _ T.st;rw[u];clear u T g1
 go_wp2_with (first
   | (at_builtin;refine qH (n:=p.length) (v:=.slice A p.length c) underlying39 ad ae af ag rfl (by omega) rfl (.tmp 19) (.tmp 20) rfl (tt _) rfl H1.out.pth rfl rfl (by omega) (by have:=HB.out;have:=Q.out.size;omega) ?_;intro A2 G w2 L J m;
       obtain⟨y,d,z,N⟩:=H1.out.pushP J L m;have am:w2.cell? ⟨Bg,0,none⟩=some (.slice A p.length c):=tv _ _ 0 _ _ _ y;have y0:w2.frozen? ⟨Bg,0,none⟩=false:=tx _ _ 0 _ _ y;
       obtain⟨W3,ab⟩:=xJ (w2.setCell ⟨Bg,0,none⟩ (.slice A2 (p.length+1) G));rw[ab]at d z;have H3:=dJ d;have U:=dJ z;have W:=dJ N;
       have e1:W3.cell? ⟨Bg,1,none⟩=some (.slice C ws.length D):=(tv _ _ 1 _ _ _ d.st);have e2:W3.frozen? ⟨Bg,1,none⟩=false:=(tx _ _ 1 _ _ d.st);clear y d z N L J m)
   | (at_builtin;refine qH (n:=ws.length) (v:=.slice C ws.length D) underlying33 hi ah ai aj rfl (by omega) rfl (.tmp 28) (.tmp 30) rfl (tt _) rfl H3.out.wid rfl rfl (by omega) (by have:=HB.out;have:=Q.out.size;have:=U.out.size;omega) ?_;intro A4 c4 w4 M K r;
       obtain⟨y,d,z,N⟩:=H3.out.pushW K M r;have an:w4.cell? ⟨Bg,1,none⟩=some (.slice C ws.length D):=tv _ _ 1 _ _ _ y;have y1:w4.frozen? ⟨Bg,1,none⟩=false:=tx _ _ 1 _ _ y;
       obtain⟨F,ac⟩:=xJ (w4.setCell ⟨Bg,1,none⟩ (.slice A4 (ws.length+1) c4));rw[ac]at d z;have H5:=dJ d;have F5:=dJ z;have O5:=dJ N;
       have e3:F.cell? ⟨Bg,2,none⟩=some (.int .i64 p.length):=(tv _ _ 2 _ _ _ d.st);have e4:F.frozen? ⟨Bg,2,none⟩=false:=(tx _ _ 2 _ _ d.st);clear y d z N M K r))
 obtain⟨R,g⟩:=xJ (F.setCell ⟨Bg,2,none⟩ (.int .i64 ((p.length:Int)+1)));have t:=H5.out.used (p.length+1);rw[show ((p.length+1:Nat):Int)=(p.length:Int)+1 from rfl,g]at t;have I:FrS (exO Bg (.slice A2 (p.length+1) G) (.slice A4 (ws.length+1) c4)) F R:=by rw[<-g];exact(FrS.refl _ F).setCell (p:=⟨Bg,2,none⟩) (.inl rfl) _
 obtain⟨b,cc,ev,-,-,q1,-,-⟩:=ga t.pth (j:=p.length) (x:=.int .u32 0) (by rw[td,tj (tS _)];simp);injection ev with Y Z aa;subst Y;have d1:R.cell? ⟨Bg,0,none⟩=some (.slice (some ⟨b,0,none⟩) (p.length+1) G):=tv _ _ 0 _ _ _ t.st;have d2:R.cell? ⟨Bg,2,none⟩=some (.int .i64 ((p.length:Int)+1)):=tv _ _ 2 _ _ _ t.st
 have ak:p.length+1<=G:=by obtain⟨_,_,ee,hh,_⟩:=dE t.pth;injection ee with _ e1 e2;simp at e1;omega
 have E:Hid (∀O,Gr R O->∃vp' vw',ExAt B Bg O (p++[0]) (ws++[n]) (p.length+1) vp' vw'/\FrS (exO Bg (.slice A p.length c) (.slice C ws.length D)) w O/\∀k,exO Bg vp' vw' k->exO Bg (.slice A p.length c) (.slice C ws.length D) k\/w.heap.size<=k):=fun O g9=>by
  have s1:=Q.out.size;have s3:=U.out.size;have s5:=F5.out.size;refine⟨_,_,t.frs (FrS.of_gr (S:=fun _=>False) g9) (fun _ _ q=>q),?_,?_⟩
  ·have H:FrS (fun k=>exO Bg (.slice A p.length c) (.slice C ws.length D) k\/w.heap.size<=k) w O :=
    ((((FrS.of_gr Q.out).trans (U.out.mono fun k l=>.inl l)).trans (F5.out.mono fun k l=>(W.out k l).imp (fun q=>q) (fun q=>by omega))).trans
      (I.mono fun k l=>(O5.out k l).elim (fun q=>(W.out k q).imp (fun q=>q) (fun q=>by omega)) (fun q=>.inr (by omega)))).trans (FrS.of_gr g9)
   exact⟨H.os,H.tape,H.output,H.size,fun k l hn=>H.block k l (fun q=>q.elim hn (fun q=>by omega))⟩
  ·intro k l;rcases O5.out k l with q|q
   ·exact(W.out k q).imp (fun q=>q) (fun q=>by omega)
   ·exact .inr (by omega)
 rw[g];clear g t I Z aa;go_quiet ((fail));all_goals go_wp2
 all_goals go_ret
 all_goals exact⟨rfl,E.out _ ((tX _).drewN _)⟩
def rE (c:Cfg)(n k:Nat)(o:Rn.Out)(om wv bv:Value):Array Value :=
 #[c.vp,.int .i64 c.f.ret,c.vs,c.vb,c.mv,c.ch,.int .i64 o.kind,.bool o.ret.p,.int .i64 o.ret.s,.int .u32 o.ret.n,om,wv,bv,.int .i64 k,.slice (some ⟨c.Bv,0,none⟩) n n,.slice (some ⟨c.Bh,0,none⟩) n n]
structure DS (c:Cfg)(pk:List Int)(w:World)(s:Rn.St)(bl:List Int)(o:Rn.Out)(om wv bv:Value):Prop where
 st:w.heap[c.Bs]?=some (.cells (rE c s.vals.length s.steps o om wv bv) 158 (0,0))
 vals:w.heap[c.Bv]?=some (.cells (dF s.vals).toArray 24 (0,0))
 had:w.heap[c.Bh]?=some (.cells (s.had.map Value.bool).toArray 4 (0,0))
 hlen:s.had.length=s.vals.length
 mem:qD c w s.mem
 slots:jY c w
 fn:FnAt c.n₀ w (.agg #[c.vp,.int .i64 c.f.ret,c.vs,c.vb]) c.f
 picks:U32At c.n₀ w c.ch pk
 wid:Own1 c.n₀ 3 w wv (s.widths.map (Value.int .i64))
 blk:Own1 c.n₀ 3 w bv (bl.map (Value.int .i64))
 old:c.n₀<=c.Bs/\c.n₀<=c.Bv/\c.n₀<=c.Bh/\c.n₀<=c.Bm/\∀(j b cp:Nat),c.us[j]?=some (b,cp)->c.n₀<=b
 apart:(c.us.map (·.1)).Nodup
 farW:∀k,wv.ownBlock=some k->bv.ownBlock≠some k/\∀j cp:Nat,c.us[j]?≠some (k,cp)
 farB:∀k,bv.ownBlock=some k->∀j cp:Nat,c.us[j]?≠some (k,cp)
def DO (c:Cfg)(wv bv:Value)(k:Nat):Prop:=Mut c k\/wv.ownBlock=some k\/bv.ownBlock=some k
section
variable {c:Cfg}{pk bl:List Int}{w w' w'':World}{s:Rn.St}{o:Rn.Out}{om wv bv:Value}{S:Nat->Prop}
theorem U32At.frsD {B:Nat}{w w':World}{v:Value}{zs:List Int}(h:U32At B w v zs)(hb:Below B w w'):U32At B w' v zs :=
 SlAt.imp h fun b off d g j z l=>(hb.cell (p:=⟨b,off+j,none⟩) d).trans (g j z l)
theorem DS.cell (h:DS c pk w s bl o om wv bv)(i:Nat):w.cell? ⟨c.Bs,i,none⟩=(rE c s.vals.length s.steps o om wv bv)[i]?:=tv _ _ i _ _ _ h.st
theorem DS.n₀ (h:DS c pk w s bl o om wv bv):c.n₀<=w.heap.size:=by have:=cX h.st;have:=h.old.1;omega
theorem DS.dlt (h:DS c pk w s bl o om wv bv){k:Nat}(hk:DO c wv bv k):c.n₀<=k:=by
 obtain⟨l,m,p,r,q⟩:=h.old;rcases hk with (rfl|rfl|rfl|⟨j,d,g⟩)|hk|hk
 ·exact l
 ·exact m
 ·exact p
 ·exact q j k d g
 ·exact(de h.wid hk).1
 ·exact(de h.blk hk).1
theorem DS.away (h:DS c pk w s bl o om wv bv)(hF:FrS S w w')(hS:∀k,S k->c.n₀<=k/\¬DO c wv bv k/\k≠c.Bm):DS c pk w' s bl o om wv bv:=by
 have keep:∀{k:Nat} {o:Obj},w.heap[k]?=some o->(DO c wv bv k\/k=c.Bm)->w'.heap[k]?=some o:=fun d hK=>(hF.block _ (cX d) (fun q=>hK.elim (hS _ q).2.1 (hS _ q).2.2)).trans d
 exact {
   st:=keep h.st (.inl (.inl (.inl rfl)))
   vals:=keep h.vals (.inl (.inl (.inr (.inl rfl))))
   had:=keep h.had (.inl (.inl (.inr (.inr (.inl rfl)))))
   hlen:=h.hlen
   mem:=⟨h.mem.1,fun j y t m u z=>by
     obtain⟨l,p,g,r,B⟩:=h.mem.2 j y t m u z
     exact⟨l,p,g,keep r (.inl (.inl (.inr (.inr (.inr ⟨j,t,u⟩))))),B⟩⟩
   slots:=⟨h.slots.1,h.slots.2.1,fun A=>by
     obtain⟨l,g,p,r⟩:=h.slots.2.2 A
     exact⟨l,g,keep p (.inr rfl),r⟩⟩
   fn:=h.fn.below (hF.below (fun k d=>(hS k d).1) h.n₀)
   picks:=h.picks.frsD (hF.below (fun k d=>(hS k d).1) h.n₀)
   wid:=dh h.wid fun k d=>hF.block k (de h.wid d).2.1 (fun q=>(hS k q).2.1 (.inr (.inl d)))
   blk:=dh h.blk fun k d=>hF.block k (de h.blk d).2.1 (fun q=>(hS k q).2.1 (.inr (.inr d)))
   old:=h.old
   apart:=h.apart
   farW:=h.farW
   farB:=h.farB}
theorem DS.gr (h:DS c pk w s bl o om wv bv)(g:Gr w w'):DS c pk w' s bl o om wv bv:=h.away (S:=fun _=>False) (FrS.of_gr g) (fun k hk=>hk.elim)
theorem DS.row (h:DS c pk w s bl o om wv bv){k:Nat}{o':Rn.Out}{om':Value}(hF:FrS (·=c.Bs) w w')(hst:w'.heap[c.Bs]?=some (.cells (rE c s.vals.length k o' om' wv bv) 158 (0,0))):DS c pk w' {s with steps:=k} bl o' om' wv bv:=by
 have keep:∀{k:Nat} {d:Array Value} {t:TypeId} {fr:Nat × Nat},w.heap[k]?=some (.cells d t fr)->t≠158->w'.heap[k]?=some (.cells d t fr):=fun g l =>
  (hF.block _ (cX g) (fun e=>by rw[e]at g;exact df g h.st l rfl)).trans g
 have y:=hF.below (n:=c.n₀) (fun k g=>by rw[g];exact h.old.1) h.n₀
 exact {
   st:=hst
   vals:=keep h.vals (by decide)
   had:=keep h.had (by decide)
   hlen:=h.hlen
   mem:=⟨h.mem.1,fun j z A m l B=>by
     obtain⟨p,r,d,u,D⟩:=h.mem.2 j z A m l B
     exact⟨p,r,d,keep u (by decide),D⟩⟩
   slots:=⟨h.slots.1,h.slots.2.1,fun C=>by
     obtain⟨p,d,r,u⟩:=h.slots.2.2 C
     exact⟨p,d,keep r (by decide),u⟩⟩
   fn:=h.fn.below y
   picks:=h.picks.frsD y
   wid:=dh h.wid fun k g=>by obtain⟨-,-,d,q⟩:=de h.wid g;exact(keep q (by decide)).trans q.symm
   blk:=dh h.blk fun k g=>by obtain⟨-,-,d,q⟩:=de h.blk g;exact(keep q (by decide)).trans q.symm
   old:=h.old
   apart:=h.apart
   farW:=h.farW
   farB:=h.farB}
theorem DS.setVal (h:DS c pk w s bl o om wv bv){v:Nat}{x:Rn.V}(hF:FrS (fun k=>k=c.Bv\/k=c.Bh) w w')(hv:w'.heap[c.Bv]?=some (.cells (dF (s.vals.set v x)).toArray 24 (0,0)))
  (hh:w'.heap[c.Bh]?=some (.cells ((s.had.set v true).map Value.bool).toArray 4 (0,0))):DS c pk w' (s.set v x) bl o om wv bv:=by
 obtain⟨G,D,E,H,I⟩:=h.old
 have keep:∀{k:Nat} {d:Array Value} {t:TypeId} {fr:Nat × Nat},w.heap[k]?=some (.cells d t fr)->t≠24->t≠4->w'.heap[k]?=some (.cells d t fr):=fun g l p =>
  (hF.block _ (cX g) (by
    rintro (rfl|rfl)
    · exact df g h.vals l rfl
    · exact df g h.had p rfl)).trans g
 have z:=hF.below (n:=c.n₀) (fun k g=>g.elim (fun e=>by rw[e];exact D) (fun e=>by rw[e];exact E)) h.n₀
 exact {
   st:=by
     have:=keep h.st (by decide) (by decide)
     show w'.heap[c.Bs]?=some (.cells (rE c (s.vals.set v x).length s.steps o om wv bv) _ _)
     rw[List.length_set];exact this
   vals:=hv
   had:=hh
   hlen:=by show (s.had.set v true).length=(s.vals.set v x).length;rw[List.length_set,List.length_set];exact h.hlen
   mem:=⟨h.mem.1,fun j A B m l p=>by
     obtain⟨r,u,d,y,F⟩:=h.mem.2 j A B m l p
     exact⟨r,u,d,keep y (by decide) (by decide),F⟩⟩
   slots:=⟨h.slots.1,h.slots.2.1,fun C=>by
     obtain⟨r,d,u,y⟩:=h.slots.2.2 C
     exact⟨r,d,keep u (by decide) (by decide),y⟩⟩
   fn:=h.fn.below z
   picks:=h.picks.frsD z
   wid:=dh h.wid fun k g=>by obtain⟨-,-,d,q⟩:=de h.wid g;exact(keep q (by decide) (by decide)).trans q.symm
   blk:=dh h.blk fun k g=>by obtain⟨-,-,d,q⟩:=de h.blk g;exact(keep q (by decide) (by decide)).trans q.symm
   old:=h.old
   apart:=h.apart
   farW:=h.farW
   farB:=h.farB}
theorem DS.memSet (h:DS c pk w s bl o om wv bv){j bj cp:Nat}{l l':List Int}{cur:Array Value}(hus:c.us[j]?=some (bj,cp))(hl:s.mem[j]?=some l)(hll:l'.length=l.length)(hF:FrS (·=bj) w w')(hb:w'.heap[bj]?=some (.cells cur 3 (0,0)))
  (hc:∀(i:Nat)(z:Int),l'[i]?=some z->cur[i]?=some (.int .i64 z)):DS c pk w' {s with mem:=s.mem.set j l' } bl o om wv bv:=by
 obtain⟨X,Q,G,y,Y⟩:=h.mem.2 j bj cp l hus hl;have L:=df h.st y (by decide);have M:=df h.vals y (by decide);have N:=df h.had y (by decide);obtain⟨S,T,U,W,O⟩:=h.old;have P:=O j bj cp hus;have t:=hF.below (n:=c.n₀) (fun k p=>by rw[p];exact P) h.n₀
 exact {
   st:=(hF.block _ (cX h.st) L).trans h.st
   vals:=(hF.block _ (cX h.vals) M).trans h.vals
   had:=(hF.block _ (cX h.had) N).trans h.had
   hlen:=h.hlen
   mem:=⟨by rw[List.length_set];exact h.mem.1,fun H F B m g r=>by
     by_cases e:j=H
     · subst e
       rw[hus]at g
       injection g with g
       injection g with g J
       subst g;subst J
       have C:=(sR.1 hl).1
       rw[tL C]at r
       injection r with r
       subst r
       exact⟨by omega,Q,cur,hb,hc⟩
     · rw[List.getElem?_set_ne e]at r
       obtain⟨E,u,d,A,R⟩:=h.mem.2 H F B m g r
       have D:F≠bj:=by
         intro I;subst I
         rcases Nat.lt_or_gt_of_ne e with q|q
         · exact fk h.apart q hus g
         · exact fk h.apart q g hus
       exact⟨E,u,d,(hF.block _ (cX A) D).trans A,R⟩⟩
   slots:=⟨h.slots.1,h.slots.2.1,fun K=>by
     obtain⟨E,d,u,A⟩:=h.slots.2.2 K
     exact⟨E,d,(hF.block _ (cX u) (df u y (by decide))).trans u,A⟩⟩
   fn:=h.fn.below t
   picks:=h.picks.frsD t
   wid:=dh h.wid fun k p=>hF.block k (de h.wid p).2.1 (fun e=>(h.farW k p).2 j cp (by rw[e];exact hus))
   blk:=dh h.blk fun k p=>hF.block k (de h.blk p).2.1 (fun e=>h.farB k p j cp (by rw[e];exact hus))
   old:=h.old
   apart:=h.apart
   farW:=h.farW
   farB:=h.farB}
theorem DS.lt (h:DS c pk w s bl o om wv bv){k:Nat}(hk:DO c wv bv k):k<w.heap.size:=by
 rcases hk with (rfl|rfl|rfl|⟨j,g,d⟩)|hk|hk
 ·exact cX h.st
 ·exact cX h.vals
 ·exact cX h.had
 ·have r:=h.mem.1;obtain⟨l,p⟩:∃l,s.mem[j]?=some l:=⟨_,sQ (by rw[r];exact(sR.1 d).1)⟩;obtain⟨-,-,m,q,-⟩:=h.mem.2 j k g l d p;exact cX q
 ·exact(de h.wid hk).2.1
 ·exact(de h.blk hk).2.1
theorem DS.pushW (h:DS c pk w s bl o om wv bv){n:Int}{v':Value}{w2:World}{tmp:Obj}(hg:(w.alloc tmp).grownBy w2 wv.ownBlock)(ho:Own1 c.n₀ 3 w2 v' (s.widths.map (Value.int .i64)++[.int .i64 n]))(hat:∀k,v'.ownBlock=some k->wv.ownBlock=some k\/w.heap.size<=k) :
  w2.heap[c.Bs]?=some (.cells (rE c s.vals.length s.steps o om wv bv) 158 (0,0))/\DS c pk (w2.setCell ⟨c.Bs,11,none⟩ v') (s.chose n) bl o om v' bv/\FrS (DO c wv bv) w (w2.setCell ⟨c.Bs,11,none⟩ v')/\∀k,DO c v' bv k->DO c wv bv k\/w.heap.size<=k:=by
 have u:FrS (fun k=>wv.ownBlock=some k) w w2:=((FrS.refl _ w).alloc tmp).grown hg (fun k d=>.inl d);have E:¬wv.ownBlock=some c.Bs:=fun e=>by obtain⟨-,-,g,q⟩:=de h.wid e;exact df q h.st (by decide) rfl
 have l:=(u.block _ (cX h.st) E).trans h.st;have r:FrS (fun k=>wv.ownBlock=some k\/k=c.Bs) w (w2.setCell ⟨c.Bs,11,none⟩ v'):=(u.mono (fun k d=>.inl d)).setCell (p:=⟨c.Bs,11,none⟩) (.inr rfl) _;have D:∀k,v'.ownBlock=some k->DO c wv bv k\/w.heap.size<=k:=fun k d=>(hat k d).elim (fun q=>.inl (.inr (.inl q))) .inr;have keep:∀{k:Nat} {o:Obj},w.heap[k]?=some o->k≠c.Bs->¬wv.ownBlock=some k->(w2.setCell ⟨c.Bs,11,none⟩ v').heap[k]?=some o:=fun d A C=>(r.block _ (cX d) (fun q=>q.elim C A)).trans d;have F:∀{k:Nat} {g:Array Value} {t:TypeId} {fr:Nat × Nat},w.heap[k]?=some (.cells g t fr)->t≠3->¬wv.ownBlock=some k:=fun d ht e=>by obtain⟨-,-,g,q⟩:=de h.wid e;exact df d q ht rfl
 have I:=r.below (n:=c.n₀) (fun k d=>d.elim (fun e=>(de h.wid e).1) (fun e=>by rw[e];exact h.old.1)) h.n₀;refine⟨l,?_,r.mono (fun k d=>d.elim (fun e=>.inr (.inl e)) (fun e=>.inl (.inl e))),fun k d=>?_⟩
 ·exact {
     st:=cY (i:=11) v' l
     vals:=keep h.vals (df h.vals h.st (by decide)) (F h.vals (by decide))
     had:=keep h.had (df h.had h.st (by decide)) (F h.had (by decide))
     hlen:=h.hlen
     mem:=⟨h.mem.1,fun j H z m A C=>by
       obtain⟨G,y,g,B,K⟩:=h.mem.2 j H z m A C
       exact⟨G,y,g,keep B (df B h.st (by decide)) (fun e=>(h.farW H e).2 j z A),K⟩⟩
     slots:=⟨h.slots.1,h.slots.2.1,fun J=>by
       obtain⟨G,g,y,B⟩:=h.slots.2.2 J
       exact⟨G,g,keep y (df y h.st (by decide)) (F y (by decide)),B⟩⟩
     fn:=h.fn.below I
     picks:=h.picks.frsD I
     wid:=by
       have:=dh (w':=w2.setCell ⟨c.Bs,11,none⟩ v') ho fun k d=>tH _ _ _ _ (by obtain⟨-,-,g,q⟩:=de ho d;exact df q l (by decide))
       show Own1 c.n₀ _ _ v' ((s.widths++[n]).map (Value.int .i64))
       rw[List.map_append];exact this
     blk:=dh h.blk fun k d=>by
       obtain⟨-,-,g,q⟩:=de h.blk d
       exact r.block k (cX q) (fun e=>e.elim (fun e=>(h.farW k e).1 d) (fun e=>by rw[e]at q;exact df q h.st (by decide) rfl))
     old:=h.old
     apart:=h.apart
     farW:=fun k d=>by
       rcases hat k d with q|q
       · exact h.farW k q
       · refine⟨fun e=>?_,fun j z e=>?_⟩
         · have:=(de h.blk e).2.1;omega
         · have:=h.lt (.inl (.inr (.inr (.inr ⟨j,z,e⟩))));omega
     farB:=h.farB}
 ·rcases d with d|d|d
  ·exact .inl (.inl d)
  ·exact D k d
  ·exact .inl (.inr (.inr d))
end
def DLeft (c:Cfg)(pk:List Int)(w:World)(wv bv:Value)(s':Rn.St)(bl':List Int)(o':Rn.Out)(om':Value)(w':World):Prop :=
 ∃wv' bv',DS c pk w' s' bl' o' om' wv' bv'/\FrS (DO c wv bv) w w'/\∀k,DO c wv' bv' k->DO c wv bv k\/w.heap.size<=k
section
variable {c:Cfg}{pk bl bl':List Int}{w w' w'':World}{s s':Rn.St}{o o':Rn.Out}{om om' wv bv wv' bv':Value}
theorem kl (hF:FrS (DO c wv bv) w w')(hO:∀k,DO c wv' bv' k->DO c wv bv k\/w.heap.size<=k)(h:DLeft c pk w' wv' bv' s' bl' o' om' w''):DLeft c pk w wv bv s' bl' o' om' w'':=by
 obtain⟨j,l,p,f,q⟩:=h;refine⟨j,l,p,⟨f.os.trans hF.os,f.tape.trans hF.tape,f.output.trans hF.output,Nat.le_trans hF.size f.size,fun k d g=>?_⟩,fun k d=>?_⟩
 ·refine(f.block k (by have:=hF.size;omega) fun q=>?_).trans (hF.block k d g);rcases hO k q with q|q
  ·exact g q
  ·omega
 ·rcases q k d with q|q
  ·exact hO k q
  ·exact .inr (by have:=hF.size;omega)
theorem DS.left (h:DS c pk w' s bl o om wv bv)(hF:FrS (DO c wv bv) w w'):DLeft c pk w wv bv s bl o om w':=⟨wv,bv,h,hF,fun k d=>.inl d⟩
theorem DLeft.gr (h:DLeft c pk w wv bv s' bl' o' om' w')(g:Gr w' w''):DLeft c pk w wv bv s' bl' o' om' w'':=by obtain⟨d,j,p,f,q⟩:=h;exact kl f q ((p.gr g).left (FrS.of_gr g))
end
theorem gr_frs' {S:Nat->Prop}{w a b:World}(g:Gr w a)(h:FrS S a b)(hS:∀k,S k->w.heap.size<=k):Gr w b :=
 ⟨h.os.trans g.os,h.tape.trans g.tape,h.output.trans g.output,Nat.le_trans g.size h.size,fun k d=>(h.block k (by have:=g.size;omega) (fun q=>by have:=hS k q;omega)).trans (g.heap k d)⟩
def jN (w:World)(r:Nat)(x:Rn.V):World:=((w.setCell ⟨r,0,none⟩ (.bool x.p)).setCell ⟨r,1,none⟩ (.int .i64 x.s)).setCell ⟨r,2,none⟩ (.int .u32 x.n)
theorem kW {w:World}{r:Nat}{a b d:Value}(h:w.heap[r]?=some (.cells #[a,b,d] 24 (0,0)))(x:Rn.V) :
  (jN w r x).cell? ⟨r,0,none⟩=some (.bool x.p)/\(jN w r x).cell? ⟨r,1,none⟩=some (.int .i64 x.s)/\(jN w r x).cell? ⟨r,2,none⟩=some (.int .u32 x.n):=by
 have g:=cY (i:=2) (.int .u32 x.n) (cY (i:=1) (.int .i64 x.s) (cY (i:=0) (.bool x.p) h));exact⟨tv _ _ 0 _ _ _ g,tv _ _ 1 _ _ _ g,tv _ _ 2 _ _ _ g⟩
theorem oC (w:World)(r:Nat)(x:Rn.V):FrS (·=r) w (jN w r x) :=
 (((FrS.refl (fun k=>k=r) w).setCell (p:=⟨r,0,none⟩) rfl _).setCell (p:=⟨r,1,none⟩) rfl _).setCell (p:=⟨r,2,none⟩) rfl _
structure RB (w W:World)(r:Nat):Prop where
 row:W.heap[r]?=some (.cells #[.bool false,.int .i64 0,.int .u32 0] 24 (0,0))
 ge:w.heap.size<=r
 gr:Gr w W
theorem RB.ret {w W:World}{r:Nat}(h:RB w W r){w9:World}(g:Gr W w9)(v:Rn.V):Gr w (jN w9 r v)/\((jN w9 r v).cell? ⟨r,0,none⟩=some (.bool v.p)/\(jN w9 r v).cell? ⟨r,1,none⟩=some (.int .i64 v.s)/\(jN w9 r v).cell? ⟨r,2,none⟩=some (.int .u32 v.n)) :=
 ⟨gr_frs' (h.gr.trans g) (oC _ _ v) (fun k d=>by rw[d];exact h.ge),kW ((g.heap _ (cX h.row)).trans h.row) v⟩
theorem RB.cells {w W:World}{r:Nat}(h:RB w W r)(u:GrW W):u.val.cell? ⟨r,0,none⟩=some (.bool false)/\u.val.cell? ⟨r,1,none⟩=some (.int .i64 0)/\u.val.cell? ⟨r,2,none⟩=some (.int .u32 0)/\u.val.frozen? ⟨r,0,none⟩=false/\u.val.frozen? ⟨r,1,none⟩=false/\u.val.frozen? ⟨r,2,none⟩=false:=by have e:=(u.gr.heap _ (cX h.row)).trans h.row;exact⟨tv _ _ 0 _ _ _ e,tv _ _ 1 _ _ _ e,tv _ _ 2 _ _ _ e,tx _ _ 0 _ _ e,tx _ _ 1 _ _ e,tx _ _ 2 _ _ e⟩
section
variable {c:Cfg}{pk bl bl':List Int}{w w' w'':World}{s s':Rn.St}{o o':Rn.Out}{om om' wv bv wv' bv':Value}
end
end

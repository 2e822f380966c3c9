import Derived.Test.YtjkajidbdmbbaaaGreatN01
set_option linter.unusedSimpArgs false
set_option linter.unusedVariables false
set_option maxRecDepth 100000
set_option maxHeartbeats 16000000
namespace Go.Proofs.YtjkajidbdmbbaaaGreat
open Ref Rn Wd Ir Rf
variable {f:Fn}{x:Ins}{frm:Int}{l:List Ins}{p ws:List Int}{b i j n:Nat}
section
namespace Rn
def Gn (l:List zO):Prop:=l.Pairwise fun a b=>BJ a b=-1
theorem La (x:zO):∀(l:List zO)(o:zO),o∈Cm x l↔o=x\/o∈l
 | [],o=>by simp[Cm]
 | y::r,o=>by
  rw[Cm]
  split
  next e =>
   have:=(DI.zero x y).1 e
   subst this;simp
  next e =>
   split
   ·simp
   ·rw[List.mem_cons,La x r o,List.mem_cons];constructor
    ·rintro (h|h|h)
     ·exact .inr (.inl h)
     ·exact .inl h
     ·exact .inr (.inr h)
    ·rintro (h|h|h)
     ·exact .inr (.inl h)
     ·exact .inl h
     ·exact .inr (.inr h)
theorem IE (x:zO):∀(l:List zO),Gn l->Gn (Cm x l)
 | [],_=>by simp[Cm,Gn]
 | y::r,h=>by
  rw[Cm]
  unfold Gn at h
  rw[List.pairwise_cons]at h
  split
  next e=>unfold Gn;rw[List.pairwise_cons];exact h
  next e =>
   split
   next e2 =>
    have g:BJ x y=-1:=by have:=DI.three x y;omega
    unfold Gn;rw[List.pairwise_cons,List.pairwise_cons];refine⟨fun z d=>?_,h⟩;rcases List.mem_cons.1 d with rfl|d
    ·exact g
    ·exact DI.trans _ _ _ g (h.1 z d)
   next e2 =>
    have g:BJ y x=-1:=by have:=DI.three x y;have:=DI.swap x y;omega
    unfold Gn;rw[List.pairwise_cons];refine⟨fun z d=>?_,IE x r h.2⟩;rcases (La x r z).1 d with rfl|d
    ·exact g
    ·exact h.1 z d
end Rn
end
section
namespace Rn
def EG (x:zO)(l:List zO):Nat:=l.countP fun o=>decide (BJ o x<0)
theorem JQ (x:zO)(l:List zO):EG x l<=l.length:=List.countP_le_length
theorem Lc {y:zO}{r:List zO}(h:Gn (y::r)):Gn r:=by unfold Gn at *;rw[List.pairwise_cons]at h;exact h.2
theorem Nb (x:zO):∀(l:List zO)(y:zO),Gn (y::l)->¬BJ y x<0->∀z∈l,¬BJ z x<0:=by
 intro l y h p z j m;unfold Gn at h;rw[List.pairwise_cons]at h;have d:=h.1 z j;have g:BJ z x=-1:=by have:=DI.three z x;omega
 have:=DI.trans _ _ _ d g;omega
theorem I9 (x:zO):∀(l:List zO),Gn l->(∀j y,l[j]?=some y->(BJ y x<0↔j<EG x l))
 | [],_,j,y,h=>by simp at h
 | y::r,ha,j,z,hz=>by
  by_cases d:BJ y x<0
  ·have e:EG x (y::r)=EG x r+1:=by unfold EG;rw[List.countP_cons_of_pos (by simpa using d)]
   rw[e]
   cases j with
   | zero=>simp at hz;subst hz;exact⟨fun _=>Nat.succ_pos _,fun _=>d⟩
   | succ j=>rw[xV]at hz;rw[I9 x r (Lc ha) j z hz];omega
  ·have p:=Nb x r y ha d
   have e:EG x (y::r)=0:=by
    unfold EG;rw[List.countP_eq_zero];intro o m;rcases List.mem_cons.1 m with rfl|m
    ·simpa using d
    ·simpa using p o m
   rw[e];constructor
   ·intro g;exfalso;rcases List.mem_cons.1 (xT hz) with rfl|q
    ·exact d g
    ·exact p z q g
   ·intro q;omega
theorem IF (x:zO):∀(l:List zO),Gn l->l[EG x l]?=some x->Cm x l=l
 | [],_,h=>by simp at h
 | y::r,ha,h=>by
  rw[Cm]
  split
  ·rfl
  next e =>
   by_cases g:BJ y x<0
   ·have d:EG x (y::r)=EG x r+1:=by unfold EG;rw[List.countP_cons_of_pos (by simpa using g)]
    rw[d,xV]at h;rw[yt (by have:=DI.swap x y;omega),IF x r (Lc ha) h]
   ·exfalso
    have d:EG x (y::r)=0:=by have:=(I9 x (y::r) ha 0 y rfl);omega
    rw[d]at h;simp at h;subst h;exact e ((DI.zero _ _).2 rfl)
theorem Jq (x:zO):∀(l:List zO),Gn l->l[EG x l]?≠some x->Cm x l=l.take (EG x l)++x::l.drop (EG x l)
 | [],_,_=>rfl
 | y::r,ha,h=>by
  rw[Cm]
  by_cases m:BJ y x<0
  ·have d:EG x (y::r)=EG x r+1:=by unfold EG;rw[List.countP_cons_of_pos (by simpa using m)]
   rw[d,xV]at h;have j:=DI.swap x y;rw[yt (by omega),yt (by omega),Jq x r (Lc ha) h,d];rfl
  ·have d:EG x (y::r)=0:=by
    have:=(I9 x (y::r) ha 0 y rfl);omega
   rw[d]at h ⊢;have g:BJ x y≠0:=fun e=>h (by rw[(DI.zero _ _).1 e];rfl);have j:=DI.swap x y;have p:=DI.three x y;rw[yt g,yr (by omega)];rfl
end Rn
end
section
namespace Rn
open Ref
theorem JX (f:Fn)(pick:Dk)(x:Ins)(s:AN)(M:FH × AN->Prop)(hgo:∀t,M (.go t,s))(hfin:M (.fin Dw,s))(hret:x.op=31->M (.fin ⟨0,(x.args.map s.get).getD 0 zero,s.mem⟩,s))(hval:∀v,M (.val v,s))
  (hon:∀m,M (.on,{s with mem:=m})) (hch:∀v,M (.val v,s.chose x.w)):M (ze f pick x s):=by
 unfold ze;dsimp only;by_cases j:x.op=29
 ·rw[yr j];exact hgo _
 rw[yt j];by_cases l:x.op=30
 ·rw[yr l];split
  ·exact hfin
  ·exact hgo _
 rw[yt l];by_cases g:x.op=31
 ·rw[yr g];exact hret g
 rw[yt g];by_cases p:x.op=32
 ·rw[yr p];exact hfin
 rw[yt p];by_cases q:x.op=26
 ·rw[yr q];split
  ·exact hfin
  ·exact hval _
 rw[yt q];by_cases r:x.op=27
 ·rw[yr r];split
  ·exact hfin
  ·exact hon _
 rw[yt r];by_cases u:x.op=21
 ·rw[yr u];split
  ·exact hch _
  ·exact hval _
 rw[yt u];by_cases y:x.op=23
 ·rw[yr y];exact hch _
 rw[yt y];by_cases z:x.op=15
 ·rw[yr z];split<;>exact hval _
 rw[yt z];by_cases d:1<=x.op/\x.op<=13
 ·rw[yr d];split
  ·exact hfin
  ·exact hval _
 rw[yt d];split<;>exact hval _
theorem GT (f:Fn)(pick:Dk)(x:Ins)(s:AN):(ze f pick x s).2.t=s.t :=
 JX f pick x s (fun r=>r.2.t=s.t) (fun _=>rfl) rfl (fun _=>rfl) (fun _=>rfl) (fun _=>rfl) (fun _=>rfl)
theorem Ii (f:Fn)(pick:Dk)(rs:List V):∀(l:List Ins)(i v:Nat)(s:AN),s.t<=400 ->
  (AO f pick rs l i v s).2.t<=400/\s.t<=(AO f pick rs l i v s).2.t/\(∀t,(AO f pick rs l i v s).1=.run t->s.t+1<=(AO f pick rs l i v s).2.t)
 | [],i,v,s,h=>⟨h,yJ _,fun t q=>by simp[AO]at q⟩
 | x::r,i,v,s,h=>by
  rw[AO]
  split
  next h1=>exact⟨h,yJ _,fun t q=>by cases q⟩
  next h1 =>
   split
   next h2 =>
    obtain⟨m,p,j⟩:=Ii f pick rs r (i+1) (v+1) (s.tick.set v (rs.getD i zero)) (by show s.t+1<=400;omega)
    have e:(s.tick.set v (rs.getD i zero)).t=s.t+1:=rfl;rw[e]at p j;exact⟨m,by omega,fun t q=>by have:=j t q;omega⟩
   next h2 =>
    have d:=GT f pick x s.tick;have e:s.tick.t=s.t+1:=rfl;rw[e]at d;split
    next y s' hq =>
     rw[hq]at d;have g:s'.t=s.t+1:=d;obtain⟨m,p,j⟩:=Ii f pick rs r (i+1) (v+1) (s'.set v y) (by show s'.t<=400;omega);have u:(s'.set v y).t=s'.t:=rfl;rw[u]at p j;exact⟨m,by omega,fun t q=>by have:=j t q;omega⟩
    next s' hq =>
     rw[hq]at d;have g:s'.t=s.t+1:=d;obtain⟨m,p,j⟩:=Ii f pick rs r (i+1) (v+1) s' (by omega);exact⟨m,by omega,fun t q=>by have:=j t q;omega⟩
    next t' s' hq =>
     rw[hq]at d;have g:s'.t=s.t+1:=d;exact⟨by show s'.t<=400;omega,by show _<=s'.t;omega,fun t q=>by show _<=s'.t;omega⟩
    next o s' hq =>
     rw[hq]at d;have g:s'.t=s.t+1:=d;exact⟨by show s'.t<=400;omega,by show _<=s'.t;omega,fun t q=>by cases q⟩
theorem Ja (f:Fn)(pick:Dk)(b:Nat)(frm:Int)(s:AN)(h:s.t<=400) :
  (block f pick b frm s).2.t<=400/\s.t<=(block f pick b frm s).2.t/\(∀t,(block f pick b frm s).1=.run t->s.t+1<=(block f pick b frm s).2.t):=Ii f pick _ _ _ _ _ h
def LF (f:Fn)(s:AN)(o:zO):Prop :=
 (o.kind=0/\o.mem=s.mem/\o.ret.s=0/\0<=o.ret.n/\o.ret.n<4294967296)\/o=Dw\/o=ID
theorem LG (f:Fn)(pick:Dk)(x:Ins)(s:AN){o:zO}(h:(ze f pick x s).1=.fin o):o=Dw\/(x.op=31/\o=⟨0,(x.args.map s.get).getD 0 zero,s.mem⟩):=by
 have:=JX f pick x s (fun r=>∀o,r.1=.fin o->o=Dw\/(x.op=31/\o=⟨0,(x.args.map s.get).getD 0 zero,s.mem⟩))
  (fun _ o h=>by cases h) (fun o h=>by injection h with h;exact .inl h.symm) (fun e o h=>by injection h with h;exact .inr ⟨e,h.symm⟩) (fun _ o h=>by cases h) (fun _ o h=>by cases h) (fun _ o h=>by cases h)
 exact this o h
section
variable {f:Fn}{b:Nat}{l:List Ins}{pick:Dk}
theorem OC (hv:FB f)(hi:Hh f){s:AN}(h:Mid f b i l s)(hl:f.b[b]?=some l)(hx:l[i]?=some x)(ho:x.op≠28){o:zO}(hf:(ze f pick x s).1=.fin o):LF f s o:=by
 rcases LG f pick x s hf with e|⟨e,rfl⟩
 ·exact .inr (.inl e)
 ·left
  cases NR hv hi (xT hl) (xT hx) with
  | ret0 o ha hr hw=>rw[ha];exact⟨rfl,rfl,rfl,Int.le_refl 0,by show (0:Int)<4294967296;decide⟩
  | ret o a ha ka hr hw =>
   have d:=Jc hv h hl hx ho (v:=a) (by simp[ha]) (by have:=hr.1;omega);rw[ka]at d;obtain⟨j,g⟩:=d.num hr;have m:=C4 hr;rw[ha];exact⟨rfl,rfl,j,g.1,Int.lt_of_lt_of_le g.2 m⟩
  | _=>exfalso;omega
def Nr (f:Fn)(b:Nat):NW × AN->Prop
 | (.run t,s')=>∃m,0<=t/\f.b[t.toNat]?=some m/\JO f t.toNat b m s'
 | (.over o,s')=>Inv f s'/\LF f s' o
theorem JG (hA:Gv)(hv:FB f)(hi:Hh f)(hpk:Jp pick){frm:Int}{s0:AN}(he:JO f b frm l s0)(hl:f.b[b]?=some l) :
  ∀(r:List Ins)(k:Nat)(s:AN),l.drop k=r->Mid f b k l s->Nr f b (AO f pick ((Do l).map (Eh s0 frm)) r k (yZ f b+k) s)
 | [],k,s,_,hm=>⟨hm.toInv,.inr (.inl rfl)⟩
 | x::r,k,s,hr,hm=>by
  have j:l[k]?=some x:=by
   have:(l.drop k)[0]?=some x:=by rw[hr];rfl
   rwa [List.getElem?_drop,Nat.add_zero]at this
  have g:l.drop (k+1)=r:=by rw[show k+1=k+1 from rfl,<-List.drop_drop,hr];rfl
  have p:Mid f b k l s.tick:=hm.like (I0 s);rw[AO];split;next h1=>exact⟨hm.toInv,.inr (.inr rfl)⟩
  next h1 =>
   split
   next h2 =>
    rw[yl]at h2;exact JG hA hv hi hpk he hl r (k+1) _ g (KU hv he p hl j h2)
   next h2 =>
    rw[yl]at h2;have A:x.op≠28:=fun q=>h2 ((Fv hv (xT hl) j).1 q);have d:=KT hv hi hpk p hl j A;split
    next y s' hq =>
     rw[hq]at d;obtain⟨u,z,F⟩:=d;exact JG hA hv hi hpk he hl r (k+1) _ g (F.set hl j u z)
    next s' hq =>
     rw[hq]at d;obtain⟨u,z⟩:=d;exact JG hA hv hi hpk he hl r (k+1) _ g (z.skip j u)
    next t s' hq =>
     rw[hq]at d;obtain⟨u,rfl,z⟩:=d;obtain⟨m,C,D,E,-⟩:=OI hA hv hi p hl j A u z;exact⟨m,C,D,E⟩
    next o s' hq =>
     have B:=OC (pick:=pick) hv hi p hl j A (o:=o) (by rw[hq]);rw[hq]at d;obtain rfl:=d;exact⟨p.toInv,B⟩
theorem Kq (hA:Gv)(hv:FB f)(hi:Hh f)(hpk:Jp pick){s:AN}(he:JO f b frm l s)(hl:f.b[b]?=some l):Nr f b (block f pick b frm s):=by unfold block;rw[xU,hl];exact JG hA hv hi hpk he hl l 0 s rfl he.toMid
theorem Ns (hA:Gv)(hv:FB f)(hi:Hh f)(hpk:Jp pick):∀(n b:Nat)(frm:Int)(s:AN)(l:List Ins),f.b[b]?=some l->JO f b frm l s->s.t<=400->401<=s.t+n ->
  Inv f (C5 f pick n b frm s).2.1/\LF f (C5 f pick n b frm s).2.1 (C5 f pick n b frm s).1/\(C5 f pick n b frm s).2.1.t<=400
 | 0,b,frm,s,l,_,_,h1,h2=>by omega
 | n+1,b,frm,s,l,hl,he,h1,h2=>by
  have d:=Kq hA hv hi hpk he hl
  have g:=Ja f pick b frm s h1;rw[C5]
  cases hq:block f pick b frm s with
  | mk q s' =>
   rw[hq]at d g
   cases q with
   | over o=>exact⟨d.1,d.2,g.1⟩
   | run t =>
    obtain⟨m,u,j,p⟩:=d;have r:s.t+1<=s'.t:=g.2.2 t rfl;exact Ns hA hv hi hpk n t.toNat b s' m j p g.1 (by omega)
end
end Rn
end
section
namespace Rn
open Ref
theorem N9 (f:Fn)(pick:Dk)(x:Ins)(s:AN):(ze f pick x s).2.z=s.z\/((ze f pick x s).2.z=s.z++[x.w]/\(x.op=21\/x.op=23)):=by
 unfold ze;dsimp only;by_cases l:x.op=29
 ·rw[yr l];exact .inl rfl
 rw[yt l];by_cases m:x.op=30
 ·rw[yr m];split<;>exact .inl rfl
 rw[yt m];by_cases p:x.op=31
 ·rw[yr p];exact .inl rfl
 rw[yt p];by_cases q:x.op=32
 ·rw[yr q];exact .inl rfl
 rw[yt q];by_cases r:x.op=26
 ·rw[yr r];split<;>exact .inl rfl
 rw[yt r];by_cases t:x.op=27
 ·rw[yr t];split<;>exact .inl rfl
 rw[yt t];by_cases g:x.op=21
 ·rw[yr g];split
  ·exact .inr ⟨rfl,.inl g⟩
  ·exact .inl rfl
 rw[yt g];by_cases j:x.op=23
 ·rw[yr j];exact .inr ⟨rfl,.inr j⟩
 rw[yt j];by_cases u:x.op=15
 ·rw[yr u];split<;>exact .inl rfl
 rw[yt u];by_cases d:1<=x.op/\x.op<=13
 ·rw[yr d];split<;>exact .inl rfl
 rw[yt d];split<;>exact .inl rfl
def Jr (s:AN):Prop:=s.z.length<=s.t/\∀z∈s.z,zi z
theorem Kr {pick:Dk}{s:AN}(hx:x.op=21\/x.op=23->zi x.w)(h:Jr s):Jr (ze f pick x s.tick).2:=by
 have e:s.tick.t=s.t+1:=rfl;have g:s.tick.z=s.z:=rfl;unfold Jr;rw[GT,e];rcases N9 f pick x s.tick with q|⟨q,j⟩
 ·rw[q,g];exact⟨by have:=h.1;omega,h.2⟩
 ·rw[q,g,yK,List.length_singleton];refine⟨by have:=h.1;omega,fun z d=>?_⟩;rcases yz.1 d with d|d
  ·exact h.2 z d
  ·rw[List.mem_singleton.1 d];exact hx j
theorem Jh (f:Fn)(pick:Dk)(rs:List V):∀(l:List Ins)(i v:Nat)(s:AN),(∀x∈l,x.op=21\/x.op=23->zi x.w)->Jr s->Jr (AO f pick rs l i v s).2
 | [],i,v,s,_,h=>h
 | x::r,i,v,s,hl,h=>by
  rw[AO]
  have g:∀y∈r,y.op=21\/y.op=23->zi y.w:=fun y hy=>hl y (List.mem_cons_of_mem _ hy)
  split
  ·exact h
  ·split
   ·exact Jh f pick rs r _ _ _ g ⟨by have:=h.1;show s.z.length<=s.t+1;omega,h.2⟩
   ·have d:=Kr (f:=f) (pick:=pick) (hl x (List.mem_cons_self)) h;split;next y s' hq=>rw[hq]at d;exact Jh f pick rs r _ _ _ g d
    next s' hq=>rw[hq]at d;exact Jh f pick rs r _ _ _ g d
    next t' s' hq=>rw[hq]at d;exact d
    next o s' hq=>rw[hq]at d;exact d
theorem Js (hv:FB f)(hi:Hh f)(hl:f.b[b]?=some l):∀x∈l,x.op=21\/x.op=23->zi x.w:=fun x d g=>by
 cases NR hv hi (xT hl) d with
 | freeze h1 a h2 h3 h4=>exact h4
 | any h1 h2 h3=>exact h3
 | _=>exfalso;omega
theorem Ld (hv:FB f)(hi:Hh f)(pick:Dk)(b:Nat)(frm:Int){s:AN}(h:Jr s):Jr (block f pick b frm s).2:=by
 unfold block
 cases hl:f.b[b]? with
 | none=>rw[xU,hl];exact h
 | some l=>rw[xU,hl];exact Jh _ _ _ _ _ _ _ (Js hv hi hl) h
theorem ML {f:Fn}(hv:FB f)(hi:Hh f)(pick:Dk):∀(n b:Nat)(frm:Int)(s:AN),Jr s->Jr (C5 f pick n b frm s).2.1
 | 0,b,frm,s,h=>h
 | n+1,b,frm,s,h=>by
  rw[C5]
  have d:=Ld hv hi pick b frm h
  split;next o s' hq=>rw[hq]at d;exact d
  next t s' hq=>rw[hq]at d;exact ML hv hi pick n _ _ _ d
theorem IK {i:CG}(hA:Gv)(hv:FB f)(hi:Hh f)(hin:AB f i=0)(ha:∀a∈i.args,0<=a)(p:List Int) :
  (Bq f i p).length<=400/\(∀z∈Bq f i p,zi z)/\Inv f (DC f (zo p) i).2.1/\LF f (DC f (zo p) i).2.1 (DC f (zo p) i).1:=by
 obtain⟨l,d,g⟩:=JH hA hin ha;obtain⟨j,m,q⟩:=Ns hA hv hi (Jj p) 401 0 (-1) (BN f i) l d g (yI _) (by omega);have w:=ML hv hi (zo p) 401 0 (-1) (BN f i) ⟨yI _,fun z hz=>by cases hz⟩;have e:DC f (zo p) i=C5 f (zo p) 401 0 (-1) (BN f i):=rfl;unfold Bq;rw[e];exact⟨by have:=w.1;omega,w.2,j,m⟩
theorem OE (h:∀z∈ws,zi z)(hj:j<ws.length):zi (ws.getD j 0):=by rw[xU,xR hj];exact h _ (List.getElem_mem hj)
theorem Jd {i:CG}(h:IP f i p)(hw:∀z∈Bq f i p,zi z):∀z∈AW p (Bq f i p).length,0<=z/\z<4294967296:=fun z d=>by
 unfold AW at d;rcases yz.1 d with d|d
 ·obtain⟨j,q⟩:=List.getElem?_of_mem d;have g:=(xS.1 q).1;obtain⟨l,m⟩:=h.2 j g;have r:m9 ((Bq f i p).getD j 0)<=4294967296:=C4 (OE hw (by have:=h.1;omega));rw[xU,q]at l m;exact⟨l,Int.lt_of_lt_of_le m r⟩
 ·rw[(List.mem_replicate.1 d).2];decide
theorem FD {i:CG}{outs:List zO}{R:Option (List zO)}(h:E6 f i (n+1) p outs=R) :
  (DG (AW p (Bq f i p).length) (Bq f i p) (Bq f i p).length=none->R=some (Cm (DC f (zo p) i).1 outs)) /\
  ∀k,DG (AW p (Bq f i p).length) (Bq f i p) (Bq f i p).length=some k->E6 f i n (FM (AW p (Bq f i p).length) k) (Cm (DC f (zo p) i).1 outs)=R:=by
 rw[E6]at h;constructor
 ·intro q;unfold Bq at q;rw[q]at h;exact h.symm
 ·intro k q;unfold Bq at q;rw[q]at h;exact h
theorem IL (x:zO):∀l:List zO,(Cm x l).length<=l.length+1
 | []=>yJ _
 | y::r=>by
  rw[Cm]
  split
  ·exact Nat.le_succ _
  ·split
   ·exact yJ _
   ·have:=IL x r
    simp only[List.length_cons];omega
end Rn
end

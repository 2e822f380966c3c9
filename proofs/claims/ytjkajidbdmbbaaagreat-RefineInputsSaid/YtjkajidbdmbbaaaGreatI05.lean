/- Parts. -/
import Derived.Test.YtjkajidbdmbbaaaGreatI04
set_option linter.unusedSimpArgs false
set_option linter.unusedVariables false
set_option maxRecDepth 100000
set_option maxHeartbeats 16000000
namespace Go.Proofs.YtjkajidbdmbbaaaGreat
section
namespace Rn
structure IsCmp {α:Type}(c:α->α->Int):Prop where
 three:∀a b,c a b=-1\/c a b=0\/c a b=1
 zero:∀a b,c a b=0↔a=b
 swap:∀a b,c b a=-c a b
 trans:∀a b d,c a b=-1->c b d=-1->c a d=-1
theorem sgn_cases (a b:Int):(a<b/\sgn a b=-1)\/(a=b/\sgn a b=0)\/(b<a/\sgn a b=1):=by
 unfold sgn;rcases Int.lt_trichotomy a b with h|h|h
 ·exact .inl ⟨h,tB h⟩
 ·exact .inr (.inl ⟨h,by rw[tC (by omega),tC (by omega)]⟩)
 ·exact .inr (.inr ⟨h,by rw[tC (by omega),tB h]⟩)
theorem isCmp_sgn:IsCmp sgn where
 three a b:=by have:=sgn_cases a b;omega
 zero a b:=by have:=sgn_cases a b;omega
 swap a b:=by have:=sgn_cases a b;have:=sgn_cases b a;omega
 trans a b d h1 h2:=by have:=sgn_cases a b;have:=sgn_cases b d;have:=sgn_cases a d;omega
def lex {α:Type}(c:α->α->Int):List α->List α->Int
 | [],[]=>0
 | [],_::_=>-1
 | _::_,[]=>1
 | a::azs,b::bs=>if c a b=0 then lex c azs bs else c a b
theorem lex_ints:∀a b:List Int,cmpInts a b=lex sgn a b
 | [],[]=>rfl
 | [],_::_=>rfl
 | _::_,[]=>rfl
 | a::azs,b::bs=>by rw[cmpInts,lex,lex_ints azs bs]
theorem lex_mem:∀a b:List (List Int),cmpMem a b=lex cmpInts a b
 | [],[]=>rfl
 | [],_::_=>rfl
 | _::_,[]=>rfl
 | a::azs,b::bs=>by rw[cmpMem,lex,lex_mem azs bs]
theorem lex_three {α:Type}{c:α->α->Int}(h:IsCmp c):∀a b:List α,lex c a b=-1\/lex c a b=0\/lex c a b=1
 | [],[]=>.inr (.inl rfl)
 | [],_::_=>.inl rfl
 | _::_,[]=>.inr (.inr rfl)
 | a::azs,b::bs=>by
  rw[lex]
  split
  ·exact lex_three h azs bs
  ·exact h.three a b
theorem lex_zero {α:Type}{c:α->α->Int}(h:IsCmp c):∀a b:List α,lex c a b=0↔a=b
 | [],[]=>by simp[lex]
 | [],_::_=>by simp[lex]
 | _::_,[]=>by simp[lex]
 | a::azs,b::bs=>by
  rw[lex,List.cons.injEq]
  split
  next e=>rw[lex_zero h azs bs];exact⟨fun q=>⟨(h.zero a b).1 e,q⟩,fun q=>q.2⟩
  next e=>exact⟨fun q=>absurd q e,fun q=>absurd ((h.zero a b).2 q.1) e⟩
theorem lex_swap {α:Type}{c:α->α->Int}(h:IsCmp c):∀a b:List α,lex c b a=-lex c a b
 | [],[]=>rfl
 | [],_::_=>rfl
 | _::_,[]=>rfl
 | a::azs,b::bs=>by
  rw[lex,lex,h.swap a b]
  by_cases e:c a b=0
  ·rw[tB (by omega),tB e];exact lex_swap h azs bs
  ·rw[tC (by omega),tC e]
theorem lex_trans {α:Type}{c:α->α->Int}(h:IsCmp c):∀a b d:List α,lex c a b=-1->lex c b d=-1->lex c a d=-1
 | [],b,[],h1,h2=>by cases b<;>simp[lex]at h1 h2
 | [],b,_::_,h1,h2=>rfl
 | a::azs,[],d,h1,h2=>by simp[lex]at h1
 | a::azs,b::bs,[],h1,h2=>by simp[lex]at h2
 | a::azs,b::bs,d::ds,h1,h2=>by
  rw[lex]at h1 h2 ⊢
  by_cases j:c a b=0
  ·have:=(h.zero a b).1 j
   subst this;rw[tB j]at h1;by_cases g:c a d=0
   ·rw[tB g]at h2 ⊢;exact lex_trans h azs bs ds h1 h2
   ·rw[tC g]at h2 ⊢;exact h2
  ·rw[tC j]at h1;by_cases g:c b d=0
   ·have:=(h.zero b d).1 g;subst this;rw[tC j];exact h1
   ·rw[tC g]at h2;have:=h.trans a b d h1 h2;rw[tC (by omega)];exact this
theorem isCmp_lex {α:Type}{c:α->α->Int}(h:IsCmp c):IsCmp (lex c):=⟨lex_three h,lex_zero h,lex_swap h,lex_trans h⟩
theorem isCmp_ints:IsCmp cmpInts:=by have:cmpInts=lex sgn:=funext fun a=>funext fun b=>lex_ints a b;rw[this];exact isCmp_lex isCmp_sgn
theorem isCmp_mem:IsCmp cmpMem:=by have:cmpMem=lex cmpInts:=funext fun a=>funext fun b=>lex_mem a b;rw[this];exact isCmp_lex isCmp_ints
theorem heads_inj {a b:Out}(h:heads a=heads b)(hm:a.mem=b.mem):a=b:=by
 obtain⟨k,⟨p,s,n⟩,m⟩:=a;obtain⟨j,⟨d,s',q⟩,l⟩:=b;simp[heads]at h hm;obtain⟨rfl,g,rfl,rfl⟩:=h;subst hm;have:p=d:=by cases p<;>cases d<;>simp[bit]at g<;>rfl
 subst this;rfl
theorem isCmp_out:IsCmp cmpOut where
 three a b:=by unfold cmpOut;split;exact isCmp_mem.three _ _;exact isCmp_ints.three _ _
 zero a b:=by
  unfold cmpOut;split;next e=>rw[isCmp_mem.zero];exact⟨fun q=>heads_inj ((isCmp_ints.zero _ _).1 e) q,fun q=>by rw[q]⟩
  next e=>exact⟨fun q=>absurd q e,fun q=>absurd ((isCmp_ints.zero _ _).2 (by rw[q])) e⟩
 swap a b:=by
  unfold cmpOut;rw[isCmp_ints.swap (heads a) (heads b),isCmp_mem.swap a.mem b.mem];by_cases e:cmpInts (heads a) (heads b)=0
  ·rw[tB (by omega),tB e]
  ·rw[tC (by omega),tC e]
 trans a b d h1 h2:=by
  unfold cmpOut at *;by_cases j:cmpInts (heads a) (heads b)=0
  ·rw[tB j]at h1;have l:=(isCmp_ints.zero _ _).1 j;rw[l];by_cases g:cmpInts (heads b) (heads d)=0
   ·rw[tB g]at h2 ⊢;exact isCmp_mem.trans _ _ _ h1 h2
   ·rw[tC g]at h2 ⊢;exact h2
  ·rw[tC j]at h1;by_cases g:cmpInts (heads b) (heads d)=0
   ·rw[<-(isCmp_ints.zero _ _).1 g,tC j];exact h1
   ·rw[tC g]at h2;have:=isCmp_ints.trans _ _ _ h1 h2;rw[tC (by omega)];exact this
end Rn
end
section
namespace Rn
def Asc (l:List Out):Prop:=l.Pairwise fun a b=>cmpOut a b=-1
theorem insert_mem (x:Out):∀(l:List Out)(o:Out),o∈insert x l↔o=x\/o∈l
 | [],o=>by simp[insert]
 | y::r,o=>by
  rw[insert]
  split
  next e =>
   have:=(isCmp_out.zero x y).1 e
   subst this;simp
  next e =>
   split
   ·simp
   ·rw[List.mem_cons,insert_mem x r o,List.mem_cons];constructor
    ·rintro (h|h|h)
     ·exact .inr (.inl h)
     ·exact .inl h
     ·exact .inr (.inr h)
    ·rintro (h|h|h)
     ·exact .inr (.inl h)
     ·exact .inl h
     ·exact .inr (.inr h)
theorem insert_asc (x:Out):∀(l:List Out),Asc l->Asc (insert x l)
 | [],_=>by simp[insert,Asc]
 | y::r,h=>by
  rw[insert]
  unfold Asc at h
  rw[List.pairwise_cons]at h
  split
  next e=>unfold Asc;rw[List.pairwise_cons];exact h
  next e =>
   split
   next e2 =>
    have g:cmpOut x y=-1:=by have:=isCmp_out.three x y;omega
    unfold Asc;rw[List.pairwise_cons,List.pairwise_cons];refine⟨fun z d=>?_,h⟩;rcases List.mem_cons.1 d with rfl|d
    ·exact g
    ·exact isCmp_out.trans _ _ _ g (h.1 z d)
   next e2 =>
    have g:cmpOut y x=-1:=by have:=isCmp_out.three x y;have:=isCmp_out.swap x y;omega
    unfold Asc;rw[List.pairwise_cons];refine⟨fun z d=>?_,insert_asc x r h.2⟩;rcases (insert_mem x r z).1 d with rfl|d
    ·exact g
    ·exact h.1 z d
end Rn
end
section
namespace Rn
def below (x:Out)(l:List Out):Nat:=l.countP fun o=>decide (cmpOut o x<0)
theorem below_le (x:Out)(l:List Out):below x l<=l.length:=List.countP_le_length
theorem asc_tail {y:Out}{r:List Out}(h:Asc (y::r)):Asc r:=by unfold Asc at *;rw[List.pairwise_cons]at h;exact h.2
theorem below_none (x:Out):∀(l:List Out)(y:Out),Asc (y::l)->¬cmpOut y x<0->∀z∈l,¬cmpOut z x<0:=by
 intro l y h p z j m;unfold Asc at h;rw[List.pairwise_cons]at h;have d:=h.1 z j;have g:cmpOut z x=-1:=by have:=isCmp_out.three z x;omega
 have:=isCmp_out.trans _ _ _ d g;omega
theorem below_at (x:Out):∀(l:List Out),Asc l->(∀j y,l[j]?=some y->(cmpOut y x<0↔j<below x l))
 | [],_,j,y,h=>by simp at h
 | y::r,ha,j,z,hz=>by
  by_cases d:cmpOut y x<0
  ·have e:below x (y::r)=below x r+1:=by unfold below;rw[List.countP_cons_of_pos (by simpa using d)]
   rw[e]
   cases j with
   | zero=>simp at hz;subst hz;exact⟨fun _=>Nat.succ_pos _,fun _=>d⟩
   | succ j=>rw[sV]at hz;rw[below_at x r (asc_tail ha) j z hz];omega
  ·have p:=below_none x r y ha d
   have e:below x (y::r)=0:=by
    unfold below;rw[List.countP_eq_zero];intro o m;rcases List.mem_cons.1 m with rfl|m
    ·simpa using d
    ·simpa using p o m
   rw[e];constructor
   ·intro g;exfalso;rcases List.mem_cons.1 (sS hz) with rfl|q
    ·exact d g
    ·exact p z q g
   ·intro q;omega
theorem insert_found (x:Out):∀(l:List Out),Asc l->l[below x l]?=some x->insert x l=l
 | [],_,h=>by simp at h
 | y::r,ha,h=>by
  rw[insert]
  split
  ·rfl
  next e =>
   by_cases g:cmpOut y x<0
   ·have d:below x (y::r)=below x r+1:=by unfold below;rw[List.countP_cons_of_pos (by simpa using g)]
    rw[d,sV]at h;rw[tC (by have:=isCmp_out.swap x y;omega),insert_found x r (asc_tail ha) h]
   ·exfalso
    have d:below x (y::r)=0:=by have:=(below_at x (y::r) ha 0 y rfl);omega
    rw[d]at h;simp at h;subst h;exact e ((isCmp_out.zero _ _).2 rfl)
theorem insert_new (x:Out):∀(l:List Out),Asc l->l[below x l]?≠some x->insert x l=l.take (below x l)++x::l.drop (below x l)
 | [],_,_=>rfl
 | y::r,ha,h=>by
  rw[insert]
  by_cases m:cmpOut y x<0
  ·have d:below x (y::r)=below x r+1:=by unfold below;rw[List.countP_cons_of_pos (by simpa using m)]
   rw[d,sV]at h;have j:=isCmp_out.swap x y;rw[tC (by omega),tC (by omega),insert_new x r (asc_tail ha) h,d];rfl
  ·have d:below x (y::r)=0:=by
    have:=(below_at x (y::r) ha 0 y rfl);omega
   rw[d]at h ⊢;have g:cmpOut x y≠0:=fun e=>h (by rw[(isCmp_out.zero _ _).1 e];rfl);have j:=isCmp_out.swap x y;have p:=isCmp_out.three x y;rw[tC g,tB (by omega)];rfl
end Rn
end
section
namespace Rn
open Ref
theorem exec_wid (f:Fn)(pick:Pick)(x:Ins)(s:St):(exec f pick x s).2.widths=s.widths\/((exec f pick x s).2.widths=s.widths++[x.width]/\(x.op=21\/x.op=23)):=by
 unfold exec;dsimp only;by_cases l:x.op=29
 ·rw[tB l];exact .inl rfl
 rw[tC l];by_cases m:x.op=30
 ·rw[tB m];split<;>exact .inl rfl
 rw[tC m];by_cases p:x.op=31
 ·rw[tB p];exact .inl rfl
 rw[tC p];by_cases q:x.op=32
 ·rw[tB q];exact .inl rfl
 rw[tC q];by_cases r:x.op=26
 ·rw[tB r];split<;>exact .inl rfl
 rw[tC r];by_cases t:x.op=27
 ·rw[tB t];split<;>exact .inl rfl
 rw[tC t];by_cases g:x.op=21
 ·rw[tB g];split
  ·exact .inr ⟨rfl,.inl g⟩
  ·exact .inl rfl
 rw[tC g];by_cases j:x.op=23
 ·rw[tB j];exact .inr ⟨rfl,.inr j⟩
 rw[tC j];by_cases u:x.op=15
 ·rw[tB u];split<;>exact .inl rfl
 rw[tC u];by_cases d:1<=x.op/\x.op<=13
 ·rw[tB d];split<;>exact .inl rfl
 rw[tC d];split<;>exact .inl rfl
def WOk (s:St):Prop:=s.widths.length<=s.steps/\∀z∈s.widths,Wd.Wid z
theorem exec_wok {f:Fn}{pick:Pick}{x:Ins}{s:St}(hx:x.op=21\/x.op=23->Wd.Wid x.width)(h:WOk s):WOk (exec f pick x s.tick).2:=by
 have e:s.tick.steps=s.steps+1:=rfl;have g:s.tick.widths=s.widths:=rfl;unfold WOk;rw[exec_steps,e];rcases exec_wid f pick x s.tick with q|⟨q,j⟩
 ·rw[q,g];exact⟨by have:=h.1;omega,h.2⟩
 ·rw[q,g,tT,List.length_singleton];refine⟨by have:=h.1;omega,fun z d=>?_⟩;rcases tI.1 d with d|d
  ·exact h.2 z d
  ·rw[List.mem_singleton.1 d];exact hx j
theorem runIns_wok (f:Fn)(pick:Pick)(rs:List V):∀(l:List Ins)(i v:Nat)(s:St),(∀x∈l,x.op=21\/x.op=23->Wd.Wid x.width)->WOk s->WOk (runIns f pick rs l i v s).2
 | [],i,v,s,_,h=>h
 | x::r,i,v,s,hl,h=>by
  rw[runIns]
  have g:∀y∈r,y.op=21\/y.op=23->Wd.Wid y.width:=fun y hy=>hl y (List.mem_cons_of_mem _ hy)
  split
  ·exact h
  ·split
   ·exact runIns_wok f pick rs r _ _ _ g ⟨by have:=h.1;show s.widths.length<=s.steps+1;omega,h.2⟩
   ·have d:=exec_wok (f:=f) (pick:=pick) (hl x (List.mem_cons_self)) h;split;next y s' hq=>rw[hq]at d;exact runIns_wok f pick rs r _ _ _ g d
    next s' hq=>rw[hq]at d;exact runIns_wok f pick rs r _ _ _ g d
    next t' s' hq=>rw[hq]at d;exact d
    next o s' hq=>rw[hq]at d;exact d
theorem wid_chosen {f:Fn}(hv:Val f)(hi:Im f){b:Nat}{l:List Ins}(hl:f.blocks[b]?=some l):∀x∈l,x.op=21\/x.op=23->Wd.Wid x.width:=fun x d g=>by
 cases shp hv hi (sS hl) d with
 | freeze h1 a h2 h3 h4=>exact h4
 | any h1 h2 h3=>exact h3
 | _=>exfalso;omega
theorem block_wok {f:Fn}(hv:Val f)(hi:Im f)(pick:Pick)(b:Nat)(frm:Int){s:St}(h:WOk s):WOk (block f pick b frm s).2:=by
 unfold block
 cases hl:f.blocks[b]? with
 | none=>rw[sU,hl];exact h
 | some l=>rw[sU,hl];exact runIns_wok _ _ _ _ _ _ _ (wid_chosen hv hi hl) h
theorem from_wok {f:Fn}(hv:Val f)(hi:Im f)(pick:Pick):∀(n b:Nat)(frm:Int)(s:St),WOk s->WOk (from_ f pick n b frm s).2.1
 | 0,b,frm,s,h=>h
 | n+1,b,frm,s,h=>by
  rw[from_]
  have d:=block_wok hv hi pick b frm h
  split;next o s' hq=>rw[hq]at d;exact d
  next t s' hq=>rw[hq]at d;exact from_wok hv hi pick n _ _ _ d
theorem run_ok {f:Fn}{i:Inp}(hA:RcAll)(hv:Val f)(hi:Im f)(hin:validInput f i=0)(ha:∀a∈i.args,0<=a)(p:List Int) :
  (wids f i p).length<=400/\(∀z∈wids f i p,Wd.Wid z)/\Inv f (run f (given p) i).2.1/\OutOf f (run f (given p) i).2.1 (run f (given p) i).1:=by
 obtain⟨l,d,g⟩:=start_ent hA hin ha;obtain⟨j,m,q⟩:=from_ok hA hv hi (given_ok p) 401 0 (-1) (start f i) l d g (tR _) (by omega);have w:=from_wok hv hi (given p) 401 0 (-1) (start f i) ⟨tR _,fun z hz=>by cases hz⟩;have e:run f (given p) i=from_ f (given p) 401 0 (-1) (start f i):=rfl;unfold wids;rw[e];exact⟨by have:=w.1;omega,w.2,j,m⟩
theorem wid_at {ws:List Int}(h:∀z∈ws,Wd.Wid z){j:Nat}(hj:j<ws.length):Wd.Wid (ws.getD j 0):=by rw[sU,sQ hj];exact h _ (List.getElem_mem hj)
theorem good_words {f:Fn}{i:Inp}{p:List Int}(h:Good f i p)(hw:∀z∈wids f i p,Wd.Wid z):∀z∈padded p (wids f i p).length,0<=z/\z<4294967296:=fun z d=>by
 unfold padded at d;rcases tI.1 d with d|d
 ·obtain⟨j,q⟩:=List.getElem?_of_mem d;have g:=(sR.1 q).1;obtain⟨l,m⟩:=h.2 j g;have r:Wd.sz ((wids f i p).getD j 0)<=4294967296:=Wd.sz_32 (wid_at hw (by have:=h.1;omega));rw[sU,q]at l m;exact⟨l,Int.lt_of_lt_of_le m r⟩
 ·rw[(List.mem_replicate.1 d).2];decide
theorem explore_round {f:Fn}{i:Inp}{n:Nat}{p:List Int}{outs:List Out}{R:Option (List Out)}(h:explore f i (n+1) p outs=R) :
  (nextK (padded p (wids f i p).length) (wids f i p) (wids f i p).length=none->R=some (insert (run f (given p) i).1 outs)) /\
  ∀k,nextK (padded p (wids f i p).length) (wids f i p) (wids f i p).length=some k->explore f i n (bump (padded p (wids f i p).length) k) (insert (run f (given p) i).1 outs)=R:=by
 rw[explore]at h;constructor
 ·intro q;unfold wids at q;rw[q]at h;exact h.symm
 ·intro k q;unfold wids at q;rw[q]at h;exact h
theorem insert_len (x:Out):∀l:List Out,(insert x l).length<=l.length+1
 | []=>tS _
 | y::r=>by
  rw[insert]
  split
  ·exact Nat.le_succ _
  ·split
   ·exact tS _
   ·have:=insert_len x r
    simp only[List.length_cons];omega
end Rn
end

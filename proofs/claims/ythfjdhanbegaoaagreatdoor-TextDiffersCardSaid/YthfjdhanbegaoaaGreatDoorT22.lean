/- Parts. -/
import Derived.Test.YthfjdhanbegaoaaGreatDoorT01
set_option linter.unusedSimpArgs false
set_option linter.unusedVariables false
set_option maxRecDepth 100000
set_option maxHeartbeats 16000000
namespace Go.Proofs.YthfjdhanbegaoaaGreatDoor
section
namespace Ref
def sortP (n:Nat)(L:List (Int × Int)):List (Int × Int):=(List.range n).flatMap fun b:Nat=>L.filter fun p=>decide (p.1=(b:Int))
def Apart (L:List (Int × Int)):Prop:=L.Pairwise fun a b=>a.1=b.1->a.1<0
theorem total_append (a b:List (List Ins)):total (a++b)=total a+total b:=by simp[total]
theorem number_next (f:Fn){b:Nat}{l:List Ins}(h:f.blocks[b]?=some l):number f (b+1)=number f b+l.length:=by unfold number;rw[total_take_succ _ _ _ h];omega
theorem total_take_le (bs:List (List Ins)):∀(i j:Nat),i<=j->total (bs.take i)<=total (bs.take j):=by
 intro i j h
 have:bs.take j=bs.take i++(bs.drop i).take (j-i):=by rw[show j=i+(j-i) by omega,List.take_add,show i+(j-i)-i=j-i by omega]
 rw[this,total_append];omega
theorem number_le (f:Fn){b c:Nat}{l:List Ins}(h:f.blocks[b]?=some l)(hc:b<c):number f b+l.length<=number f c:=by have d:=number_next f h;have g:=total_take_le f.blocks (b+1) c (by omega);unfold number at d ⊢;omega
theorem number_count (f:Fn){b:Nat}{l:List Ins}(h:f.blocks[b]?=some l):number f b+l.length<=count f:=by have d:=(oZ.1 h).1;unfold count;exact number_le f h d
def start (f:Fn)(o:List Nat):Nat:=f.params.length+(o.map fun b=>(f.blocks.getD b []).length).sum
def numFrom (f:Fn)(v:Int):List Nat->Nat->Int
 | [],_=>-1
 | b::r,n=>if (number f b:Int)<=v/\v<number f b+(f.blocks.getD b []).length then n+(v-number f b) else numFrom f v r (n+(f.blocks.getD b []).length)
def num (f:Fn)(o:List Nat)(v:Int):Int:=if v<f.params.length then v else numFrom f v o f.params.length
def toFrom (b:Int):List Nat->Nat->Int
 | [],_=>-1
 | c::r,k=>if b=c then k else toFrom b r (k+1)
def toOf (o:List Nat)(b:Int):Int:=toFrom b o 0
def phiL (f:Fn)(o:List Nat)(x:Ins):List (Int × Int):=(x.to.zip x.args).map fun p=>(toOf o p.1,num f o p.2)
def renum (f:Fn)(o:List Nat)(x:Ins):Ins :=
 if x.op=28 then ⟨x.op,x.width,x.flags,(sortP f.blocks.length (phiL f o x)).map (·.2),x.imm,(sortP f.blocks.length (phiL f o x)).map (·.1)⟩
 else ⟨x.op,x.width,x.flags,x.args.map (num f o),x.imm,x.to.map (toOf o)⟩
def moved (f:Fn)(o:List Nat):Fn:={f with blocks:=o.map fun b=>(f.blocks.getD b []).map (renum f o)}
theorem toFrom_get:∀(o:List Nat)(k j c:Nat),o[j]?=some c->o.Nodup->toFrom c o k=(k+j:Nat)
 | [],k,j,c,h,_=>by simp at h
 | d::r,k,0,c,h,_=>by
  simp at h;subst h
  simp[toFrom]
 | d::r,k,j+1,c,h,hn=>by
  obtain⟨g,l⟩:=List.nodup_cons.1 hn
  have m:c∈r:=pa (by simpa using h)
  rw[toFrom,pC (fun e=>g (by have e':c=d:=by omega
                             exact e' ▸ m)),toFrom_get r (k+1) j c (by simpa using h) l]
  omega
theorem toOf_get {o:List Nat}(hn:o.Nodup){k b:Nat}(h:o[k]?=some b):toOf o b=k:=by unfold toOf;rw[toFrom_get o 0 k b h hn];simp
theorem getD_some {f:Fn}{b:Nat}{l:List Ins}(h:f.blocks[b]?=some l):f.blocks.getD b []=l:=by rw[pb,h];rfl
structure Ord (f:Fn)(o:List Nat):Prop where
 nodup:o.Nodup
 lt:∀b∈o,b<f.blocks.length
 first:o[0]?=some 0
end Ref
end
section
namespace Ref
theorem phisFrom_iff (g:List (List Int)):∀(bs:List (List Ins))(b:Nat),phisFrom g bs b=true↔∀j l,bs[j]?=some l->∀x∈l,x.op=28->x.to=before g ((b+j:Nat):Int)
 | [],b=>by simp[phisFrom]
 | l::r,b=>by
  unfold phisFrom
  rw[pD,phisFrom_iff g r (b+1),pw]
  constructor
  ·rintro⟨t,u⟩ j q p x m d
   cases j with
   | zero =>
    simp at p;subst p
    have:=t x m
    rw[sameInts_eq]at this;simpa[d] using this
   | succ j =>
    have:=u j q (by simpa using p) x m d;rw[this];congr 1;omega
  ·intro h;refine⟨fun x m=>?_,fun j q p x m d=>?_⟩
   ·rw[sameInts_eq];by_cases d:x.op=28
    ·have:=h 0 l rfl x m d;simp[d,this]
    ·simp[d]
   ·have:=h (j+1) q (by simpa using p) x m d;rw[this];congr 1;omega
theorem argsFrom_iff (f:Fn)(g:List (List Int))(inn:List Bool)(b i:Nat)(x:Ins):∀(vs:List Int)(k:Nat),argsFrom f g inn b i x vs k=true↔∀j v,vs[j]?=some v->argOk f g inn b i x v (x.to.getD (k+j) 0)=true
 | [],k=>by simp[argsFrom]
 | v::r,k=>by
  unfold argsFrom
  rw[pD,argsFrom_iff f g inn b i x r (k+1)]
  constructor
  ·rintro⟨l,m⟩ j u d
   cases j with
   | zero=>simp at d;subst d;exact l
   | succ j =>
    have:=m j u (by simpa using d)
    rwa [show k+1+j=k+(j+1) by omega]at this
  ·intro h;refine⟨h 0 v rfl,fun j u d=>?_⟩;have:=h (j+1) u (by simpa using d)
   rwa [show k+(j+1)=k+1+j by omega]at this
theorem insFrom_iff (f:Fn)(g:List (List Int))(inn:List Bool)(b:Nat):∀(l:List Ins)(i:Nat),insFrom f g inn b l i=true↔∀j x,l[j]?=some x->argsFrom f g inn b (i+j) x x.args 0=true
 | [],i=>by simp[insFrom]
 | y::r,i=>by
  unfold insFrom
  rw[pD,insFrom_iff f g inn b r (i+1)]
  constructor
  ·rintro⟨m,p⟩ j x d
   cases j with
   | zero=>simp at d;subst d;exact m
   | succ j =>
    have:=p j x (by simpa using d)
    rwa [show i+1+j=i+(j+1) by omega]at this
  ·intro h;refine⟨h 0 y rfl,fun j x d=>?_⟩;have:=h (j+1) x (by simpa using d)
   rwa [show i+(j+1)=i+1+j by omega]at this
theorem blksFrom_iff (f:Fn)(g:List (List Int))(inn:List Bool):∀(bs:List (List Ins))(b:Nat),blksFrom f g inn bs b=true↔∀j l,bs[j]?=some l->inn.getD (b+j) false=true->insFrom f g inn (b+j) l 0=true
 | [],b=>by simp[blksFrom]
 | l::r,b=>by
  unfold blksFrom
  rw[pD,blksFrom_iff f g inn r (b+1)]
  constructor
  ·rintro⟨q,t⟩ j p m d
   cases j with
   | zero =>
    simp at m;subst m
    rw[Nat.add_zero]at d ⊢
    rw[d]at q
    simpa using q
   | succ j =>
    have:=t j p (by simpa using m)
    rw[show b+1+j=b+(j+1) by omega]at this;exact this d
  ·intro h;refine⟨?_,fun j p m d=>?_⟩
   ·have:=h 0 l rfl;rw[Nat.add_zero]at this
    cases hb:inn.getD b false with
    | false=>rfl
    | true=>simpa using this hb
   ·have:=h (j+1) p (by simpa using m);rw[show b+(j+1)=b+1+j by omega]at this;exact this d
structure Val (f:Fn):Prop where
 size:f.params.length<=3/\f.slots.length<=2/\1<=f.blocks.length/\f.blocks.length<=10/\total f.blocks<=40
 ret:0<=f.ret/\f.ret<=32
 head:f.params.all isWidth=true/\f.slots.all isSlot=true
 arg:∀l∈f.blocks,∀x∈l,argument f x=true
 laid:∀l∈f.blocks,laid l=true
 entry:before (graph f) 0=[]
 phi:∀(b:Nat)(l:List Ins),f.blocks[b]?=some l->∀x∈l,x.op=28->x.to=before (graph f) (b:Int)
 typ:∀l∈f.blocks,∀x∈l,typed f x=true
 st:∀(b:Nat)(l:List Ins),f.blocks[b]?=some l->(reached (graph f) (-1)).getD b false=true->∀(i:Nat) x,l[i]?=some x->∀(k:Nat) v,x.args[k]?=some v->argOk f (graph f) (reached (graph f) (-1)) b i x v (x.to.getD k 0)=true
theorem rules_iff (f:Fn):rules f=true↔(∀l∈f.blocks,laid l=true)/\before (graph f) 0=[]/\(∀(b:Nat)(l:List Ins),f.blocks[b]?=some l->∀x∈l,x.op=28->x.to=before (graph f) (b:Int)):=by unfold rules;rw[pD,pD,phisFrom_iff,pw,List.isEmpty_iff,and_assoc];simp only[Nat.zero_add]
theorem stated_iff (f:Fn):stated f=true↔∀(b:Nat)(l:List Ins),f.blocks[b]?=some l->(reached (graph f) (-1)).getD b false=true->∀(i:Nat) x,l[i]?=some x->∀(k:Nat) v,x.args[k]?=some v->argOk f (graph f) (reached (graph f) (-1)) b i x v (x.to.getD k 0)=true:=by unfold stated;rw[blksFrom_iff];simp only[Nat.zero_add,insFrom_iff,argsFrom_iff]
theorem all_all {f:Fn}{p:Ins->Bool}:(f.blocks.all fun l=>l.all p)=true↔∀l∈f.blocks,∀x∈l,p x=true:=by simp only[pw]
theorem val_iff (f:Fn):validate f=0↔Val f:=by
 have A:validate f=0↔¬(3<f.params.length\/2<f.slots.length\/f.blocks.length<1\/10<f.blocks.length)/\¬40<total f.blocks/\¬(f.ret<0\/32<f.ret)/\¬f.params.all isWidth=false/\¬f.slots.all isSlot=false /\
   ¬(f.blocks.all (fun l=>l.all (argument f))=false)/\¬rules f=false/\¬(f.blocks.all (fun l=>l.all (typed f))=false)/\¬stated f=false:=by
  unfold validate;by_cases t:3<f.params.length\/2<f.slots.length\/f.blocks.length<1\/10<f.blocks.length
  ·rw[pB t];exact⟨fun h=>by omega,fun h=>absurd t h.1⟩
  rw[pC t];by_cases z:40<total f.blocks
  ·rw[pB z];exact⟨fun h=>by omega,fun h=>absurd z h.2.1⟩
  rw[pC z];by_cases u:f.ret<0\/32<f.ret
  ·rw[pB u];exact⟨fun h=>by omega,fun h=>absurd u h.2.2.1⟩
  rw[pC u];by_cases d:f.params.all isWidth=false
  ·rw[pB d];exact⟨fun h=>by omega,fun h=>absurd d h.2.2.2.1⟩
  rw[pC d];by_cases y:f.slots.all isSlot=false
  ·rw[pB y];exact⟨fun h=>by omega,fun h=>absurd y h.2.2.2.2.1⟩
  rw[pC y];by_cases g:f.blocks.all (fun l=>l.all (argument f))=false
  ·rw[pB g];exact⟨fun h=>by omega,fun h=>absurd g h.2.2.2.2.2.1⟩
  rw[pC g];by_cases j:rules f=false
  ·rw[pB j];exact⟨fun h=>by omega,fun h=>absurd j h.2.2.2.2.2.2.1⟩
  rw[pC j];by_cases m:f.blocks.all (fun l=>l.all (typed f))=false
  ·rw[pB m];exact⟨fun h=>by omega,fun h=>absurd m h.2.2.2.2.2.2.2.1⟩
  rw[pC m];by_cases p:stated f=false
  ·rw[pB p];exact⟨fun h=>by omega,fun h=>absurd p h.2.2.2.2.2.2.2.2⟩
  rw[pC p];exact⟨fun _=>⟨t,z,u,d,y,g,j,m,p⟩,fun _=>rfl⟩
 rw[A];simp only[Bool.not_eq_false,all_all,rules_iff,stated_iff];constructor
 ·rintro⟨t,z,u,d,y,g,⟨j,m,p⟩,q,r⟩;exact⟨⟨by omega,by omega,by omega,by omega,by omega⟩,⟨by omega,by omega⟩,⟨d,y⟩,g,j,m,p,q,r⟩
 ·rintro⟨t,u,d,g,j,m,p,q,r⟩;exact⟨by omega,by omega,by omega,d.1,d.2,g,⟨j,m,p⟩,q,r⟩
theorem graph_at (f:Fn){b:Nat}{l:List Ins}(h:f.blocks[b]?=some l):(graph f)[b]?=some ((l.getLast?.map (·.to)).getD []):=by unfold graph;rw[pk,h];rfl
theorem laid_last:∀(l:List Ins)(p:Bool),l≠[]->laidFrom l p=true->∃x,l.getLast?=some x/\isLast x.op=true
 | [],_,h,_=>absurd rfl h
 | [x],p,_,h=>by
  simp[laidFrom]at h
  exact⟨x,rfl,h.1⟩
 | x::y::r,p,_,h=>by
  rw[laidFrom]at h
  simp only[pD]at h
  obtain⟨z,g,d⟩:=laid_last (y::r) _ (by simp) h.2
  exact⟨z,by rw[List.getLast?_cons_cons];exact g,d⟩
theorem last_of {l:List Ins}(h:laid l=true):∃x,l.getLast?=some x/\isLast x.op=true/\x∈l:=by unfold laid at h;rw[pD]at h;obtain⟨x,d,g⟩:=laid_last l true (by intro e;subst e;simp at h) h.2;exact⟨x,d,g,List.mem_of_getLast? d⟩
theorem last_not_phi {op:Int}(h:isLast op=true):op≠28:=by unfold isLast at h;simp at h;omega
theorem arg_to {f:Fn}{x:Ins}(h:argument f x=true):∀t∈x.to,0<=t/\t<f.blocks.length:=by unfold argument at h;simp only[pD,pw,decide_eq_true_eq]at h;exact h.1.2
theorem val_graph {f:Fn}(h:Val f){b:Nat}{l:List Ins}(hl:f.blocks[b]?=some l):∃x,x∈l/\x.op≠28/\l.getLast?=some x/\(graph f)[b]?=some x.to:=by obtain⟨x,d,g,j⟩:=last_of (h.laid l (pa hl));refine⟨x,j,last_not_phi g,d,?_⟩;rw[graph_at f hl,d];rfl
theorem graph_len (f:Fn):(graph f).length=f.blocks.length:=by simp[graph]
theorem val_gok {f:Fn}(h:Val f):∀l∈graph f,∀t∈l,0<=t/\t<((graph f).length:Int):=by intro e m t p;obtain⟨b,g⟩:=List.getElem?_of_mem m;have d:=(oZ.1 g).1;rw[graph_len]at d ⊢;obtain⟨x,q,-,-,j⟩:=val_graph h (oY d);rw[g]at j;cases j;exact arg_to (h.arg _ (List.getElem_mem d) x q) t p
end Ref
end
section
namespace Ref
theorem sum_perm_le (w:Nat->Nat):∀(n:Nat)(o:List Nat),o.Nodup->(∀b∈o,b<n)->(o.map w).sum<=((List.range n).map w).sum
 | 0,o,_,h=>by
  cases o with
  | nil=>simp
  | cons a r=>exact absurd (h a (by simp)) (by omega)
 | n+1,o,hn,h=>by
  rw[List.range_succ,List.map_append,List.sum_append]
  by_cases d:n∈o
  ·have l:=List.perm_cons_erase d
   have m:(o.map w).sum=w n+((o.erase n).map w).sum:=by rw[(l.map w).sum_nat];simp
   have:=sum_perm_le w n (o.erase n) (hn.erase n) fun b hb=>by
    have g:=h b (List.mem_of_mem_erase hb);have j:b≠n:=fun e=>by subst e;exact hn.not_mem_erase hb
    omega
   rw[m];simp;omega
  ·have:=sum_perm_le w n o hn fun b hb=>by
    have g:=h b hb;have j:b≠n:=fun e=>d (e ▸ hb);omega
   simp;omega
theorem sum_one (o:List Nat):(o.map fun _=>1).sum=o.length:=by
 induction o with
 | nil=>rfl
 | cons a r ih=>simp;omega
theorem total_range (bs:List (List Ins)):((List.range bs.length).map fun b=>(bs.getD b []).length).sum=total bs:=by
 unfold total;congr 1;apply List.ext_getElem?;intro i;simp only[pk];rcases pF i bs.length with h|h
 ·rw[oY (by simpa using h),oY h];simp[pb,h]
 ·rw[pr (by simpa using h),pr h];rfl
theorem Ord.short {f:Fn}{o:List Nat}(h:Ord f o):o.length<=f.blocks.length:=by have:=sum_perm_le (fun _=>1) f.blocks.length o h.nodup h.lt;rw[sum_one,sum_one]at this;simpa using this
theorem Ord.total {f:Fn}{o:List Nat}(h:Ord f o):Ref.total (moved f o).blocks<=Ref.total f.blocks:=by
 have:=sum_perm_le (fun b=>(f.blocks.getD b []).length) f.blocks.length o h.nodup h.lt;rw[total_range]at this
 have e:Ref.total (moved f o).blocks=(o.map fun b=>(f.blocks.getD b []).length).sum:=by unfold Ref.total moved;rw[List.map_map];congr 1;exact List.map_congr_left fun b _=>by simp
 rw[e];exact this
structure IsRc (g:List (List Int))(but:Int)(R:Nat->Prop):Prop where
 root:but≠0->R 0
 step:∀(b:Nat)(t:Int),R b->t∈g.getD b []->(t.toNat:Int)≠but->R t.toNat
 least:∀S:Nat->Prop,(but≠0->S 0)->(∀(b:Nat)(t:Int),R b->S b->t∈g.getD b []->(t.toNat:Int)≠but->S t.toNat)->∀i,R i->S i
def rc (g:List (List Int))(but:Int)(i:Nat):Prop:=(reached g but).getD i false=true
def RcAll:Prop:=∀(g:List (List Int))(but:Int),1<=g.length->(∀l∈g,∀t∈l,0<=t/\t<(g.length:Int))->IsRc g but (rc g but)
theorem Val.rc (h:RcAll){f:Fn}(hv:Val f)(but:Int):IsRc (graph f) but (Ref.rc (graph f) but) :=
 h _ _ (by rw[graph_len];exact hv.size.2.2.1) (val_gok hv)
theorem counts_iff (s:Int × Int × Bool)(x:Ins):counts s x=true↔(0<=s.1->(x.args.length:Int)=s.1)/\(s.1<0->x.args.length=x.to.length)/\(0<=s.2.1->(x.to.length:Int)=s.2.1):=by
 unfold counts;simp only[Bool.not_eq_true',Bool.or_eq_false_iff,Bool.and_eq_false_iff,decide_eq_false_iff_not,Decidable.not_not];constructor
 ·rintro⟨⟨d,g⟩,j⟩;exact⟨fun h=>d.resolve_left (fun q=>q h),fun h=>g.resolve_left (fun q=>q h),fun h=>j.resolve_left (fun q=>q h)⟩
 ·rintro⟨d,g,j⟩;refine⟨⟨?_,?_⟩,?_⟩
  ·by_cases h:0<=s.1
   ·exact .inr (d h)
   ·exact .inl h
  ·by_cases h:s.1<0
   ·exact .inr (g h)
   ·exact .inl h
  ·by_cases h:0<=s.2.1
   ·exact .inr (j h)
   ·exact .inl h
theorem argument_iff (f:Fn)(x:Ins):argument f x=true↔(shape f x).2.2=true/\counts (shape f x) x=true/\(∀z∈x.to,0<=z/\z<f.blocks.length)/\(x.op=30->x.to.getD 0 0≠x.to.getD 1 0):=by
 unfold argument;simp only[pD,Bool.or_eq_true,pw,decide_eq_true_eq,and_assoc];constructor
 ·rintro⟨d,g,j,l⟩;exact⟨d,g,j,fun e=>l.resolve_left (fun q=>q e)⟩
 ·rintro⟨d,g,j,l⟩;refine⟨d,g,j,?_⟩;by_cases e:x.op=30
  ·exact .inr (l e)
  ·exact .inl e
end Ref
end
section
namespace Ref
theorem get_uniq {o:List Nat}(hn:o.Nodup){j k c:Nat}(h1:o[j]?=some c)(h2:o[k]?=some c):j=k:=by have d:=toOf_get hn h1;have g:=toOf_get hn h2;omega
end Ref
end
section
namespace Ref
structure Back (f:Fn)(o p:List Nat):Prop where
 all:∀b,b<f.blocks.length->b∈o
 len:p.length=f.blocks.length
 back:∀b k:Nat,p[b]?=some k->o[k]?=some b
theorem Back.at {f:Fn}{o p:List Nat}(h:Back f o p)(hn:o.Nodup){b k:Nat}(hk:o[k]?=some b)(hb:b<f.blocks.length):p[b]?=some k:=by obtain⟨j,d⟩:∃j,p[b]?=some j:=⟨_,oY (by rw[h.len];exact hb)⟩;have g:=h.back b _ d;rw[d,get_uniq hn g hk]
def kept (f:Fn):List Nat:=(List.range f.blocks.length).filter fun b=>(reached (graph f) (-1)).getD b false
end Ref
end
section
namespace Ref
end Ref
end
section
namespace Ref
end Ref
end
section
namespace Ref
def Small (s:Int × Int × Bool):Prop:=0<=s.1/\s.1<=3/\0<=s.2.1/\s.2.1<=2
end Ref
end
